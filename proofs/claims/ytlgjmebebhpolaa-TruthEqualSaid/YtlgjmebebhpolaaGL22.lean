import Derived.Test.YtlgjmebebhpolaaGL21
namespace Go.GL
set_option linter.unusedVariables false
inductive Pick : List Ent → Ent → List Ent → Prop
  | here {e H} : Pick (e :: H) e H
  | row {a : Option Nat} {E sz cap : Nat} {xs xs' : List Value} {H} : xs = xs' → Pick (row a E sz cap xs :: H) (row a E sz cap xs') H
  | there {x e H R} : Pick H e R → Pick (x :: H) e (x :: R)
theorem Pick.perm {H e R} (p : Pick H e R) : H.Perm (e :: R) := by
  induction p with
  | here => exact List.Perm.refl _
  | row h => subst h; exact List.Perm.refl _
  | there _ ih => exact (List.Perm.cons _ ih).trans (List.Perm.swap _ _ _)
inductive Sp : List Ent → List Ent → Prop
  | sub {H H'} : H'.Sublist H → Sp H H'
  | cons {H e R H'} : Pick H e R → Sp R H' → Sp H (e :: H')
theorem Sp.refl (H : List Ent) : Sp H H := .sub (List.Sublist.refl _)
theorem Sp.nil {H : List Ent} : Sp H [] := .sub (List.nil_sublist _)
theorem Sp.mem {H H'} (s : Sp H H') : ∀ e ∈ H', e ∈ H := by
  induction s with
  | sub h => exact fun e he => h.subset he
  | cons p _ ih =>
    intro x hx
    cases hx with
    | head => exact p.perm.mem_iff.2 (List.mem_cons_self)
    | tail _ hx => exact p.perm.mem_iff.2 (List.mem_cons_of_mem _ (ih x hx))
theorem Sp.le {H H'} (s : Sp H H') : Le H H' := by
  induction s with
  | sub h => exact Le.sub h
  | cons p s ih =>
    intro w hw
    have h := Le.perm p.perm w hw
    exact ⟨h.1, h.2.1, fun x hx => h.2.2.1 x (s.mem x hx), ih w h.tail⟩
theorem Sp.skip {x H H'} (s : Sp H H') : Sp (x :: H) H' := by
  induction s with
  | sub h => exact .sub (List.Sublist.cons _ h)
  | cons p s ih => exact .cons (.there p) ih
section
variable {P : Program} {n : Nat} {S : List (Nat × Value)} {H : List Ent} {A : Array Oper} {Q : Exit → Act → World → Prop}
theorem Nrm.rowCap {b E sz cap : Nat} {xs : List Value} (hm : row (some b) E sz cap xs ∈ H) (h : xs.length ≤ cap * sz → Nrm n S H Q) : Nrm n S H Q := by
  intro a w hS hM
  refine h ?_ a w hS hM
  have := hM.ok _ hm
  unfold row at this
  obtain ⟨sp, _, h2, _⟩ := this
  omega
theorem TOps.hide2 {b E sz cap : Nat} {xs : List Value} {l : List Oper} {e : Ent} (h : ∀ H', Le H' H → H.Sublist H' → Rd H' b 0 xs → TOps P n S (e :: H') l A Q) : TOps P n S (row (some b) E sz cap xs :: e :: H) l A Q :=
  TOps.le Le.swap (h _ (Le.drop (Le.refl H)) (List.sublist_cons_self _ _) (Rd.all (E := E) (sz := sz) (cap := cap) (by simp)))
end
def trA (to : List Nat) (args : List Int) : List Int := args.map (fun a => ((to.getD a.toNat 0 : Nat) : Int))
def trN (to : List Nat) (d : Nd) : Nd := ⟨d.kind, d.k, trA to d.args⟩
def trS (m : List Bool) (v : Nat) (nodes : List Nd) : Nat → List Nat × List Nd
  | 0 => (List.range v ++ List.replicate nodes.length 0, [])
  | k + 1 => bif m.getD (v + k) false then ((trS m v nodes k).1.set (v + k) (v + (trS m v nodes k).2.length), (trS m v nodes k).2 ++ [trN (trS m v nodes k).1 (nodes.getD k ⟨0, 0, []⟩)]) else trS m v nodes k
def Fm.trS (F : Fm) (k : Nat) : List Nat × List Nd := GL.trS F.below F.vars.toNat F.nodes k
def Fm.trim (F : Fm) : Fm := ⟨F.vars, (F.trS F.nodes.length).2, (((F.trS F.nodes.length).1.getD F.top.toNat 0 : Nat) : Int)⟩
theorem trA_take_succ {to : List Nat} {l : List Int} {j : Nat} (hj : j < l.length) : trA to (l.take (j + 1)) = trA to (l.take j) ++ [((to.getD l[j].toNat 0 : Nat) : Int)] := by
  unfold trA
  rw [List.take_succ_eq_append_getElem hj, List.map_append]
  rfl
theorem trA_length (to : List Nat) (l : List Int) : (trA to l).length = l.length := by simp [trA]
section
variable {m : List Bool} {v : Nat} {nodes : List Nd}
theorem trS_length (k : Nat) : (trS m v nodes k).1.length = v + nodes.length := by
  induction k with
  | zero => simp [trS]
  | succ k ih => unfold trS; cases m.getD (v + k) false <;> simp [ih]
theorem trS_le (k : Nat) : (trS m v nodes k).2.length ≤ k := by
  induction k with
  | zero => simp [trS]
  | succ k ih => unfold trS; cases m.getD (v + k) false <;> simp <;> omega
theorem trS_bound (k j : Nat) : (trS m v nodes k).1.getD j 0 ≤ v + k := by
  induction k with
  | zero =>
    unfold trS
    rw [List.getD_eq_getElem?_getD, List.getElem?_append]
    split
    · rename_i h; simp at h; simp [h]; omega
    · rw [List.getElem?_replicate]; split <;> simp
  | succ k ih =>
    unfold trS
    cases m.getD (v + k) false with
    | false => simp only [cond_false]; omega
    | true =>
      simp only [cond_true, List.getD_eq_getElem?_getD, List.getElem?_set]
      have := trS_le (m := m) (v := v) (nodes := nodes) k
      rw [List.getD_eq_getElem?_getD] at ih
      split
      · split
        · simp; omega
        · simp
      · omega
theorem trS_args (h : ∀ i (hi : i < nodes.length), nodes[i].args.length ≤ 16) (k : Nat) (hk : k ≤ nodes.length) : ∀ d ∈ (trS m v nodes k).2, d.args.length ≤ 16 := by
  induction k with
  | zero => simp [trS]
  | succ k ih =>
    unfold trS
    cases m.getD (v + k) false with
    | false => exact ih (by omega)
    | true =>
      intro d hd
      simp only [cond_true, List.mem_append, List.mem_singleton] at hd
      rcases hd with hd | rfl
      · exact ih (by omega) d hd
      · have := h k (by omega)
        simp only [trN, trA_length]
        rw [show nodes.getD k ⟨0, 0, []⟩ = nodes[k] from by simp [show k < nodes.length by omega]]
        exact this
end
theorem setRange {v k m : Nat} (hk : k < v) : (List.range k ++ List.replicate (v + m - k) 0).set k k = List.range (k + 1) ++ List.replicate (v + m - (k + 1)) 0 := by
  rw [List.set_append_right _ _ (by simp), List.length_range, Nat.sub_self, show v + m - k = (v + m - (k + 1)) + 1 by omega, List.replicate_succ, List.range_succ]
  simp
def NewFE (T : TypeId) (F : Fm) (e : Option Int) (H : List Ent) : Value → List Ent → Prop := fun u H' => ∃ tv, u = .tuple (List.toArray [tv, errV T e]) ∧ NewF F H tv H'
def Fm.zero : Fm := ⟨0, [], 0⟩
theorem nsCells_snoc : ∀ (ns : List Nd) (qs : List SA) (d : Nd) (q : SA), qs.length = ns.length → nsCells (ns ++ [d]) (qs ++ [q]) = nsCells ns qs ++ ndCells d q
  | [], [], d, q, _ => by simp [nsCells]
  | [], q' :: s, d, q, h => by simp at h
  | d' :: r, [], d, q, h => by simp at h
  | d' :: r, q' :: s, d, q, h => by
    have := nsCells_snoc r s d q (by simpa using h)
    simp [nsCells, this]
theorem Le.rot3 {a b o n m : Ent} {H : List Ent} : Le (a :: b :: o :: n :: m :: H) (o :: n :: m :: a :: H) := by
  have h1 : Le (a :: b :: o :: n :: m :: H) (a :: o :: n :: m :: H) := Le.sub (List.Sublist.cons_cons _ (List.sublist_cons_self _ _))
  have h2 : (a :: o :: n :: m :: H).Perm (o :: n :: m :: a :: H) := (List.perm_middle (l₁ := [o, n, m]) (a := a) (l₂ := H)).symm
  exact h1.trans (Le.perm h2)
def ArgsIn (H : List Ent) (ns : List Nd) (qs : List SA) : Prop := qs.length = ns.length ∧ ∀ (i : Nat) (d : Nd) (q : SA), ns[i]? = some d → qs[i]? = some q → RInts H q.1 q.2.1 d.args q.2.2.2
theorem ArgsIn.nil {H : List Ent} : ArgsIn H [] [] := ⟨rfl, fun i d q h => by simp at h⟩
theorem ArgsIn.le {H H' : List Ent} {ns qs} (h : ArgsIn H ns qs) (hl : Le H' H) : ArgsIn H' ns qs := ⟨h.1, fun i d q h1 h2 => RdS.le (h.2 i d q h1 h2) hl⟩
theorem ArgsIn.snoc {H : List Ent} {ns qs} {d : Nd} {q : SA} (h : ArgsIn H ns qs) (hd : RInts H q.1 q.2.1 d.args q.2.2.2) : ArgsIn H (ns ++ [d]) (qs ++ [q]) := by
  refine ⟨by simp [h.1], fun i d' q' h1 h2 => ?_⟩
  have hl := h.1
  rcases Nat.lt_or_ge i ns.length with hi | hi
  · rw [List.getElem?_append_left hi] at h1
    rw [List.getElem?_append_left (by omega)] at h2
    exact h.2 i d' q' h1 h2
  · rw [List.getElem?_append_right hi] at h1
    rw [List.getElem?_append_right (by omega), hl] at h2
    have h0 : i - ns.length = 0 := by
      have := (List.getElem?_eq_some_iff.1 h1).1
      simp at this; omega
    rw [h0] at h1 h2
    simp at h1 h2
    subst h1 h2
    exact hd
theorem RNodes.ofA {H : List Ent} {a : Option Nat} {E sz cap : Nat} {ns : List Nd} {qs : List SA} (hm : row a E sz cap (nsCells ns qs) ∈ H) (h : ArgsIn H ns qs) (ha : ns ≠ [] → ∃ b, a = some b) : RNodes H a 0 ns := by
  by_cases hn : ns = []
  · exact .inl hn
  · obtain ⟨b, rfl⟩ := ha hn
    exact RNodes.ofRow hm h.1 h.2
end Go.GL
