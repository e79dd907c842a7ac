import Derived.Test.YthehdjppejmfcaaWA
import Derived.Laws.StructEq
import Derived.Maps.Keyed
import Derived.DeepKeys4
namespace Go.GL
set_option linter.unusedVariables false
def szN (m : List Bool) (v : Nat) : Nat → Nat
  | 0 => 0
  | k + 1 => bif m.getD (v + k) false then szN m v k + 1 else szN m v k
def szA (m : List Bool) (v : Nat) (nodes : List Nd) : Nat → Nat
  | 0 => 0
  | k + 1 => bif m.getD (v + k) false then szA m v nodes k + (nodes.getD k ⟨0, 0, []⟩).args.length else szA m v nodes k
theorem szN_le (m : List Bool) (v : Nat) : ∀ k, szN m v k ≤ k
  | 0 => Nat.le_refl _
  | k + 1 => by
    have := szN_le m v k
    unfold szN
    cases m.getD (v + k) false <;> simp <;> omega
theorem szA_le {m : List Bool} {v : Nat} {nodes : List Nd} (h : ∀ i (hi : i < nodes.length), nodes[i].args.length ≤ 16) : ∀ k, k ≤ nodes.length → szA m v nodes k ≤ 16 * k
  | 0, _ => Nat.le_refl _
  | k + 1, hk => by
    have ih := szA_le (m := m) (v := v) h k (by omega)
    have h1 := h k (by omega)
    have hn : nodes.getD k ⟨0, 0, []⟩ = nodes[k] := by simp [show k < nodes.length by omega]
    unfold szA
    rw [hn]
    cases m.getD (v + k) false <;> simp <;> omega
def Fm.sizeN (F : Fm) : Nat := szN F.below F.vars.toNat F.nodes.length
def Fm.sizeA (F : Fm) : Nat := szA F.below F.vars.toNat F.nodes F.nodes.length
def maxD (ds : List Nat) (args : List Int) : Nat := args.foldl (fun m a => max m (ds.getD a.toNat 0)) 0
def depFrom : List Nat → List Nd → List Nat
  | ds, [] => ds
  | ds, d :: r => depFrom (ds ++ [maxD ds d.args + 1]) r
def Fm.depths (F : Fm) : List Nat := depFrom (List.replicate F.vars.toNat 0) F.nodes
def Fm.depth (F : Fm) : Nat := F.depths.getD F.top.toNat 0
abbrev nats (l : List Nat) : List Value := l.map (fun (n : Nat) => Value.int .i64 (n : Int))
theorem nats_get {l : List Nat} {i : Nat} (hi : i < l.length) : (nats l)[i]? = some (.int .i64 (l.getD i 0 : Nat)) := by
  simp [hi]
theorem nats_set (l : List Nat) (k b : Nat) : nats (l.set k b) = (nats l).set k (.int .i64 b) := List.map_set
def refDep (v : Nat) (nodes : List Nd) (k : Nat) : List Nat := depFrom (List.replicate v 0) (nodes.take k) ++ List.replicate (nodes.length - k) 0
end Go.GL
namespace Go.GL
set_option linter.unusedVariables false
set_option linter.unusedSimpArgs false
section
variable {P : Program} {n : Nat} {S : List (Nat × Value)} {H : List Ent} {A : Array Oper} {Q : Exit → Act → World → Prop}
theorem Tri.drawC {id : Nat} {l : List Oper} (hm : P.follows .mixedOrders = true) (S0 S1 : List (Nat × Value)) (vs : List Value) (H0 : List Ent) (sel : List Nat)
    (hok : drawOk n S0 l = true) (hs : Has S S0) (hs1 : Has S S1) (hl : Le H H0)
    (hob : Obs (X := Unit) P n S0 S1 l (fun _ i => vs.getD i undef) (fun _ _ => H0) [] Q 0 l)
    (hq : Nrm n (selS l (fun i => vs.getD i undef) S0 sel) H0 Q) : Tri P n S H (.region id l.toArray true) Q :=
  Tri.drawN (X := Unit) hm S0 S1 (fun _ i => vs.getD i undef) (fun _ _ => H0) [] () sel hok rfl hs hs1 hl hob (fun _ => hq)
theorem Tri.drawX {X : Type} {id : Nat} {l : List Oper} (hm : P.follows .mixedOrders = true) (S0 S1 : List (Nat × Value)) (vs : X → List Value) (Hs : X → Nat → List Ent) (isM : List Nat) (x0 : X) (sel : List Nat)
    (hok : drawOk n S0 l = true) (hMok : isMOk l isM = true) (hs : Has S S0) (hs1 : Has S S1) (hl : Le H (Hs x0 0))
    (hob : Obs P n S0 S1 l (fun x i => (vs x).getD i undef) Hs isM Q 0 l)
    (hq : ∀ x, Nrm n (selS l (fun i => (vs x).getD i undef) S0 sel) (Hs x isM.length) Q) : Tri P n S H (.region id l.toArray true) Q :=
  Tri.drawN hm S0 S1 (fun x i => (vs x).getD i undef) Hs isM x0 sel hok hMok hs hs1 hl hob hq
theorem TOps.eqlIr {d x y T T' U p e rest} {k : IntKind} {a b : Int} {r : Bool} (hx : opv S x = some (.int k a)) (hy : opv S y = some (.int k b)) (hr : decide (a = b) = r) (hn : Nat.blt d n = true)
    (h : TOps P n ((d, .bool r) :: S) H rest A Q) : TOps P n S H (⟨some d, .binOp .eql T x y T', U, p, e, none⟩ :: rest) A Q := by
  subst hr; exact TOps.eqlI hx hy hn h
theorem TOps.neqIr {d x y T T' U p e rest} {k : IntKind} {a b : Int} {r : Bool} (hx : opv S x = some (.int k a)) (hy : opv S y = some (.int k b)) (hr : decide (a ≠ b) = r) (hn : Nat.blt d n = true)
    (h : TOps P n ((d, .bool r) :: S) H rest A Q) : TOps P n S H (⟨some d, .binOp .neq T x y T', U, p, e, none⟩ :: rest) A Q := by
  subst hr; exact TOps.neqI hx hy hn h
theorem TOps.lssr {d x y T T' U p e rest} {k : IntKind} {a b : Int} {r : Bool} (hx : opv S x = some (.int k a)) (hy : opv S y = some (.int k b)) (hr : decide (a < b) = r) (hn : Nat.blt d n = true)
    (h : TOps P n ((d, .bool r) :: S) H rest A Q) : TOps P n S H (⟨some d, .binOp .lss T x y T', U, p, e, none⟩ :: rest) A Q := by
  subst hr; exact TOps.lss hx hy hn h
theorem TOps.pickr {d c x y U p e rest} {t : Bool} {u v r : Value} (hc : opv S c = some (.bool t)) (hx : opv S x = some u) (hy : opv S y = some v) (hr : (bif t then u else v) = r) (hn : Nat.blt d n = true)
    (h : TOps P n ((d, r) :: S) H rest A Q) : TOps P n S H (⟨some d, .pick c x y, U, p, e, none⟩ :: rest) A Q := by
  subst hr; exact TOps.pick hc hx hy hn h
def fact (p : Prop) : Ent where
  foot := fun _ => False
  ok := fun _ => p
  st := fun _ _ _ h => h
theorem Le.addFact {p : Prop} (hp : p) : Le H (fact p :: H) := fun w h => Mem.cons h hp (fun _ hk => hk.elim) (fun _ _ _ hk => hk.elim)
theorem TOps.fact {p : Prop} {l : List Oper} (hm : GL.fact p ∈ H) (h : p → TOps P n S H l A Q) : TOps P n S H l A Q := fun a w hS hM => h (hM.ok _ hm) a w hS hM
theorem Nrm.fact {p : Prop} (hm : GL.fact p ∈ H) (h : p → Nrm n S H Q) : Nrm n S H Q := fun a w hS hM => h (hM.ok _ hm) a w hS hM
end
instance : DecidableEq Nd := fun a b => match a, b with
  | ⟨k, l, m⟩, ⟨k', l', m'⟩ => if h : k = k' ∧ l = l' ∧ m = m' then isTrue (by rw [h.1, h.2.1, h.2.2]) else isFalse (fun e => h (by cases e; exact ⟨rfl, rfl, rfl⟩))
instance : DecidableEq Fm := fun a b => match a, b with
  | ⟨k, l, m⟩, ⟨k', l', m'⟩ => if h : k = k' ∧ l = l' ∧ m = m' then isTrue (by rw [h.1, h.2.1, h.2.2]) else isFalse (fun e => h (by cases e; exact ⟨rfl, rfl, rfl⟩))
end Go.GL
namespace Go.GL
set_option linter.unusedVariables false
inductive Pick : List Ent → Ent → List Ent → Prop
  | here {e H} : Pick (e :: H) e H
  | row {a : Option Nat} {E sz cap : Nat} {xs xs' : List Value} {H} : xs = xs' → Pick (row a E sz cap xs :: H) (row a E sz cap xs') H
  | there {x e H R} : Pick H e R → Pick (x :: H) e (x :: R)
theorem Pick.perm {H e R} (p : Pick H e R) : H.Perm (e :: R) := by
  induction p with
  | here => exact List.Perm.refl _
  | row h => subst h; exact List.Perm.refl _
  | there _ ih => exact (List.Perm.cons _ ih).trans (List.Perm.swap _ _ _)
inductive Sp : List Ent → List Ent → Prop
  | sub {H H'} : H'.Sublist H → Sp H H'
  | cons {H e R H'} : Pick H e R → Sp R H' → Sp H (e :: H')
theorem Sp.refl (H : List Ent) : Sp H H := .sub (List.Sublist.refl _)
theorem Sp.mem {H H'} (s : Sp H H') : ∀ e ∈ H', e ∈ H := by
  induction s with
  | sub h => exact fun e he => h.subset he
  | cons p _ ih =>
    intro x hx
    cases hx with
    | head => exact p.perm.mem_iff.2 (List.mem_cons_self)
    | tail _ hx => exact p.perm.mem_iff.2 (List.mem_cons_of_mem _ (ih x hx))
theorem Sp.le {H H'} (s : Sp H H') : Le H H' := by
  induction s with
  | sub h => exact Le.sub h
  | cons p s ih =>
    intro w hw
    have h := Le.perm p.perm w hw
    exact ⟨h.1, h.2.1, fun x hx => h.2.2.1 x (s.mem x hx), ih w h.tail⟩
theorem Sp.skip {x H H'} (s : Sp H H') : Sp (x :: H) H' := by
  induction s with
  | sub h => exact .sub (List.Sublist.cons _ h)
  | cons p s ih => exact .cons (.there p) ih
section
variable {P : Program} {n : Nat} {S : List (Nat × Value)} {H : List Ent} {A : Array Oper} {Q : Exit → Act → World → Prop}
theorem Nrm.rowCap {b E sz cap : Nat} {xs : List Value} (hm : row (some b) E sz cap xs ∈ H) (h : xs.length ≤ cap * sz → Nrm n S H Q) : Nrm n S H Q := by
  intro a w hS hM
  refine h ?_ a w hS hM
  have := hM.ok _ hm
  unfold row at this
  obtain ⟨sp, _, h2, _⟩ := this
  omega
theorem TOps.hide2 {b E sz cap : Nat} {xs : List Value} {l : List Oper} {e : Ent} (h : ∀ H', Le H' H → H.Sublist H' → Rd H' b 0 xs → TOps P n S (e :: H') l A Q) : TOps P n S (row (some b) E sz cap xs :: e :: H) l A Q :=
  TOps.le Le.swap (h _ (Le.drop (Le.refl H)) (List.sublist_cons_self _ _) (Rd.all (E := E) (sz := sz) (cap := cap) (by simp)))
end
def trA (to : List Nat) (args : List Int) : List Int := args.map (fun a => ((to.getD a.toNat 0 : Nat) : Int))
def trN (to : List Nat) (d : Nd) : Nd := ⟨d.kind, d.k, trA to d.args⟩
def trS (m : List Bool) (v : Nat) (nodes : List Nd) : Nat → List Nat × List Nd
  | 0 => (List.range v ++ List.replicate nodes.length 0, [])
  | k + 1 => bif m.getD (v + k) false then ((trS m v nodes k).1.set (v + k) (v + (trS m v nodes k).2.length), (trS m v nodes k).2 ++ [trN (trS m v nodes k).1 (nodes.getD k ⟨0, 0, []⟩)]) else trS m v nodes k
def Fm.trS (F : Fm) (k : Nat) : List Nat × List Nd := GL.trS F.below F.vars.toNat F.nodes k
def Fm.trim (F : Fm) : Fm := ⟨F.vars, (F.trS F.nodes.length).2, (((F.trS F.nodes.length).1.getD F.top.toNat 0 : Nat) : Int)⟩
theorem trA_take_succ {to : List Nat} {l : List Int} {j : Nat} (hj : j < l.length) : trA to (l.take (j + 1)) = trA to (l.take j) ++ [((to.getD l[j].toNat 0 : Nat) : Int)] := by
  unfold trA
  rw [List.take_succ_eq_append_getElem hj, List.map_append]
  rfl
theorem trA_length (to : List Nat) (l : List Int) : (trA to l).length = l.length := by simp [trA]
section
variable {m : List Bool} {v : Nat} {nodes : List Nd}
theorem trS_length (k : Nat) : (trS m v nodes k).1.length = v + nodes.length := by
  induction k with
  | zero => simp [trS]
  | succ k ih => unfold trS; cases m.getD (v + k) false <;> simp [ih]
theorem trS_le (k : Nat) : (trS m v nodes k).2.length ≤ k := by
  induction k with
  | zero => simp [trS]
  | succ k ih => unfold trS; cases m.getD (v + k) false <;> simp <;> omega
theorem trS_bound (k j : Nat) : (trS m v nodes k).1.getD j 0 ≤ v + k := by
  induction k with
  | zero =>
    unfold trS
    rw [List.getD_eq_getElem?_getD, List.getElem?_append]
    split
    · rename_i h; simp at h; simp [h]; omega
    · rw [List.getElem?_replicate]; split <;> simp
  | succ k ih =>
    unfold trS
    cases m.getD (v + k) false with
    | false => simp only [cond_false]; omega
    | true =>
      simp only [cond_true, List.getD_eq_getElem?_getD, List.getElem?_set]
      have := trS_le (m := m) (v := v) (nodes := nodes) k
      rw [List.getD_eq_getElem?_getD] at ih
      split
      · split
        · simp; omega
        · simp
      · omega
end
theorem setRange {v k m : Nat} (hk : k < v) : (List.range k ++ List.replicate (v + m - k) 0).set k k = List.range (k + 1) ++ List.replicate (v + m - (k + 1)) 0 := by
  rw [List.set_append_right _ _ (by simp), List.length_range, Nat.sub_self, show v + m - k = (v + m - (k + 1)) + 1 by omega, List.replicate_succ, List.range_succ]
  simp
def NewFE (T : TypeId) (F : Fm) (e : Option Int) (H : List Ent) : Value → List Ent → Prop := fun u H' => ∃ tv, u = .tuple (List.toArray [tv, errV T e]) ∧ NewF F H tv H'
def Fm.zero : Fm := ⟨0, [], 0⟩
theorem nsCells_snoc : ∀ (ns : List Nd) (qs : List SA) (d : Nd) (q : SA), qs.length = ns.length → nsCells (ns ++ [d]) (qs ++ [q]) = nsCells ns qs ++ ndCells d q
  | [], [], d, q, _ => by simp [nsCells]
  | [], q' :: s, d, q, h => by simp at h
  | d' :: r, [], d, q, h => by simp at h
  | d' :: r, q' :: s, d, q, h => by
    have := nsCells_snoc r s d q (by simpa using h)
    simp [nsCells, this]
def ArgsIn (H : List Ent) (ns : List Nd) (qs : List SA) : Prop := qs.length = ns.length ∧ ∀ (i : Nat) (d : Nd) (q : SA), ns[i]? = some d → qs[i]? = some q → RInts H q.1 q.2.1 d.args q.2.2.2
theorem ArgsIn.nil {H : List Ent} : ArgsIn H [] [] := ⟨rfl, fun i d q h => by simp at h⟩
theorem ArgsIn.le {H H' : List Ent} {ns qs} (h : ArgsIn H ns qs) (hl : Le H' H) : ArgsIn H' ns qs := ⟨h.1, fun i d q h1 h2 => RdS.le (h.2 i d q h1 h2) hl⟩
theorem ArgsIn.snoc {H : List Ent} {ns qs} {d : Nd} {q : SA} (h : ArgsIn H ns qs) (hd : RInts H q.1 q.2.1 d.args q.2.2.2) : ArgsIn H (ns ++ [d]) (qs ++ [q]) := by
  refine ⟨by simp [h.1], fun i d' q' h1 h2 => ?_⟩
  have hl := h.1
  rcases Nat.lt_or_ge i ns.length with hi | hi
  · rw [List.getElem?_append_left hi] at h1
    rw [List.getElem?_append_left (by omega)] at h2
    exact h.2 i d' q' h1 h2
  · rw [List.getElem?_append_right hi] at h1
    rw [List.getElem?_append_right (by omega), hl] at h2
    have h0 : i - ns.length = 0 := by
      have := (List.getElem?_eq_some_iff.1 h1).1
      simp at this; omega
    rw [h0] at h1 h2
    simp at h1 h2
    subst h1 h2
    exact hd
theorem RNodes.ofA {H : List Ent} {a : Option Nat} {E sz cap : Nat} {ns : List Nd} {qs : List SA} (hm : row a E sz cap (nsCells ns qs) ∈ H) (h : ArgsIn H ns qs) (ha : ns ≠ [] → ∃ b, a = some b) : RNodes H a 0 ns := by
  by_cases hn : ns = []
  · exact .inl hn
  · obtain ⟨b, rfl⟩ := ha hn
    exact RNodes.ofRow hm h.1 h.2
end Go.GL
namespace Go.GL
set_option linter.unusedVariables false
theorem Fm.Good.ok {F : Fm} (hg : F.Good) : F.ok := by
  have g0 := hg.v0; have g1 := hg.v1; have g2 := hg.n1; have gt := hg.topLt
  refine ⟨⟨by omega, by omega⟩, ⟨by omega, by omega⟩, fun d hd => ?_, by omega⟩
  obtain ⟨i, hi, rfl⟩ := List.getElem_of_mem hd
  have f := hg.fits i hi
  have k0 := f.k0; have k1 := f.k1; have hl := f.len
  obtain ⟨a, b, c⟩ := f.kk
  refine ⟨⟨by omega, by omega⟩, ?_, fun a ha => ?_, by omega⟩
  · by_cases h0 : F.nodes[i].kind = 0
    · have := a h0; exact ⟨by omega, by omega⟩
    · by_cases h4 : F.nodes[i].kind = 4
      · have := b h4; exact ⟨by omega, by omega⟩
      · have := c h0 h4; exact ⟨by omega, by omega⟩
  · have := f.args a ha; exact ⟨by omega, by omega⟩
section
variable {F : Fm}
theorem Fm.trS_len (F : Fm) (k : Nat) : (F.trS k).1.length = F.vars.toNat + F.nodes.length := trS_length k
theorem Fm.trS_succ (F : Fm) {k : Nat} (hk : k < F.nodes.length) : F.trS (k + 1) = (bif F.below.getD (F.vars.toNat + k) false then ((F.trS k).1.set (F.vars.toNat + k) (F.vars.toNat + (F.trS k).2.length), (F.trS k).2 ++ [trN (F.trS k).1 F.nodes[k]]) else F.trS k) := by
  unfold Fm.trS
  rw [GL.trS, show F.nodes.getD k ⟨0, 0, []⟩ = F.nodes[k] from by simp [hk]]
theorem Fm.trS_succ1 (F : Fm) {k : Nat} (hk : k < F.nodes.length) (h : F.below.getD (F.vars.toNat + k) false = true) : F.trS (k + 1) = ((F.trS k).1.set (F.vars.toNat + k) (F.vars.toNat + (F.trS k).2.length), (F.trS k).2 ++ [trN (F.trS k).1 F.nodes[k]]) := by
  rw [F.trS_succ hk, h]; rfl
theorem Fm.trS_succ0 (F : Fm) {k : Nat} (hk : k < F.nodes.length) (h : F.below.getD (F.vars.toNat + k) false = false) : F.trS (k + 1) = F.trS k := by
  rw [F.trS_succ hk, h]; rfl
theorem Fm.trS_stab (F : Fm) {k K : Nat} (hkK : k ≤ K) (hK : K ≤ F.nodes.length) {j : Nat} (hj : j < F.vars.toNat + k) : (F.trS K).1.getD j 0 = (F.trS k).1.getD j 0 := by
  induction K with
  | zero => obtain rfl : k = 0 := by omega
            rfl
  | succ K ih =>
    rcases Nat.lt_or_ge K k with h | h
    · obtain rfl : k = K + 1 := by omega
      rfl
    · rw [← ih h (by omega), F.trS_succ (by omega)]
      cases F.below.getD (F.vars.toNat + K) false with
      | false => rfl
      | true =>
        simp only [cond_true, List.getD_eq_getElem?_getD]
        rw [List.getElem?_set_ne (by omega)]
def Fm.ro (F : Fm) (j : Nat) : Nat := (F.trS F.nodes.length).1.getD j 0
def Fm.ix (F : Fm) (k : Nat) : Nat := (F.trS k).2.length
theorem Fm.ro_event (F : Fm) {j : Nat} (hj : j < F.vars.toNat) : F.ro j = j := by
  unfold Fm.ro
  rw [F.trS_stab (Nat.zero_le _) (Nat.le_refl _) (by omega)]
  unfold Fm.trS GL.trS
  rw [List.getD_eq_getElem?_getD, List.getElem?_append_left (by simpa using hj)]
  simp [hj]
theorem Fm.ro_node (F : Fm) {k : Nat} (hk : k < F.nodes.length) (h : F.below.getD (F.vars.toNat + k) false = true) : F.ro (F.vars.toNat + k) = F.vars.toNat + F.ix k := by
  unfold Fm.ro
  rw [F.trS_stab (k := k + 1) (by omega) (Nat.le_refl _) (by omega), F.trS_succ1 hk h]
  simp only [List.getD_eq_getElem?_getD]
  rw [List.getElem?_set_self (by rw [F.trS_len]; omega)]
  rfl
theorem Fm.ix_mono (F : Fm) {k K : Nat} (hkK : k ≤ K) (hK : K ≤ F.nodes.length) : F.ix k ≤ F.ix K := by
  induction K with
  | zero => obtain rfl : k = 0 := by omega
            exact Nat.le_refl _
  | succ K ih =>
    rcases Nat.lt_or_ge K k with h | h
    · obtain rfl : k = K + 1 := by omega
      exact Nat.le_refl _
    · refine Nat.le_trans (ih h (by omega)) ?_
      unfold Fm.ix
      rw [F.trS_succ (by omega)]
      cases F.below.getD (F.vars.toNat + K) false <;> simp
theorem Fm.ix_lt (F : Fm) {k K : Nat} (hkK : k < K) (hK : K ≤ F.nodes.length) (h : F.below.getD (F.vars.toNat + k) false = true) : F.ix k < F.ix K := by
  refine Nat.lt_of_lt_of_le ?_ (F.ix_mono (show k + 1 ≤ K by omega) hK)
  unfold Fm.ix
  rw [F.trS_succ1 (by omega) h]
  simp
theorem Fm.trS_pre (F : Fm) {k K : Nat} (hkK : k ≤ K) (hK : K ≤ F.nodes.length) : ∃ r, (F.trS K).2 = (F.trS k).2 ++ r := by
  induction K with
  | zero => obtain rfl : k = 0 := by omega
            exact ⟨[], by simp⟩
  | succ K ih =>
    rcases Nat.lt_or_ge K k with h | h
    · obtain rfl : k = K + 1 := by omega
      exact ⟨[], by simp⟩
    · obtain ⟨r, hr⟩ := ih h (by omega)
      rw [F.trS_succ (by omega)]
      cases F.below.getD (F.vars.toNat + K) false with
      | false => exact ⟨r, hr⟩
      | true => exact ⟨r ++ [trN (F.trS K).1 F.nodes[K]], by simp [hr]⟩
def Fm.ren (F : Fm) (d : Nd) : Nd := ⟨d.kind, d.k, d.args.map (fun a => ((F.ro a.toNat : Nat) : Int))⟩
theorem Fm.trS_node (hg : F.Good) {k : Nat} (hk : k < F.nodes.length) : trN (F.trS k).1 F.nodes[k] = F.ren F.nodes[k] := by
  unfold trN Fm.ren trA
  congr 1
  refine List.map_congr_left fun a ha => ?_
  rw [← F.trS_stab (k := k) (by omega) (Nat.le_refl _) (hg.argLt hk a ha)]
  rfl
theorem Fm.trim_nodes (F : Fm) : F.trim.nodes = (F.trS F.nodes.length).2 := rfl
theorem Fm.trim_len (F : Fm) : F.trim.nodes.length = F.ix F.nodes.length := rfl
theorem Fm.trim_top (F : Fm) : F.trim.top = ((F.ro F.top.toNat : Nat) : Int) := rfl
theorem Fm.trim_vars (F : Fm) : F.trim.vars = F.vars := rfl
theorem Fm.trim_at (hg : F.Good) {k : Nat} (hk : k < F.nodes.length) (h : F.below.getD (F.vars.toNat + k) false = true) : F.trim.nodes[F.ix k]? = some (F.ren F.nodes[k]) := by
  obtain ⟨r, hr⟩ := F.trS_pre (show k + 1 ≤ F.nodes.length by omega) (Nat.le_refl _)
  rw [F.trim_nodes, hr, F.trS_succ1 hk h, Fm.trS_node hg hk]
  unfold Fm.ix
  rw [List.getElem?_append_left (by simp), List.getElem?_append_right (Nat.le_refl _)]
  simp
theorem Fm.ix_surj (F : Fm) {K : Nat} (hK : K ≤ F.nodes.length) : ∀ i, i < F.ix K → ∃ k, k < K ∧ F.below.getD (F.vars.toNat + k) false = true ∧ F.ix k = i := by
  induction K with
  | zero => intro i hi; simp [Fm.ix, Fm.trS, GL.trS] at hi
  | succ K ih =>
    intro i hi
    cases hb : F.below.getD (F.vars.toNat + K) false with
    | false =>
      unfold Fm.ix at hi
      rw [F.trS_succ0 (by omega) hb] at hi
      obtain ⟨k, h1, h2, h3⟩ := ih (by omega) i hi
      exact ⟨k, by omega, h2, h3⟩
    | true =>
      unfold Fm.ix at hi
      rw [F.trS_succ1 (by omega) hb] at hi
      simp only [List.length_append, List.length_singleton] at hi
      rcases Nat.lt_or_ge i (F.ix K) with h | h
      · obtain ⟨k, h1, h2, h3⟩ := ih (by omega) i h
        exact ⟨k, by omega, h2, h3⟩
      · exact ⟨K, by omega, hb, by unfold Fm.ix at *; omega⟩
theorem Fm.ro_lt (hg : F.Good) {k j : Nat} (hk : k ≤ F.nodes.length) (hj : j < F.vars.toNat + k) (h : F.below.getD j false = true) : F.ro j < F.vars.toNat + F.ix k := by
  rcases Nat.lt_or_ge j F.vars.toNat with hv | hv
  · rw [F.ro_event hv]; omega
  · obtain ⟨i, rfl⟩ : ∃ i, j = F.vars.toNat + i := ⟨j - F.vars.toNat, by omega⟩
    rw [F.ro_node (by omega) h]
    have := F.ix_lt (show i < k by omega) hk h
    omega
theorem Fm.trim_fits (hg : F.Good) {i : Nat} (hi : i < F.trim.nodes.length) : ∃ k, ∃ hk : k < F.nodes.length, F.below.getD (F.vars.toNat + k) false = true ∧ F.ix k = i ∧ F.trim.nodes[i] = F.ren F.nodes[k] := by
  obtain ⟨k, h1, h2, h3⟩ := F.ix_surj (Nat.le_refl _) i (by rw [← F.trim_len]; exact hi)
  refine ⟨k, h1, h2, h3, ?_⟩
  have := Fm.trim_at hg h1 h2
  rw [h3] at this
  exact (List.getElem?_eq_some_iff.1 this).2
theorem Fm.trim_good (hg : F.Good) : F.trim.Good := by
  have g0 := hg.v0; have g1 := hg.v1; have g2 := hg.n1; have gt := hg.topLt
  have hix : F.ix F.nodes.length ≤ F.nodes.length := trS_le _
  refine ⟨g0, g1, by rw [F.trim_len]; omega, fun i hi => ?_, ?_⟩
  · obtain ⟨k, hk, h2, h3, h4⟩ := Fm.trim_fits hg hi
    rw [h4, F.trim_vars]
    have f := hg.fits k hk
    refine nodeErr_none.2 ⟨f.k0, f.k1, by simpa [Fm.ren] using f.ar, ?_, by simpa [Fm.ren] using f.kk⟩
    intro a ha
    simp only [Fm.ren, List.mem_map] at ha
    obtain ⟨b, hb, rfl⟩ := ha
    have := Fm.ro_lt hg (k := k) (by omega) (hg.argLt hk b hb) (Fm.below_closed hg hk h2 b hb)
    rw [h3] at this
    omega
  · have := Fm.ro_lt hg (k := F.nodes.length) (Nat.le_refl _) (show F.top.toNat < _ by omega) (Fm.below_top hg)
    unfold Fm.valid
    rw [F.trim_top, F.trim_vars, F.trim_len]
    simp
    omega
theorem Fm.trim_val (hg : F.Good) (z : Int) : ∀ j, F.below.getD j false = true → F.trim.val z (F.ro j) = F.val z j := by
  have hg' := Fm.trim_good hg
  intro j
  induction j using Nat.strongRecOn with
  | _ j ih =>
    intro hj
    have hlt := Fm.below_lt hj
    rcases Nat.lt_or_ge j F.vars.toNat with hv | hv
    · rw [F.ro_event hv, F.val_event z hv, F.trim.val_event z (by rw [F.trim_vars]; exact hv)]
    · obtain ⟨k, rfl⟩ : ∃ k, j = F.vars.toNat + k := ⟨j - F.vars.toNat, by omega⟩
      have hk : k < F.nodes.length := by omega
      rw [F.ro_node hk hj, Fm.val_node hg z hk]
      have hat := Fm.trim_at hg hk hj
      obtain ⟨hi, he⟩ := List.getElem?_eq_some_iff.1 hat
      have := Fm.val_node hg' z hi
      rw [F.trim_vars] at this
      rw [this, he]
      have hc : cntOf (F.trim.val z) (F.ren F.nodes[k]).args = cntOf (F.val z) F.nodes[k].args := by
        unfold cntOf Fm.ren
        simp only [List.countP_map]
        refine List.countP_congr fun a ha => ?_
        simp only [Function.comp, Int.toNat_natCast]
        rw [ih a.toNat (hg.argLt hk a ha) (Fm.below_closed hg hk hj a ha)]
      rw [hc]
      unfold nodeVal Fm.ren
      simp
theorem Fm.trim_value (hg : F.Good) (z : Int) : F.trim.value z = F.value z := by
  rw [Fm.value_eq, Fm.value_eq, F.trim_top, Int.toNat_natCast]
  exact Fm.trim_val hg z _ (Fm.below_top hg)
end
theorem belowL_inv (v : Nat) (nodes : List Nd) (ha : ∀ (i : Nat) (h : i < nodes.length), ∀ a ∈ nodes[i].args, a.toNat < v + i) : ∀ (i : Nat), i ≤ nodes.length → ∀ (m : List Bool) (j : Nat), m.length = v + nodes.length → (belowL v nodes i m).getD j false = true →
    m.getD j false = true ∨ ∃ k, ∃ hk : k < nodes.length, (belowL v nodes i m).getD (v + k) false = true ∧ ∃ a ∈ nodes[k].args, a.toNat = j := by
  intro i
  induction i with
  | zero => intro _ m j _ h; exact .inl h
  | succ i ih =>
    intro hi m j hm h
    unfold belowL at h ⊢
    have hlen : (bif m.getD (v + i) false then markArgs m (nodes.getD i ⟨0, 0, []⟩).args else m).length = v + nodes.length := by
      cases m.getD (v + i) false <;> simp [markArgs_length, hm]
    rcases ih (by omega) _ j hlen h with h1 | h1
    · cases hc : m.getD (v + i) false with
      | false => rw [hc] at h1; exact .inl h1
      | true =>
        rw [hc] at h1
        simp only [cond_true, markArgs_getD, Bool.or_eq_true, Bool.and_eq_true] at h1
        rcases h1 with h1 | ⟨_, h1⟩
        · exact .inl h1
        · rw [List.any_eq_true] at h1
          obtain ⟨a, haa, hae⟩ := h1
          have hn : nodes.getD i ⟨0, 0, []⟩ = nodes[i] := by simp [show i < nodes.length by omega]
          rw [hn] at haa
          refine .inr ⟨i, by omega, ?_, a, haa, by simpa using hae⟩
          refine belowL_mono v nodes i _ _ ?_
          simp only [cond_true, markArgs_getD, hc, Bool.true_or]
    · exact .inr h1
section
variable {F : Fm}
theorem Fm.below_inv (hg : F.Good) {j : Nat} (h : F.below.getD j false = true) : j = F.top.toNat ∨ ∃ k, ∃ hk : k < F.nodes.length, F.below.getD (F.vars.toNat + k) false = true ∧ ∃ a ∈ F.nodes[k].args, a.toNat = j := by
  rcases belowL_inv F.vars.toNat F.nodes (fun i h => hg.argLt h) F.nodes.length (Nat.le_refl _) _ j (by simp) h with h1 | h1
  · left
    rw [List.getD_eq_getElem?_getD, List.getElem?_set] at h1
    split at h1
    · rename_i e; exact e.symm
    · rw [List.getElem?_replicate] at h1
      split at h1 <;> simp at h1
  · exact .inr h1
theorem Fm.trim_below (hg : F.Good) : ∀ (c j : Nat), j + c = F.vars.toNat + F.nodes.length → F.below.getD j false = true → F.trim.below.getD (F.ro j) false = true := by
  have hg' := Fm.trim_good hg
  intro c
  induction c using Nat.strongRecOn with
  | _ c ih =>
    intro j hjc hj
    rcases Fm.below_inv hg hj with rfl | ⟨k, hk, hm, a, ha, rfl⟩
    · have := Fm.below_top hg'
      rwa [F.trim_top, Int.toNat_natCast] at this
    · have hlt := hg.argLt hk a ha
      have h1 := ih (F.nodes.length - k) (by omega) (F.vars.toNat + k) (by omega) hm
      rw [F.ro_node hk hm] at h1
      have hat := Fm.trim_at hg hk hm
      obtain ⟨hi, he⟩ := List.getElem?_eq_some_iff.1 hat
      have h2 := Fm.below_closed hg' hi (by rw [F.trim_vars]; exact h1) ((F.ro a.toNat : Nat) : Int) (by
        rw [he]; exact List.mem_map.2 ⟨a, ha, rfl⟩)
      rwa [Int.toNat_natCast] at h2
theorem Fm.trim_marked (hg : F.Good) {i : Nat} (hi : i < F.trim.nodes.length) : F.trim.below.getD (F.vars.toNat + i) false = true := by
  obtain ⟨k, hk, h2, h3, h4⟩ := Fm.trim_fits hg hi
  have := Fm.trim_below hg (F.nodes.length - k) (F.vars.toNat + k) (by omega) h2
  rwa [F.ro_node hk h2, h3] at this
end
theorem szN_ix (F : Fm) {k : Nat} (hk : k ≤ F.nodes.length) : szN F.below F.vars.toNat k = F.ix k := by
  induction k with
  | zero => rfl
  | succ k ih =>
    unfold szN Fm.ix
    rw [ih (by omega), F.trS_succ (by omega)]
    cases F.below.getD (F.vars.toNat + k) false <;> simp [Fm.ix]
theorem szN_all {m : List Bool} {v n : Nat} (h : ∀ i, i < n → m.getD (v + i) false = true) : ∀ k, k ≤ n → szN m v k = k
  | 0, _ => rfl
  | k + 1, hk => by unfold szN; rw [h k (by omega), szN_all h k (by omega)]; rfl
def argSum (ns : List Nd) : Nat := (ns.map (fun d => d.args.length)).sum
theorem Fm.trim_sizeN {F : Fm} (hg : F.Good) : F.trim.sizeN = F.sizeN ∧ F.trim.sizeN = F.trim.nodes.length := by
  have h1 : F.trim.sizeN = F.trim.nodes.length := szN_all (n := F.trim.nodes.length) (fun i hi => by rw [F.trim_vars]; exact Fm.trim_marked hg hi) _ (Nat.le_refl _)
  refine ⟨?_, h1⟩
  rw [h1, F.trim_len]
  exact (szN_ix F (Nat.le_refl _)).symm
end Go.GL
namespace Go.GL
set_option linter.unusedVariables false
set_option linter.unusedSimpArgs false
def inD : List Nat → Nat → Bool
  | [], _ => false
  | a :: r, k => match Nat.beq a k with | true => true | false => inD r k
theorem inD_iff {D : List Nat} {k : Nat} : inD D k = true ↔ k ∈ D := by
  induction D with
  | nil => simp [inD]
  | cons a r ih =>
    unfold inD
    cases hb : Nat.beq a k with
    | true => simp [Nat.eq_of_beq_eq_true hb]
    | false =>
      have : a ≠ k := fun e => by subst e; simp at hb
      simp only [ih, List.mem_cons]
      exact ⟨.inr, fun h => h.resolve_left (fun e => this e.symm)⟩
def subs : List Nat → List (List Nat)
  | [] => [[]]
  | m :: r => subs r ++ (subs r).map (m :: ·)
theorem filter_mem_subs : ∀ (l : List Nat) (p : Nat → Bool), l.filter p ∈ subs l
  | [], p => by simp [subs]
  | m :: r, p => by
    have ih := filter_mem_subs r p
    unfold subs
    rw [List.filter_cons, List.mem_append]
    split
    · exact .inr (List.mem_map.2 ⟨_, ih, rfl⟩)
    · exact .inl ih
def bitM (MS : List Nat) (j i : Nat) : Bool := (MS.getD j 0).testBit i
def closedSubs (MS isM : List Nat) : List (List Nat) := (subs isM).filter fun D => isM.all fun m => !inD D m || isM.all fun m' => !bitM MS m m' || inD D m'
def subsOk (MS isM : List Nat) (CS : List (List Nat)) (i : Nat) : List (List Nat) :=
  CS.filter fun D => isM.all fun m => (!bitM MS i m || inD D m) && ((!(bitM MS m i) && !Nat.beq m i) || !inD D m)
theorem mem_of_eq {D : List Nat} {L L' : List (List Nat)} (h : D ∈ L) (e : L = L') : D ∈ L' := e ▸ h
def insD (isM : List Nat) (i : Nat) (D : List Nat) : List Nat := isM.filter fun m => Nat.beq m i || inD D m
def isMOk' (l : List Oper) (isM : List Nat) : Bool := decide isM.Nodup && isM.all (fun m => Nat.blt m l.length)
def on (D yes no : List Nat) (e : List Ent) : List Ent := match yes.all (inD D) && no.all (fun k => !inD D k) with | true => e | false => []
section
variable {P : Program} {n : Nat} {S : List (Nat × Value)} {H : List Ent} {A : Array Oper} {Q : Exit → Act → World → Prop}
def DM {X : Type} (n : Nat) (S : List (Nat × Value)) (l : List Oper) (V : X → Nat → Value) (Hs : X → List Nat → List Ent) (i : Nat) (D' : List Nat) (x : X) (Q : Exit → Act → World → Prop) : Exit → Act → World → Prop :=
  Exit.then (fun a w => ∃ x', (∀ j, j ≠ i → clo l j i = false → V x' j = V x j) ∧
    Sl n (match dstOf l i with | some d => (d, V x' i) :: S | none => S) a ∧ Mem (Hs x' D') w) Q
def ObM {X : Type} (P : Program) (n : Nat) (S0 S1 : List (Nat × Value)) (l : List Oper) (V : X → Nat → Value) (Hs : X → List Nat → List Ent) (isM MS : List Nat) (CS : List (List Nat)) (Q : Exit → Act → World → Prop) (i : Nat) (o : Oper) : Prop :=
  (∀ x S D, Ext S0 S → Ext (early l S1 i) S → DepsAre S l (V x) (afters o) → D ∈ subsOk MS isM CS i →
      (match o.guard with | none => True | some (j, b) => V x j = .bool b) →
      TOps P n S (Hs x D) [{ o with guard := none }] l.toArray (DM n S l V Hs i (bif isM.contains i then insD isM i D else D) x Q)) ∧
  (match o.guard with
    | none => True
    | some (j, b) => (∃ d, o.dst = some d) ∧ ((isM.contains i = false ∧ ∀ x, V x j = .bool b ∨ ((V x j = .bool (!b) ∨ ∃ vs, V x j = .tuple vs) ∧ V x i = undef)) ∨ ∀ x, V x j = .bool b))
def ObsM {X : Type} (P : Program) (n : Nat) (S0 S1 : List (Nat × Value)) (l : List Oper) (V : X → Nat → Value) (Hs : X → List Nat → List Ent) (isM MS : List Nat) (CS : List (List Nat)) (Q : Exit → Act → World → Prop) : Nat → List Oper → Prop
  | _, [] => True
  | i, o :: r => ObM P n S0 S1 l V Hs isM MS CS Q i o ∧ ObsM P n S0 S1 l V Hs isM MS CS Q (i + 1) r
theorem ObsM.at {X : Type} {S0 S1 : List (Nat × Value)} {l : List Oper} {V : X → Nat → Value} {Hs : X → List Nat → List Ent} {isM MS : List Nat} {CS : List (List Nat)} :
    ∀ (r : List Oper) (k : Nat), ObsM P n S0 S1 l V Hs isM MS CS Q k r → ∀ i o, r[i]? = some o → ObM P n S0 S1 l V Hs isM MS CS Q (k + i) o
  | [], k, _, i, o, h => by simp at h
  | o' :: r, k, ⟨h1, h2⟩, 0, o, h => by
    simp at h
    subst h
    exact h1
  | o' :: r, k, ⟨h1, h2⟩, i + 1, o, h => by
    have := ObsM.at r (k + 1) h2 i o (by simpa using h)
    rwa [show k + (i + 1) = k + 1 + i by omega]
theorem Tri.drawM0 {X : Type} {id : Nat} {l : List Oper} (hm : P.follows .mixedOrders = true) (S0 S1 : List (Nat × Value)) (V : X → Nat → Value) (Hs : X → List Nat → List Ent) (isM MS : List Nat) (CS : List (List Nat)) (x0 : X)
    (hok : drawOk n S0 l = true) (hMok : isMOk' l isM = true) (hMS : masksFrom [] l = MS) (hCS : closedSubs MS isM = CS) (hs : Has S S0) (hs1 : Has S S1) (hl : Le H (Hs x0 []))
    (hob : ObsM P n S0 S1 l V Hs isM MS CS Q 0 l)
    (hq : ∀ x a w, Sl n S0 a → (∀ j d, dstOf l j = some d → d < n ∧ a.tmps.getD d undef = V x j) → Mem (Hs x isM) w → Q .normal a w) : Tri P n S H (.region id l.toArray true) Q := by
  simp only [isMOk', Bool.and_eq_true, decide_eq_true_eq] at hMok
  obtain ⟨m1, m2⟩ := hMok
  have m2' : ∀ m ∈ isM, m < l.length := fun m hm => by simpa [Nat.blt_eq] using List.all_eq_true.1 m2 m hm
  intro a0 w0 hS hM
  refine wp_region_any hm ?_
  have full : ∀ (L : Array Bool) x a w, DInv n S0 S1 l V (fun _ _ => []) isM L x a w → Mem (Hs x (isM.filter (fun m => L[m]? == some true))) w → (∀ i, i < l.length → L[i]? = some true) → Q .normal a w := by
    intro L x a w h hme hall
    refine hq x a w h.s0 (fun j d hj => ?_) ?_
    · have hjl : j < l.length := by
        rcases Nat.lt_or_ge j l.length with h' | h'
        · exact h'
        · simp [dstOf, List.getElem?_eq_none h'] at hj
      exact h.vals j d (hall j hjl) hj
    · have hfil : (isM.filter (fun m => L[m]? == some true)) = isM := by
        rw [List.filter_eq_self]
        intro m hm
        simp [hall m (m2' m hm)]
      rwa [hfil] at hme
  have allL : ∀ (L : Array Bool), L.size = l.length → Region.ready .any l.toArray L = [] → ∀ i, i < l.length → L[i]? = some true := by
    intro L hsz hr i
    induction i using Nat.strongRecOn with
    | _ i ih =>
      intro hi
      by_cases hL : L[i]? = some true
      · exact hL
      · have ho : l[i]? = some l[i] := List.getElem?_eq_getElem hi
        have hmem : i ∈ Region.ready .any l.toArray L := (mem_ready hsz i).2 ⟨_, ho, hL, fun j hj => by
          have hji := (drawOk.at hok ho).1 j hj
          exact ih j hji (by omega)⟩
        rw [hr] at hmem
        cases hmem
  have main : ∀ (fuel : Nat) (U : List Nat) (L : Array Bool) x a w, U.Nodup → (∀ i, i < l.length → ¬ L[i]? = some true → i ∈ U) → U.length ≤ fuel → (DInv n S0 S1 l V (fun _ _ => []) isM L x a w ∧ Mem (Hs x (isM.filter (fun m => L[m]? == some true))) w) →
      wpAny P .any l.toArray Q fuel L a w := by
    intro fuel
    induction fuel with
    | zero =>
      intro U L x a w hU hm hf hh
      obtain ⟨h, hme⟩ := hh
      have hall : ∀ i, i < l.length → L[i]? = some true := by
        intro i hi
        by_cases hL : L[i]? = some true
        · exact hL
        · have := hm i hi hL
          have h0 : U = [] := List.eq_nil_of_length_eq_zero (by omega)
          rw [h0] at this
          cases this
      refine ⟨?_, full L x a w h hme hall⟩
      refine List.eq_nil_iff_forall_not_mem.2 fun i hi => ?_
      obtain ⟨o, ho, hn, _⟩ := (mem_ready h.size i).1 hi
      exact hn (hall i (List.getElem?_eq_some_iff.1 ho).1)
    | succ fuel ih =>
      intro U L x a w hU hm hf hh
      obtain ⟨h, hme⟩ := hh
      refine ⟨fun hr => full L x a w h hme (allL L h.size hr), fun i hi => ?_⟩
      obtain ⟨o, ho, hn, hL⟩ := (mem_ready h.size i).1 hi
      have hil : i < l.length := (List.getElem?_eq_some_iff.1 ho).1
      have hiL : i < L.size := by rw [h.size]; exact hil
      have hiU := hm i hil hn
      have next : ∀ x' a' w', (DInv n S0 S1 l V (fun _ _ => []) isM (L.setIfInBounds i true) x' a' w' ∧ Mem (Hs x' (isM.filter (fun m => (L.setIfInBounds i true)[m]? == some true))) w') → wpAny P .any l.toArray Q fuel (L.setIfInBounds i true) a' w' := by
        intro x' a' w' h'
        refine ih (U.erase i) _ x' a' w' (hU.erase i) (fun k hk hLk => ?_) ?_ h'
        · rw [setB _ hiL] at hLk
          exact (List.mem_erase_of_ne (fun e => hLk (.inl e))).2 (hm k hk (fun h => hLk (.inr h)))
        · rw [List.length_erase_of_mem hiU]
          omega
      obtain ⟨a1, a2, a3⟩ := drawOk.at hok ho
      have hO := ObsM.at l 0 hob i o ho
      rw [Nat.zero_add] at hO
      obtain ⟨hO1, hO2⟩ := hO
      have hclo : ∀ k, clo l i k = true → L[k]? = some true := by
        intro k hk
        obtain ⟨o', ho', j, hj, hjk⟩ := clo_spec hk
        rw [ho] at ho'
        cases ho'
        rcases hjk with rfl | hjk
        · exact hL k hj
        · exact h.closure hok j (hL j hj) k hjk
      have hearly : ∀ k v, get (early l S1 i) k = some v → get S1 k = some v ∧ k < n ∧ a.tmps.getD k undef = v := by
        intro k v hk
        obtain ⟨g1, g2⟩ := get_filter_early hk
        refine ⟨g1, h.s1 k v g1 (fun w hw hLw => ?_)⟩
        exact hn (h.closure hok w hLw i (g2 w hw))
      obtain ⟨D, hDe⟩ : ∃ D, D = isM.filter (fun m => L[m]? == some true) := ⟨_, rfl⟩
      have hDmem : ∀ m ∈ isM, (inD D m = true ↔ L[m]? = some true) := by
        intro m hm
        rw [inD_iff, hDe, List.mem_filter]
        simp [hm]
      have hD : D ∈ subsOk MS isM CS i := by
        have hbit : ∀ a b, bitM MS a b = clo l a b := fun a b => by rw [← hMS]; rfl
        unfold subsOk
        rw [List.mem_filter, ← hCS]
        unfold closedSubs
        rw [List.mem_filter]
        refine ⟨⟨by rw [hDe]; exact filter_mem_subs isM _, ?_⟩, ?_⟩
        · rw [List.all_eq_true]
          intro m hm
          cases hd : inD D m with
          | false => rfl
          | true =>
            simp only [Bool.not_true, Bool.false_or]
            rw [List.all_eq_true]
            intro m' hm'
            rw [hbit]
            cases hc : clo l m m' with
            | false => rfl
            | true => simp only [Bool.not_true, Bool.false_or]; exact (hDmem m' hm').2 (h.closure hok m ((hDmem m hm).1 hd) m' hc)
        · rw [List.all_eq_true]
          intro m hm
          rw [hbit, hbit]
          simp only [Bool.and_eq_true, Bool.or_eq_true, Bool.not_eq_true']
          refine ⟨?_, ?_⟩
          · cases hc : clo l i m with
            | false => exact .inl rfl
            | true => exact .inr ((hDmem m hm).2 (hclo m hc))
          · cases hd : inD D m with
            | false => exact .inr rfl
            | true =>
              left
              have hLm := (hDmem m hm).1 hd
              cases hc : clo l m i with
              | true => exact absurd (h.closure hok m hLm i hc) hn
              | false =>
                cases hb : Nat.beq m i with
                | false => exact ⟨rfl, rfl⟩
                | true => exact absurd (by rw [← Nat.eq_of_beq_eq_true hb]; exact hLm) hn
      have hins : isM.filter (fun m => (L.setIfInBounds i true)[m]? == some true) = insD isM i D := by
        unfold insD
        refine List.filter_congr fun m hm => ?_
        have h1 := hDmem m hm
        have h2 := setB (L := L) m hiL
        by_cases e : m = i
        · subst e
          have : (L.setIfInBounds m true)[m]? = some true := h2.2 (.inl rfl)
          simp [this]
        · have hb : Nat.beq m i = false := by
            cases hb : Nat.beq m i with
            | false => rfl
            | true => exact absurd (Nat.eq_of_beq_eq_true hb) e
          rw [hb, Bool.false_or]
          cases hd : inD D m with
          | true => simp [h2.2 (.inr (h1.1 hd))]
          | false =>
            have : ¬ (L.setIfInBounds i true)[m]? = some true := by
              intro hx
              have := h1.2 ((h2.1 hx).resolve_left e)
              rw [hd] at this; cases this
            simpa using this
      have hinsN : isM.contains i = false → isM.filter (fun m => (L.setIfInBounds i true)[m]? == some true) = D := by
        intro hc
        rw [hDe]
        refine List.filter_congr fun m hm => ?_
        have hne : i ≠ m := by
          intro e
          subst e
          have : isM.contains i = true := by simpa using hm
          rw [this] at hc
          cases hc
        rw [Array.getElem?_setIfInBounds_ne hne]
      have hafter : isM.filter (fun m => (L.setIfInBounds i true)[m]? == some true) = (bif isM.contains i then insD isM i D else D) := by
        cases hc : isM.contains i with
        | true => exact hins
        | false => exact hinsN hc
      rw [← hDe] at hme
      rw [wpOp_of ho]
      have hdeps : ∃ S9, Ext S0 S9 ∧ Ext (early l S1 i) S9 ∧ DepsAre S9 l (V x) (afters o) ∧ Sl n S9 a := by
        have build : ∀ (ds : List Nat), (∀ j ∈ ds, L[j]? = some true) → ∃ S9, Ext S0 S9 ∧ Ext (early l S1 i) S9 ∧ DepsAre S9 l (V x) ds ∧ Sl n S9 a := by
          intro ds
          induction ds with
          | nil =>
            intro _
            have hg : ∀ k v, get (early l S1 i ++ S0) k = some v → k < n ∧ a.tmps.getD k undef = v := by
              intro k v hk
              rw [get_append] at hk
              cases he : get (early l S1 i) k with
              | none => rw [he] at hk; exact h.s0.g k v hk
              | some v' => rw [he] at hk; cases hk; exact (hearly k v he).2
            refine ⟨early l S1 i ++ S0, fun k v hk => ?_, fun k v hk => ?_, trivial, ⟨h.s0.sz, h.s0.df, hg⟩⟩
            · rw [get_append]
              cases he : get (early l S1 i) k with
              | none => exact hk
              | some v' =>
                have h1 := (hearly k v' he).2.2
                have h2 := (h.s0.g k v hk).2
                rw [← h1, h2]; rfl
            · rw [get_append, hk]; rfl
          | cons j ds ihd =>
            intro hds
            obtain ⟨S9, e1, e5, e2, e3⟩ := ihd (fun k hk => hds k (List.mem_cons_of_mem _ hk))
            cases hd : dstOf l j with
            | none => exact ⟨S9, e1, e5, ⟨by simp [hd], e2⟩, e3⟩
            | some d =>
              obtain ⟨v1, v2⟩ := h.vals j d (hds j (by simp)) hd
              have key : ∀ k v, get ((d, V x j) :: S9) k = some v → k < n ∧ a.tmps.getD k undef = v := by
                intro k v hk
                by_cases e : d = k
                · subst e
                  rw [get_cons_same] at hk
                  cases hk
                  exact ⟨v1, v2⟩
                · rw [get_cons_ne e] at hk
                  exact e3.g k v hk
              have hext : ∀ k v, get S9 k = some v → get ((d, V x j) :: S9) k = some v := by
                intro k v hk
                by_cases e : d = k
                · subst e
                  rw [get_cons_same]
                  rw [← (e3.g d v hk).2, v2]
                · rw [get_cons_ne e]
                  exact hk
              refine ⟨(d, V x j) :: S9, fun k v hk => hext k v (e1 k v hk), fun k v hk => hext k v (e5 k v hk), ⟨by simp only [hd]; exact get_cons_same _ _ _, ?_⟩, ⟨e3.sz, e3.df, key⟩⟩
              have up : ∀ (ds' : List Nat), DepsAre S9 l (V x) ds' → DepsAre ((d, V x j) :: S9) l (V x) ds' := by
                intro ds'
                induction ds' with
                | nil => intro _; trivial
                | cons q ds' ihq =>
                  intro hq
                  refine ⟨?_, ihq hq.2⟩
                  have := hq.1
                  cases hdq : dstOf l q with
                  | none => trivial
                  | some dq =>
                    rw [hdq] at this
                    exact hext _ _ this
              exact up ds e2
        exact build (afters o) hL
      obtain ⟨S9, e1, e5, e2, e3⟩ := hdeps
      have run : (match o.guard with | none => True | some (j, b) => V x j = .bool b) →
          o.wp P a w (wpAny P .any l.toArray Q fuel (L.setIfInBounds i true)) Q ∨ (o.asks P a w ∧ LetsOut Q) := by
        intro hg
        have h1 := one_of_TOps (hO1 x S9 D e1 e5 e2 hD hg) e3 hme
        rcases h1 with h1 | h1
        · refine .inl ?_
          have hw : ∀ (r : Result Next), o.upon P a (fun a' w' => ∃ x', (∀ j, j ≠ i → clo l j i = false → V x' j = V x j) ∧
              Sl n (match dstOf l i with | some d => (d, V x' i) :: S9 | none => S9) a' ∧ Mem (Hs x' (bif isM.contains i then insD isM i D else D)) w') Q r →
              (∀ d, r ≠ .ok (.defer d) w → True) → o.upon P a (wpAny P .any l.toArray Q fuel (L.setIfInBounds i true)) Q r := by
            intro r hr _
            have put : ∀ v w', (∃ x', (∀ j, j ≠ i → clo l j i = false → V x' j = V x j) ∧
              Sl n (match dstOf l i with | some d => (d, V x' i) :: S9 | none => S9) (a.put o.dst v) ∧ Mem (Hs x' (bif isM.contains i then insD isM i D else D)) w') →
              wpAny P .any l.toArray Q fuel (L.setIfInBounds i true) (a.put o.dst v) w' := by
              rintro v w' ⟨x', hx', hS', hM'⟩
              refine next x' _ w' ⟨h.step hok ho hL hn hx' (fun d hd => ?_) trivial, by rw [hafter]; exact hM'⟩
              have hdi : dstOf l i = some d := by simp [dstOf, ho, hd]
              rw [hdi] at hS'
              have := (hS'.g d _ (get_cons_same _ _ _)).2
              rw [hd] at this
              have hdn := (a3 d hd).1
              simp [Act.put, e3.sz, hdn] at this
              exact this
            cases r with
            | ok y w' =>
              cases y <;> simp only [Oper.upon] at hr ⊢ <;>
                first
                  | exact put _ _ hr
                  | exact Calls.mono hr (fun e w'' he => by cases e <;> first | exact put _ _ he | exact he)
                  | exact Rows.mono hr (fun _ _ he => put _ _ he)
                  | (exfalso
                     obtain ⟨x', _, hS', _⟩ := hr
                     have := hS'.df
                     cases hdd : o.dst <;> simp [Act.put, hdd] at this)
            | halt y w' => cases y <;> simp only [Oper.upon] at hr ⊢ <;> exact hr
          exact hw _ h1 (fun _ _ => trivial)
        · exact .inr h1
      cases hgd : o.guard with
      | none =>
        have hw : Region.wanted o (yielded l.toArray a.tmps) = true := by simp [Region.wanted, hgd]
        rw [if_pos hw]
        exact run (by rw [hgd]; trivial)
      | some jb =>
        obtain ⟨j, b⟩ := jb
        rw [hgd] at hO2
        obtain ⟨⟨d, hd⟩, hO3⟩ := hO2
        have hjL := hL j (a2 j b hgd).1
        obtain ⟨dj, hdj⟩ := (a2 j b hgd).2
        have hyld : ∀ g, V x j = .bool g → dstOf l j = some dj → Region.wanted o (yielded l.toArray a.tmps) = (g == b) := by
          intro g hg hdj
          obtain ⟨v1, v2⟩ := h.vals j dj hjL hdj
          have : a.tmps[dj]? = some (.bool g) := by
            rw [Array.getElem?_eq_getElem (by rw [h.s0.sz]; exact v1)]
            rw [Array.getD_eq_getD_getElem?, Array.getElem?_eq_getElem (by rw [h.s0.sz]; exact v1), hg] at v2
            simpa using v2
          have hA : (l.toArray[j]?).bind (·.dst) = some dj := by simpa [dstOf] using hdj
          simp only [Region.wanted, hgd, Go.yielded, hA, Option.bind_some, this]
          cases g <;> cases b <;> rfl
        have hyldT : ∀ vs, V x j = .tuple vs → Region.wanted o (yielded l.toArray a.tmps) = false := by
          intro vs hg
          obtain ⟨v1, v2⟩ := h.vals j dj hjL hdj
          have : a.tmps[dj]? = some (.tuple vs) := by
            rw [Array.getElem?_eq_getElem (by rw [h.s0.sz]; exact v1)]
            rw [Array.getD_eq_getD_getElem?, Array.getElem?_eq_getElem (by rw [h.s0.sz]; exact v1), hg] at v2
            simpa using v2
          have hA : (l.toArray[j]?).bind (·.dst) = some dj := by simpa [dstOf] using hdj
          simp only [Region.wanted, hgd, Go.yielded, hA, Option.bind_some, this]
          rfl
        have skip : isM.contains i = false → V x i = undef → Region.wanted o (yielded l.toArray a.tmps) = false → (if Region.wanted o (yielded l.toArray a.tmps) then o.wp P a w (wpAny P .any l.toArray Q fuel (L.setIfInBounds i true)) Q ∨ (o.asks P a w ∧ LetsOut Q) else wpAny P .any l.toArray Q fuel (L.setIfInBounds i true) (a.put o.dst undef) w) := by
          intro hnm hu hw
          rw [hw]
          simp only [Bool.false_eq_true, if_false]
          refine next x _ w ⟨h.step hok ho hL hn (fun _ _ _ => rfl) (fun _ _ => hu.symm) trivial, ?_⟩
          rw [hinsN hnm]
          exact hme
        rcases hO3 with ⟨hnm, hv⟩ | hv
        · rcases hv x with hv | ⟨hv | ⟨vs, hv⟩, hu⟩
          · rw [if_pos (by rw [hyld b hv hdj]; simp)]
            exact run (by rw [hgd]; exact hv)
          · exact skip hnm hu (by rw [hyld _ hv hdj]; cases b <;> rfl)
          · exact skip hnm hu (hyldT vs hv)
        · rw [if_pos (by rw [hyld b (hv x) hdj]; simp)]
          exact run (by rw [hgd]; exact hv x)
  refine main l.toArray.size (List.range l.length) (Array.replicate l.toArray.size false) x0 a0 _ List.nodup_range (fun i hi _ => List.mem_range.2 hi) (by simp) ⟨⟨by simp, ?_, ⟨(hS.weak hs).sz, (hS.weak hs).df, (hS.weak hs).g⟩, fun k v hk _ => (hS.weak hs1).g k v hk, ?_, trivial⟩, ?_⟩
  · intro j o hj hLj
    simp [Array.getElem?_replicate] at hLj
  · intro j d hLj
    simp [Array.getElem?_replicate] at hLj
  · have hz : isM.filter (fun m => (Array.replicate l.toArray.size false)[m]? == some true) = [] := by
      rw [List.filter_eq_nil_iff]
      intro m _
      simp [Array.getElem?_replicate]
    rw [hz]
    exact (hl w0 hM).same (fun e _ => ⟨rfl, rfl, rfl, Nat.le_refl _, fun _ _ => rfl⟩)
theorem Tri.drawM {X : Type} {id : Nat} {l : List Oper} (hm : P.follows .mixedOrders = true) (S0 S1 : List (Nat × Value)) (vs : X → List Value) (Hs : X → List Nat → List Ent) (isM MS : List Nat) (CS : List (List Nat)) (x0 : X) (sel : List Nat)
    (hok : drawOk n S0 l = true) (hMok : isMOk' l isM = true) (hMS : masksFrom [] l = MS) (hCS : closedSubs MS isM = CS) (hs : Has S S0) (hs1 : Has S S1) (hl : Le H (Hs x0 []))
    (hob : ObsM P n S0 S1 l (fun x i => (vs x).getD i undef) Hs isM MS CS Q 0 l)
    (hq : ∀ x, Nrm n (selS l (fun i => (vs x).getD i undef) S0 sel) (Hs x isM) Q) : Tri P n S H (.region id l.toArray true) Q := by
  refine Tri.drawM0 hm S0 S1 (fun x i => (vs x).getD i undef) Hs isM MS CS x0 hok hMok hMS hCS hs hs1 hl hob (fun x a w hS hv hM => hq x a w ?_ hM)
  refine ⟨hS.sz, hS.df, ?_⟩
  clear hq
  induction sel with
  | nil => exact hS.g
  | cons j r ih =>
    intro k v hk
    unfold selS at hk
    cases hd : dstOf l j with
    | none => rw [hd] at hk; exact ih k v hk
    | some d =>
      rw [hd] at hk
      by_cases e : d = k
      · subst e
        rw [get_cons_same] at hk
        cases hk
        exact hv j d hd
      · rw [get_cons_ne e] at hk
        exact ih k v hk
theorem Nrm.drawM {X : Type} {l : List Oper} {V : X → Nat → Value} {Hs : X → List Nat → List Ent} {i : Nat} {D' : List Nat} {x : X} {S1 : List (Nat × Value)} {H1 : List Ent} (x' : X)
    (hx : ∀ j, j ≠ i → clo l j i = false → V x' j = V x j) (hS : S1 = (match dstOf l i with | some d => (d, V x' i) :: S | none => S)) (hl : Le H1 (Hs x' D')) :
    Nrm n S1 H1 (DM n S l V Hs i D' x Q) := by
  intro a w h1 h2
  refine ⟨x', hx, ?_, hl w h2⟩
  rw [← hS]
  exact h1
end
end Go.GL
namespace Go.GL
set_option linter.unusedVariables false
set_option linter.unusedSimpArgs false
section
variable {P : Program} {n : Nat} {S : List (Nat × Value)} {H : List Ent} {A : Array Oper} {Q : Exit → Act → World → Prop}
theorem TOps.indexAddrA {d s x i U p e rest} {E : TypeId} {b off m off' : Nat} {k : IntKind} {z : Int} (hx : opv S x = some (.pointer (some ⟨b, off, none⟩))) (hi : opv S i = some (.int k z))
    (hs : P.underlying s = some (.array m E)) {g : Bool} {zv : List Value} {sz y : Nat} (ht : TI P E g zv sz y) (h0 : 0 ≤ z) (h1 : z < m) (ho : off + z.toNat * sz = off') (hn : Nat.blt d n = true)
    (h : TOps P n ((d, .pointer (some ⟨b, off', none⟩)) :: S) H rest A Q) : TOps P n S H (⟨some d, .indexAddr s x i, U, p, e, none⟩ :: rest) A Q :=
  TOps.pure rfl rfl hn (fun a w hS _ => by
    subst ho
    have : (⟨b, off, none⟩ : Addr).add (z.toNat * sz) = ⟨b, off + z.toNat * sz, none⟩ := by
      by_cases h0 : z.toNat * sz = 0 <;> simp [Addr.add, h0]
    simp [execOp, hS.eval hx, hS.eval hi, Instr.indexAt, asIntOf, run_underlying hs, Instr.sureAddr, h0, h1, ht.size, this]) h
theorem TOps.geqr {d x y T T' U p e rest} {k : IntKind} {a b : Int} {r : Bool} (hx : opv S x = some (.int k a)) (hy : opv S y = some (.int k b)) (hr : decide (b ≤ a) = r) (hn : Nat.blt d n = true)
    (h : TOps P n ((d, .bool r) :: S) H rest A Q) : TOps P n S H (⟨some d, .binOp .geq T x y T', U, p, e, none⟩ :: rest) A Q := by
  subst hr; exact TOps.geq hx hy hn h
theorem TOps.gtrr {d x y T T' U p e rest} {k : IntKind} {a b : Int} {r : Bool} (hx : opv S x = some (.int k a)) (hy : opv S y = some (.int k b)) (hr : decide (b < a) = r) (hn : Nat.blt d n = true)
    (h : TOps P n ((d, .bool r) :: S) H rest A Q) : TOps P n S H (⟨some d, .binOp .gtr T x y T', U, p, e, none⟩ :: rest) A Q := by
  subst hr; exact TOps.gtr hx hy hn h
theorem four {a b t : Int} : decide (a < 0) = true ∨ (decide (a < 0) = false ∧ decide (t ≤ a) = true) ∨ (decide (a < 0) = false ∧ decide (t ≤ a) = false ∧ decide (b < 0) = true) ∨ (decide (a < 0) = false ∧ decide (t ≤ a) = false ∧ decide (b < 0) = false) := by
  by_cases h : a < 0 <;> by_cases g : t ≤ a <;> by_cases f : b < 0 <;> simp [h, g, f]
theorem TOps.makeFunc {d f U p e rest} {caps : List Operand} {vs : List Value} (ha : ArgsAre S caps vs) (hn : Nat.blt d n = true)
    (h : TOps P n ((d, .func (.func f) #[] vs.toArray) :: S) H rest A Q) : TOps P n S H (⟨some d, .makeFunc (.func f) (List.toArray []) caps.toArray, U, p, e, none⟩ :: rest) A Q :=
  TOps.pure rfl rfl hn (fun a w hS _ => by
    have he := ha.eval hS
    simp [execOp, Instr.makeFunc, he]) h
theorem TOps.callV {d x f ts U p e rest} {args : List Operand} {vs caps : List Value} {R : Value → List Ent → Prop} (hx : opv S x = some (.func (.func f) #[] caps.toArray)) (hc : ∀ as w, (callFunc f as).run P w = .ok (.enter f as) w)
    (ha : ArgsAre S args vs) (hg : Gives P f (vs ++ caps) H R) (hn : Nat.blt d n = true)
    (h : ∀ v H', R v H' → TOps P n ((d, v) :: S) H' rest A Q) : TOps P n S H (⟨some d, .call ⟨.value x, args.toArray, ts⟩, U, p, e, none⟩ :: rest) A Q := by
  intro a w hS hM
  refine wpList_plain rfl fun K hK => ?_
  have he := ha.eval hS
  have hr : (execOp a.eval ⟨some d, .call ⟨.value x, args.toArray, ts⟩, U, p, e, none⟩).run P w = .ok (.enter f (vs ++ caps).toArray) w := by
    simp [execOp, resolve, hS.eval hx, Deferred.ofValue, invoke, hc, he]
  unfold Oper.wp
  rw [hr, Oper.upon_enter]
  refine (hg w hM).mono fun en w' h' => ?_
  obtain ⟨v, H', hR, rfl, hM'⟩ := h'
  exact hK _ _ (h v H' hR _ _ (hS.put v (by simpa [Nat.blt_eq] using hn)) hM')
end
section
variable {α : Type} (f : List α → Nd → α)
def genFrom : List α → List Nd → List α
  | v, [] => v
  | v, d :: r => genFrom (v ++ [f v d]) r
theorem genFrom_append (l1 l2 : List Nd) : ∀ v, genFrom f v (l1 ++ l2) = genFrom f (genFrom f v l1) l2 := by
  induction l1 with
  | nil => intro v; rfl
  | cons d r ih => intro v; exact ih _
theorem genFrom_length (l : List Nd) : ∀ v, (genFrom f v l).length = v.length + l.length := by
  induction l with
  | nil => intro v; rfl
  | cons d r ih => intro v; simp [genFrom, ih]; omega
theorem genFrom_take_succ {v : List α} {l : List Nd} {k : Nat} (hk : k < l.length) :
    genFrom f v (l.take (k + 1)) = genFrom f v (l.take k) ++ [f (genFrom f v (l.take k)) l[k]] := by
  rw [List.take_succ_eq_append_getElem hk, genFrom_append]
  rfl
theorem genFrom_getD_lt (z : α) (l : List Nd) : ∀ (v0 : List α) (j : Nat), j < v0.length → (genFrom f v0 l).getD j z = v0.getD j z := by
  induction l with
  | nil => intro v0 j _; rfl
  | cons d r ih =>
    intro v0 j hj
    rw [genFrom, ih _ j (by simp; omega)]
    simp [List.getD_eq_getElem?_getD, List.getElem?_append_left hj]
theorem genFrom_node (z : α) (l : List Nd) (v0 : List α) (i : Nat) (hi : i < l.length) (ha : ∀ a ∈ l[i].args, a.toNat < v0.length + i)
    (hf : ∀ v w : List α, (∀ a ∈ l[i].args, v.getD a.toNat z = w.getD a.toNat z) → f v l[i] = f w l[i]) :
    (genFrom f v0 l).getD (v0.length + i) z = f (genFrom f v0 l) l[i] := by
  have hsplit : l = l.take i ++ l[i] :: l.drop (i + 1) := by
    rw [List.getElem_cons_drop]
    simp
  have hlen : (genFrom f v0 (l.take i)).length = v0.length + i := by
    rw [genFrom_length, List.length_take]
    omega
  have h1 : genFrom f v0 l = genFrom f (genFrom f v0 (l.take i) ++ [f (genFrom f v0 (l.take i)) l[i]]) (l.drop (i + 1)) := by
    conv => lhs; rw [hsplit]
    rw [genFrom_append]
    rfl
  have h2 : f (genFrom f v0 (l.take i)) l[i] = f (genFrom f v0 l) l[i] := by
    refine hf _ _ fun a haa => ?_
    have hlt := ha a haa
    rw [h1, genFrom_getD_lt f z (l.drop (i + 1)) _ a.toNat (by rw [List.length_append, hlen, List.length_singleton]; omega)]
    rw [List.getD_eq_getElem?_getD, List.getD_eq_getElem?_getD, List.getElem?_append_left (show a.toNat < (genFrom f v0 (l.take i)).length by omega)]
  rw [← h2, h1, genFrom_getD_lt f z (l.drop (i + 1)) _ (v0.length + i) (by rw [List.length_append, hlen, List.length_singleton]; omega), ← hlen]
  simp [List.getD_eq_getElem?_getD]
end
def firstI (q : Int → Bool) (xs : List Int) : Int := match xs.findIdx? q with | some i => (i : Int) | none => -1
end Go.GL
namespace Go.GL
set_option linter.unusedVariables false
def lev (yes no : Bool) : Nat := bif yes then 1 else bif no then 0 else 2
theorem lev_le (y n : Bool) : lev y n ≤ 2 := by cases y <;> cases n <;> decide
def tnode (d : Nd) (n0 n1 n2 : Nat) : Nat :=
  if d.kind = 0 then d.k.toNat else if d.kind = 1 then lev (decide ((n0 : Int) = 1)) (decide ((n1 : Int) = 1))
  else if d.kind = 2 then lev (decide ((n1 : Int) = d.args.length)) (decide (0 < (n0 : Int)))
  else if d.kind = 3 then lev (decide (0 < (n1 : Int))) (decide ((n0 : Int) = d.args.length))
  else if d.kind = 4 then lev (decide (d.k ≤ n1)) (decide ((n1 : Int) + n2 < d.k))
  else lev (decide ((n2 : Int) = 0) && decide ((n1 : Int).tmod 2 = 1)) (decide ((n2 : Int) = 0) && decide ((n1 : Int).tmod 2 = 0))
def tc (v : List Nat) (b : Nat) (args : List Int) : Nat := args.countP (fun a => v.getD a.toNat 2 == b)
def tfun (v : List Nat) (d : Nd) : Nat := tnode d (tc v 0 d.args) (tc v 1 d.args) (tc v 2 d.args)
def tevents (v : Nat) (yes no : Int) : List Nat := (List.range v).map (fun i => lev (bitB yes i) (bitB no i))
def Fm.tvals (F : Fm) (yes no : Int) : List Nat := genFrom tfun (tevents F.vars.toNat yes no) F.nodes
def Fm.tval (F : Fm) (yes no : Int) (j : Nat) : Nat := (F.tvals yes no).getD j 2
def Fm.cubeErr (F : Fm) (yes no : Int) : Option Int :=
  match F.err with
  | some e => some e
  | none => if yes < 0 ∨ ((2 ^ F.vars.toNat : Nat) : Int) ≤ yes ∨ no < 0 ∨ ((2 ^ F.vars.toNat : Nat) : Int) ≤ no then some 3 else if iand yes no ≠ 0 then some 6 else none
theorem Fm.cubeErr_none {F : Fm} {yes no : Int} (h : F.cubeErr yes no = none) : F.Good ∧ 0 ≤ yes ∧ yes < ((2 ^ F.vars.toNat : Nat) : Int) ∧ 0 ≤ no ∧ no < ((2 ^ F.vars.toNat : Nat) : Int) ∧ iand yes no = 0 := by
  unfold Fm.cubeErr at h
  cases he : F.err with
  | some e => rw [he] at h; cases h
  | none =>
    rw [he] at h
    simp only at h
    split at h
    · cases h
    · split at h
      · cases h
      · exact ⟨(Fm.good_iff F).1 he, by omega, by omega, by omega, by omega, by omega⟩
theorem Fm.cubeErr_good {F : Fm} (hg : F.Good) {yes no : Nat} (hy : yes < 2 ^ F.vars.toNat) (hn : no < 2 ^ F.vars.toNat) (h : yes &&& no = 0) : F.cubeErr yes no = none := by
  have hv : F.vars.toNat ≤ 24 := by have := hg.v1; have := hg.v0; omega
  unfold Fm.cubeErr
  rw [(Fm.good_iff F).2 hg]
  simp only
  rw [if_neg (by omega), iand_nat (pow_lt63 hv hy) (pow_lt63 hv hn), h]
  rfl
theorem tevents_length (v : Nat) (y n : Int) : (tevents v y n).length = v := by simp [tevents]
theorem Fm.tvals_length (F : Fm) (y n : Int) : (F.tvals y n).length = F.vars.toNat + F.nodes.length := by
  unfold Fm.tvals; rw [genFrom_length, tevents_length]
theorem tc_congr {v w : List Nat} {b : Nat} {l : List Int} (h : ∀ a ∈ l, v.getD a.toNat 2 = w.getD a.toNat 2) : tc v b l = tc w b l := by
  unfold tc
  exact List.countP_congr (fun a ha => by rw [h a ha])
theorem tfun_congr {v w : List Nat} {d : Nd} (h : ∀ a ∈ d.args, v.getD a.toNat 2 = w.getD a.toNat 2) : tfun v d = tfun w d := by
  unfold tfun
  rw [tc_congr h, tc_congr h, tc_congr h]
def tcOf (f : Nat → Nat) (b : Nat) (args : List Int) : Nat := args.countP (fun a => f a.toNat == b)
theorem Fm.tval_event (F : Fm) (y n : Int) {j : Nat} (hj : j < F.vars.toNat) : F.tval y n j = lev (bitB y j) (bitB n j) := by
  unfold Fm.tval Fm.tvals
  rw [genFrom_getD_lt _ _ _ _ _ (by rw [tevents_length]; exact hj)]
  simp [tevents, hj]
theorem Fm.tval_node {F : Fm} (hg : F.Good) (y n : Int) {i : Nat} (hi : i < F.nodes.length) :
    F.tval y n (F.vars.toNat + i) = tnode F.nodes[i] (tcOf (F.tval y n) 0 F.nodes[i].args) (tcOf (F.tval y n) 1 F.nodes[i].args) (tcOf (F.tval y n) 2 F.nodes[i].args) := by
  have := genFrom_node tfun 2 F.nodes (tevents F.vars.toNat y n) i hi (by rw [tevents_length]; exact hg.argLt hi) (fun v w h => tfun_congr h)
  rw [tevents_length] at this
  exact this
theorem tnode_le {d : Nd} {m : Int} (h : d.Fits m) (a b c : Nat) : tnode d a b c ≤ 2 := by
  unfold tnode
  have hk := h.kk.1
  split
  · have := hk ‹_›; omega
  · (repeat' split) <;> exact lev_le _ _
theorem tvals_le {F : Fm} (hg : F.Good) (y n : Int) (k : Nat) (hk : k ≤ F.nodes.length) : ∀ x ∈ genFrom tfun (tevents F.vars.toNat y n) (F.nodes.take k), x ≤ 2 := by
  induction k with
  | zero =>
    intro x hx
    simp only [List.take_zero, genFrom, tevents, List.mem_map] at hx
    obtain ⟨i, _, rfl⟩ := hx
    exact lev_le _ _
  | succ k ih =>
    intro x hx
    rw [genFrom_take_succ tfun (by omega), List.mem_append, List.mem_singleton] at hx
    rcases hx with hx | rfl
    · exact ih (by omega) x hx
    · exact tnode_le (hg.fits k (by omega)) _ _ _
theorem getD_le2 {l : List Nat} (h : ∀ x ∈ l, x ≤ 2) (j : Nat) : l.getD j 2 ≤ 2 := by
  rw [List.getD_eq_getElem?_getD]
  cases hj : l[j]? with
  | none => simp
  | some x => exact h x (List.mem_of_getElem? hj)
def tcs (v : List Nat) (args : List Int) : List Nat := [tc v 0 args, tc v 1 args, tc v 2 args]
theorem tc_take_succ {v : List Nat} {b : Nat} {l : List Int} {k : Nat} (hk : k < l.length) : tc v b (l.take (k + 1)) = tc v b (l.take k) + (if v.getD l[k].toNat 2 == b then 1 else 0) := by
  unfold tc
  rw [List.take_succ_eq_append_getElem hk, List.countP_append]
  simp [List.countP_cons, List.countP_nil]
theorem tcs_take_succ {v : List Nat} {l : List Int} {k : Nat} (hk : k < l.length) (h : v.getD l[k].toNat 2 ≤ 2) :
    tcs v (l.take (k + 1)) = (tcs v (l.take k)).set (v.getD l[k].toNat 2) ((tcs v (l.take k)).getD (v.getD l[k].toNat 2) 0 + 1) := by
  unfold tcs
  rw [tc_take_succ hk, tc_take_succ hk, tc_take_succ hk]
  rcases (show v.getD l[k].toNat 2 = 0 ∨ v.getD l[k].toNat 2 = 1 ∨ v.getD l[k].toNat 2 = 2 by omega) with e | e | e <;> rw [e] <;> simp
theorem tc_le (v : List Nat) (b : Nat) (l : List Int) : tc v b l ≤ l.length := List.countP_le_length
theorem tcs_getD_le (v : List Nat) (l : List Int) (j : Nat) : (tcs v l).getD j 0 ≤ l.length := by
  unfold tcs
  rcases j with _ | _ | _ | j
  · exact tc_le _ _ _
  · exact tc_le _ _ _
  · exact tc_le _ _ _
  · simp
theorem nats_getz (z : Nat) {l : List Nat} {i : Nat} (hi : i < l.length) : (nats l)[i]? = some (.int .i64 (l.getD i z : Nat)) := by
  simp [hi]
def Fm.tnodeVals (F : Fm) (y n : Int) : List Nat := (F.tvals y n).drop F.vars.toNat
def noPart (y n : Nat) : Nat := n ^^^ (n &&& y)
theorem noPart_lt {y n v : Nat} (hn : n < 2 ^ v) : noPart y n < 2 ^ v := Nat.xor_lt_two_pow hn (Nat.lt_of_le_of_lt Nat.and_le_left hn)
def nextL (v : Nat) (nodes : List Nd) (tv : Nat → Nat) : Nat → Nat → Nat
  | 0, at_ => at_
  | f + 1, at_ => if at_ < v then at_ else
      let args := (nodes.getD (at_ - v) ⟨0, 0, []⟩).args
      nextL v nodes tv f (args.getD (firstI (fun a => decide (tv a.toNat = 2)) args).toNat 0).toNat
def Fm.next (F : Fm) (y n : Int) : Int := if F.tval y n F.top.toNat ≠ 2 then -1 else nextL F.vars.toNat F.nodes (F.tval y n) (F.top.toNat + 1) F.top.toNat
theorem tcOf_sum {f : Nat → Nat} {l : List Int} (h : ∀ a ∈ l, f a.toNat ≤ 2) : tcOf f 0 l + tcOf f 1 l + tcOf f 2 l = l.length := by
  unfold tcOf
  induction l with
  | nil => rfl
  | cons a r ih =>
    have h0 := h a (by simp)
    have := ih (fun b hb => h b (List.mem_cons_of_mem _ hb))
    simp only [List.countP_cons, List.length_cons]
    rcases (show f a.toNat = 0 ∨ f a.toNat = 1 ∨ f a.toNat = 2 by omega) with e | e | e <;> rw [e] <;>
      simp only [beq_self_eq_true, if_true, (by decide : ((0 : Nat) == 1) = false), (by decide : ((0 : Nat) == 2) = false), (by decide : ((1 : Nat) == 0) = false), (by decide : ((1 : Nat) == 2) = false), (by decide : ((2 : Nat) == 0) = false), (by decide : ((2 : Nat) == 1) = false), Bool.false_eq_true, if_false] <;> omega
theorem Fm.tval_le {F : Fm} (hg : F.Good) (y n : Int) (j : Nat) : F.tval y n j ≤ 2 := by
  have := tvals_le hg y n F.nodes.length (Nat.le_refl _)
  rw [List.take_length] at this
  exact getD_le2 this j
end Go.GL
namespace Go.GL
set_option linter.unusedVariables false
set_option linter.unusedSimpArgs false
section
variable {P : Program} {n : Nat} {S : List (Nat × Value)} {H : List Ent} {A : Array Oper} {Q : Exit → Act → World → Prop}
theorem Nrm.le {H' : List Ent} (hl : Le H H') (h : Nrm n S H' Q) : Nrm n S H Q := fun a w hS hM => h a w hS (hl w hM)
end
def Fm.plus (F : Fm) (ns : List Nd) (top : Int) : Fm := ⟨F.vars, F.nodes ++ ns, top⟩
def negT (t : Nat) : Nat := if t = 0 then 1 else if t = 1 then 0 else 2
def rangeI (k : Nat) : List Int := (List.range k).map (fun (i : Nat) => (i : Int))
def oneF (kind k : Int) (m : Nat) : Fm := ⟨m, [⟨kind, k, rangeI m⟩], m⟩
end Go.GL
namespace Go.GL
structure DX where
  b2 : Nat
  a5 : Option Nat
  c5 : Nat
  b8 : Nat
  b11 : Nat
  b13 : Nat
  a14 : Nat
  c14 : Nat
  b17 : Nat
abbrev DX.six (x : DX) : List Value := [.int .i64 1, .int .i64 0, slV (some x.b8) 0 1 1, .int .i64 1, .int .i64 0, slV (some x.b11) 0 1 1]
theorem sub_on {H H' l : List Ent} (h : H.Sublist H') : H.Sublist (l ++ H') := h.trans (List.sublist_append_right _ _)
end Go.GL
namespace Go.GL
set_option linter.unusedVariables false
set_option linter.unusedSimpArgs false
def Fm.under (F : Fm) (arg : Nat) : List Bool :=
  if arg < F.vars.toNat then List.replicate (F.vars.toNat + F.nodes.length) false
  else belowL F.vars.toNat F.nodes (arg - F.vars.toNat) (markArgs (List.replicate (F.vars.toNat + F.nodes.length) false) (F.nodes.getD (arg - F.vars.toNat) ⟨0, 0, []⟩).args)
section
variable {F : Fm}
end
def Fm.modAt (F : Fm) (arg i : Nat) : Bool := !F.below.getD (F.vars.toNat + i) false || Nat.beq (F.vars.toNat + i) arg || (F.under arg).getD (F.vars.toNat + i) false || (F.nodes.getD i ⟨0, 0, []⟩).args.all (fun a => !(F.under arg).getD a.toNat false)
def Fm.isMod (F : Fm) (arg : Nat) : Bool := (F.under arg).any id && !(F.under arg).getD F.top.toNat false && (List.range F.nodes.length).all (F.modAt arg)
def Fm.findTo (F : Fm) (k : Nat) : List Nat := ((List.range k).filter (fun i => F.below.getD (F.vars.toNat + i) false && F.isMod (F.vars.toNat + i))).map (fun i => F.vars.toNat + i)
def Fm.find (F : Fm) : List Nat := F.findTo F.nodes.length
def Fm.evs (F : Fm) (arg : Nat) : Nat := if arg < F.vars.toNat then 2 ^ arg else setOf (F.under arg) F.vars.toNat
section
variable {F : Fm}
end
end Go.GL
namespace Go.GL
set_option linter.unusedVariables false
section
variable {P : Program} {n : Nat} {S : List (Nat × Value)} {H : List Ent} {A : Array Oper} {Q : Exit → Act → World → Prop}
end
def argSumI (ns : List Nd) : Int := ns.foldl (fun z d => IntKind.i64.wrap (z + d.args.length)) 0
def Fm.heavy (F : Fm) : Bool := ((decide ((40 : Int) < F.nodes.length) && decide ((F.nodes.length : Int) ≤ 128)) || decide ((300 : Int) < F.nodes.length)) || decide (2000 < argSumI F.nodes)
def exF29 (t : Bool) : Fm := ⟨4, [⟨3, 0, [0, 1]⟩, ⟨3, 0, [bif t then 2 else 1, 2]⟩, ⟨2, 0, [2, 3]⟩, ⟨2, 0, [4, 5, 6]⟩], 7⟩
end Go.GL
namespace Go.GL
section
variable {P : Program} {n : Nat} {S : List (Nat × Value)} {A : Array Oper} {Q : Exit → Act → World → Prop}
theorem TOps.fd {X : Type} {l : List Oper} {V : X → Nat → Value} {Hs : X → Nat → List Ent} {i c' : Nat} {S1 : List (Nat × Value)} {H1 : List Ent} (x : X)
    (hS : S1 = (match dstOf l i with | some d => (d, V x i) :: S | none => S)) (hl : H1 = Hs x c') : TOps P n S1 H1 [] A (DQ n S l V Hs i c' x Q) :=
  by subst hl; exact TOps.fin (Nrm.draw x (fun _ _ _ => rfl) hS (Le.refl _))
theorem TOps.fdM {X : Type} {l : List Oper} {V : X → Nat → Value} {Hs : X → List Nat → List Ent} {i : Nat} {D' : List Nat} {S1 : List (Nat × Value)} {H1 : List Ent} (x : X)
    (hS : S1 = (match dstOf l i with | some d => (d, V x i) :: S | none => S)) (hl : H1 = Hs x D') : TOps P n S1 H1 [] A (DM n S l V Hs i D' x Q) :=
  by subst hl; exact TOps.fin (Nrm.drawM x (fun _ _ _ => rfl) hS (Le.refl _))
end
end Go.GL
namespace Go.GL
set_option linter.unusedVariables false
set_option linter.unusedSimpArgs false
section
variable {P : Program} {n : Nat} {S : List (Nat × Value)} {H : List Ent} {A : Array Oper} {Q : Exit → Act → World → Prop}
def uand (a b : Int) : Int := IntKind.u64.wrap (BitVec.ofInt 64 a &&& BitVec.ofInt 64 b).toNat
end
def pp : Nat → Nat → Nat
  | 0, _ => 0
  | f + 1, x => x % 2 + pp f (x / 2)
def a8 (a : Nat) : Nat := (a / 2 &&& 85) + (a &&& 85)
def b8 (a : Nat) : Nat := (a / 4 &&& 51) + (a &&& 51)
theorem t8 : ∀ p : Fin 256, a8 p.val < 256 ∧ b8 (a8 p.val) < 256 ∧ b8 (a8 p.val) / 16 ≤ 4 ∧ b8 (a8 p.val) % 16 ≤ 4 ∧ b8 (a8 p.val) / 16 + b8 (a8 p.val) % 16 = pp 8 p.val := by decide +kernel
def Fm.proper1 (F : Fm) (x : Nat) : Bool := decide ((x : Int) ≠ F.top) && decide (2 ≤ pp 24 (F.evs x))
def Fm.proper (F : Fm) : List Nat := F.find.filter F.proper1
def Fm.properTo (F : Fm) (k : Nat) : List Nat := (F.find.take k).filter F.proper1
end Go.GL
namespace Go.GL
set_option linter.unusedVariables false
set_option linter.unusedSimpArgs false
def Fm.terr (F : Fm) : Option Int := match F.err with | some e => some e | none => if 12 < F.vars then some 4 else none
def Fm.table (F : Fm) : List Bool := (List.range (2 ^ F.vars.toNat)).map (fun (s : Nat) => F.value s)
theorem Fm.table_length (F : Fm) : F.table.length = 2 ^ F.vars.toNat := by unfold Fm.table; simp
theorem Fm.table_get (F : Fm) {s : Nat} (h : s < F.table.length) : F.table[s] = F.value (s : Nat) := by simp [Fm.table]
theorem Fm.terr_none {F : Fm} (h : F.terr = none) : F.Good ∧ F.vars ≤ 12 := by
  unfold Fm.terr at h
  cases he : F.err with
  | some e => rw [he] at h; cases h
  | none =>
    rw [he] at h
    simp only at h
    by_cases h12 : 12 < F.vars
    · rw [if_pos h12] at h; cases h
    · exact ⟨(Fm.good_iff F).1 he, by omega⟩
theorem pow12 {v : Nat} (h : v ≤ 12) : 2 ^ v ≤ 4096 := Nat.pow_le_pow_right (n := 2) (by decide) h
def Fm.wTo (F : Fm) (k : Nat) : List Nat := (List.range (F.vars.toNat + 1)).map (fun w => (List.range k).countP (fun s => F.value (s : Nat) && decide (pp 24 s = w)))
def Fm.weights (F : Fm) : List Nat := F.wTo (2 ^ F.vars.toNat)
def exF10 : Fm := ⟨3, [⟨4, 2, [0, 1, 2]⟩], 3⟩
end Go.GL
namespace Go.GL
set_option linter.unusedVariables false
set_option linter.unusedSimpArgs false
section
variable {P : Program} {n : Nat} {S : List (Nat × Value)} {H : List Ent} {A : Array Oper} {Q : Exit → Act → World → Prop}
end
def Fm.eqErr (F G : Fm) : Option Int := match F.err with | some e => some e | none => (match G.err with | some e => some e | none => if F.vars = G.vars then F.terr else some 11)
def DifAt (F G : Fm) (z : Int) : Prop := (z = -1 ∧ ∀ s, s < 2 ^ F.vars.toNat → F.value (s : Nat) = G.value (s : Nat)) ∨ ∃ s : Nat, z = s ∧ s < 2 ^ F.vars.toNat ∧ F.value (s : Nat) ≠ G.value (s : Nat) ∧ ∀ i, i < s → F.value (i : Nat) = G.value (i : Nat)
theorem Fm.eqErr_1 {F G : Fm} {e : Int} (h : F.err = some e) : F.eqErr G = some e := by unfold Fm.eqErr; rw [h]
theorem Fm.eqErr_2 {F G : Fm} {e : Int} (h : F.err = none) (h2 : G.err = some e) : F.eqErr G = some e := by unfold Fm.eqErr; rw [h, h2]
theorem Fm.eqErr_3 {F G : Fm} (h : F.err = none) (h2 : G.err = none) (h3 : F.vars ≠ G.vars) : F.eqErr G = some 11 := by unfold Fm.eqErr; rw [h, h2]; exact if_neg h3
theorem Fm.eqErr_4 {F G : Fm} (h : F.err = none) (h2 : G.err = none) (h3 : F.vars = G.vars) : F.eqErr G = F.terr := by unfold Fm.eqErr; rw [h, h2]; exact if_pos h3
theorem Fm.terr_same {F G : Fm} (h : F.err = none) (h2 : G.err = none) (h3 : F.vars = G.vars) : F.terr = G.terr := by unfold Fm.terr; rw [h, h2, h3]
end Go.GL
namespace Go.GL
end Go.GL
namespace Go.GL
set_option linter.unusedVariables false
set_option linter.unusedSimpArgs false
def Fm.mono1 (F : Fm) (s i : Nat) : Bool := !(F.value (s : Nat)) || F.value ((s ||| 2 ^ i : Nat) : Int)
def Fm.mono (F : Fm) : Bool := (List.range (2 ^ F.vars.toNat)).all fun s => (List.range F.vars.toNat).all fun i => F.mono1 s i
def Fm.dif1 (F : Fm) (s i : Nat) : Bool := F.value (s : Nat) != F.value ((s ||| 2 ^ i : Nat) : Int)
structure RelTo (F : Fm) (k j r : Nat) : Prop where
  lt : r < 2 ^ F.vars.toNat
  bit : ∀ i, i < F.vars.toNat → r.testBit i = ((List.range k).any (fun s => F.dif1 s i) || (decide (i < j) && F.dif1 k i))
def RelOf (F : Fm) (r : Nat) : Prop := RelTo F (2 ^ F.vars.toNat) 0 r
end Go.GL
namespace Go.GL
set_option linter.unusedVariables false
set_option linter.unusedSimpArgs false
end Go.GL
namespace Go.GL
set_option linter.unusedVariables false
set_option linter.unusedSimpArgs false
end Go.GL
namespace Go.GL
set_option linter.unusedVariables false
set_option linter.unusedSimpArgs false
def bin : Nat → Nat → Nat
  | _, 0 => 1
  | 0, _ + 1 => 0
  | v + 1, w + 1 => bin v w + bin v (w + 1)
def Fm.neg (F : Fm) : Fm := F.plus [⟨1, 0, [F.top]⟩] (F.vars + F.nodes.length)
def Fm.count (F : Fm) : Nat := F.weights.sum
def ppBits (s : Nat) (k : Nat) : Nat := (List.range k).countP (fun i => s.testBit i)
def plainNd (d : Nd) : Bool := decide (d.kind ≠ 1) && decide (d.kind ≠ 5)
structure NX where
  b2 : Nat
  a5 : Option Nat
  c5 : Nat
  b8 : Nat
  b10 : Nat
  a11 : Nat
  c11 : Nat
  b19 : Nat
abbrev NX.three (x : NX) : List Value := [.int .i64 1, .int .i64 0, slV (some x.b8) 0 1 1]
theorem bit_one {k : Nat} (j : Nat) (hk : k < 9223372036854775808) (hj : j ≤ 64) : iand (ishr (k : Int) j) 1 = if k.testBit j then 1 else 0 := by
  rw [ishr_nat hj, iand_one (Nat.lt_of_le_of_lt (Nat.shiftRight_le _ _) hk), Nat.testBit_eq_decide_div_mod_eq, Nat.shiftRight_eq_div_pow]
  simp only [decide_eq_true_eq]
  split <;> omega
theorem bit_step (k j : Nat) (h : k < 9223372036854775808 ∧ j ≤ 64) : iand (ishr (k : Int) j) 1 = if k.testBit j then 1 else 0 := bit_one j h.1 h.2
end Go.GL
namespace Go.GL
set_option linter.unusedVariables false
set_option linter.unusedSimpArgs false
def Fm.up1 (F : Fm) (s i : Nat) : Bool := !(s.testBit i) && (F.value ((s ||| 2 ^ i : Nat) : Int) && !(F.value (s : Nat)))
def Fm.dn1 (F : Fm) (s i : Nat) : Bool := !(s.testBit i) && (F.value (s : Nat) && !(F.value ((s ||| 2 ^ i : Nat) : Int)))
def Fm.ups (F : Fm) (k i : Nat) : Bool := (List.range k).any (fun s => F.up1 s i)
def Fm.dns (F : Fm) (k i : Nat) : Bool := (List.range k).any (fun s => F.dn1 s i)
abbrev Fm.all2 (F : Fm) : Nat := 2 ^ F.vars.toNat
def Fm.up (F : Fm) (i : Nat) : Bool := F.ups F.all2 i
def Fm.dn (F : Fm) (i : Nat) : Bool := F.dns F.all2 i
def Fm.noDn (F : Fm) (k : Nat) : Bool := (List.range k).all (fun i => !(F.dn i))
def Fm.relTo (F : Fm) : Nat → Nat
  | 0 => 0
  | k + 1 => bif F.up k || F.dn k then F.relTo k ||| 2 ^ k else F.relTo k
def Fm.rel (F : Fm) : Nat := F.relTo F.vars.toNat
def WitAt (F : Fm) (o : Option (Nat × Nat)) : Prop :=
  match o with
  | none => ∀ s, s < F.all2 → ∀ i, i < F.vars.toNat → F.dn1 s i = false
  | some (s, i) => s < F.all2 ∧ i < F.vars.toNat ∧ F.dn1 s i = true ∧ (∀ t, t < s → ∀ j, j < F.vars.toNat → F.dn1 t j = false) ∧ (∀ j, j < i → F.dn1 s j = false)
def Fm.dirErr (F : Fm) (i : Int) : Option Int := match F.terr with | some e => some e | none => if i < 0 ∨ F.vars ≤ i then some 10 else none
def Fm.chg (F : Fm) (s i : Nat) : Int := bif F.up1 s i then 1 else bif F.dn1 s i then -1 else 0
def Fm.syn (F : Fm) : Bool := F.trim.nodes.all plainNd
def Fm.synRef (F : Fm) (k : Nat) : Bool := (List.range k).all (fun i => !(F.below.getD (F.vars.toNat + i) false) || plainNd (F.nodes.getD i ⟨0, 0, []⟩))
def exF28a : Fm := ⟨2, [⟨1, 0, [1]⟩, ⟨1, 0, [2]⟩, ⟨3, 0, [0, 3]⟩], 4⟩
def exF28b : Fm := ⟨2, [⟨5, 0, [0, 1]⟩], 2⟩
def wS : Option (Nat × Nat) → Nat
  | none => 0
  | some p => p.1
def wI : Option (Nat × Nat) → Nat
  | none => 0
  | some p => p.2
def Fm.witErr (F : Fm) (o : Option (Nat × Nat)) : Option Int := match F.terr with | some e => some e | none => if o.isNone then some 17 else none
def WitOf (F : Fm) (o : Option (Nat × Nat)) : Prop := (F.terr = none → WitAt F o) ∧ (F.terr ≠ none → o = none)
end Go.GL
namespace Go.GL
set_option linter.unusedVariables false
set_option linter.unusedSimpArgs false
section
variable {P : Program} {n : Nat} {S : List (Nat × Value)} {H : List Ent} {A : Array Oper} {Q : Exit → Act → World → Prop}
theorem TOps.nilCheck {d x U p e rest} {a : Addr} (hx : opv S x = some (.pointer (some a))) (hn : Nat.blt d n = true)
    (h : TOps P n ((d, .pointer (some a)) :: S) H rest A Q) : TOps P n S H (⟨some d, .nilCheck x, U, p, e, none⟩ :: rest) A Q :=
  TOps.pure rfl rfl hn (fun ac w hS _ => by simp [execOp, hS.eval hx]) h
theorem run_equal_ptrnil {T E : TypeId} (hT : P.underlying T = some (.pointer E)) (a : Option Addr) (w : World) : (Op.equal T (.pointer a) (.pointer none)).run P w = .ok a.isNone w := by
  have key : ∀ d, (Op.equalIn (d + 1) T (.pointer a) (.pointer none)).run P w = .ok a.isNone w := by
    intro d
    cases a <;> simp [Op.equalIn, run_underlying hT]
  unfold Op.equal
  rw [show Op.maxDepth = 9999 + 1 from rfl]
  exact key 9999
theorem TOps.eqlPtrNil {d T x T' U p e rest} {E : TypeId} {a : Option Addr} (hx : opv S x = some (.pointer a)) (hT : P.underlying T = some (.pointer E)) (hn : Nat.blt d n = true)
    (h : TOps P n ((d, .bool a.isNone) :: S) H rest A Q) : TOps P n S H (⟨some d, .binOp .eql T x (.const (.pointer none)) T', U, p, e, none⟩ :: rest) A Q :=
  TOps.pure rfl rfl hn (fun ac w hS _ => by
    have hk : ac.eval (.const (.pointer none)) = .pointer none := rfl
    have he := run_equal_ptrnil (P := P) hT a w
    have hb : binOp .eql T (.pointer a) (.pointer none) = (Functor.map Value.bool (Op.equal T (.pointer a) (.pointer none))) := by
      simp [binOp]
    simp only [execOp, hS.eval hx, hk, hb]
    cases a <;> simp at he <;> simp [eqGuard, he]) h
theorem TOps.neqPtrNil {d T x T' U p e rest} {E : TypeId} {a : Option Addr} (hx : opv S x = some (.pointer a)) (hT : P.underlying T = some (.pointer E)) (hn : Nat.blt d n = true)
    (h : TOps P n ((d, .bool a.isSome) :: S) H rest A Q) : TOps P n S H (⟨some d, .binOp .neq T x (.const (.pointer none)) T', U, p, e, none⟩ :: rest) A Q :=
  TOps.pure rfl rfl hn (fun ac w hS _ => by
    have hk : ac.eval (.const (.pointer none)) = .pointer none := rfl
    have he := run_equal_ptrnil (P := P) hT a w
    simp only [execOp, hS.eval hx, hk]
    cases a <;> simp at he <;> simp [eqGuard, binOp, he]) h
end
theorem Rd.pre {H : List Ent} {b off : Nat} {vs : List Value} (h : Rd H b off vs) (n : Nat) : Rd H b off (vs.take n) := by
  intro w hM i u hi
  refine h w hM i u ?_
  rw [List.getElem?_take] at hi
  split at hi
  · exact hi
  · cases hi
abbrev OA (cs : List Value) := {a : Option Nat // cs ≠ [] → ∃ b, a = some b}
def OA.zero (cs : List Value) : OA cs := ⟨some 0, fun _ => ⟨0, rfl⟩⟩
theorem oneInts (xs : List Int) : ∀ u ∈ ints xs, u.oneCell' = true := by
  intro u hu; obtain ⟨q, _, rfl⟩ := List.mem_map.1 hu; rfl
end Go.GL
namespace Go.GL
set_option linter.unusedVariables false
set_option linter.unusedSimpArgs false
structure Pl where
  ev : Int
  fl : Bool
  top : Bool
deriving DecidableEq
structure Mo where
  f : Nat
  log : List Pl
deriving DecidableEq
abbrev Mo.zero : Mo := ⟨0, []⟩
def plCells (p : Pl) : List Value := [.int .i64 p.ev, .bool p.fl, .bool p.top]
def logCells (l : List Pl) : List Value := l.flatMap plCells
theorem logCells_length (l : List Pl) : (logCells l).length = l.length * 3 := by
  induction l with
  | nil => rfl
  | cons p l ih => simp only [logCells, List.flatMap_cons, List.length_append, List.length_cons] at ih ⊢; rw [ih]; simp [plCells]; omega
theorem logCells_append (l m : List Pl) : logCells (l ++ m) = logCells l ++ logCells m := by simp [logCells]
def Fm.playErr (F : Fm) (S : Mo) (i : Int) (fl : Bool) : Option Int :=
  if i < 0 ∨ F.vars ≤ i then some 10 else if S.f.testBit i.toNat = fl then some 12 else if S.log.length = 4096 then some 4 else none
def Mo.flip (S : Mo) (i : Int) : Nat := S.f ^^^ 2 ^ i.toNat
def Fm.play (F : Fm) (S : Mo) (i : Int) (fl : Bool) : Mo :=
  match F.playErr S i fl with
  | some _ => S
  | none => ⟨S.flip i, S.log ++ [⟨i, fl, F.value (S.flip i : Nat)⟩]⟩
def Fm.playTop (F : Fm) (S : Mo) (i : Int) (fl : Bool) : Bool := (F.playErr S i fl).isNone && F.value (S.flip i : Nat)
def Mo.undoErr (S : Mo) : Option Int := if S.log = [] then some 12 else none
def Mo.undo (S : Mo) : Mo := match S.log.getLast? with
  | none => S
  | some p => ⟨S.f ^^^ 2 ^ p.ev.toNat, S.log.dropLast⟩
structure MoOk (F : Fm) (S : Mo) : Prop where
  lt : S.f < 2 ^ F.vars.toNat
  len : S.log.length ≤ 4096
  ev : ∀ p ∈ S.log, 0 ≤ p.ev ∧ p.ev < F.vars
theorem MoOk.nil (F : Fm) : MoOk F ⟨0, []⟩ := ⟨Nat.two_pow_pos _, by simp, by simp⟩
theorem Fm.playErr_1 {F : Fm} {S : Mo} {i : Int} {fl : Bool} (h : i < 0 ∨ F.vars ≤ i) : F.playErr S i fl = some 10 := if_pos h
theorem Fm.playErr_2 {F : Fm} {S : Mo} {i : Int} {fl : Bool} (h : ¬ (i < 0 ∨ F.vars ≤ i)) (h2 : S.f.testBit i.toNat = fl) : F.playErr S i fl = some 12 := by
  unfold Fm.playErr; rw [if_neg h, if_pos h2]
theorem Fm.playErr_3 {F : Fm} {S : Mo} {i : Int} {fl : Bool} (h : ¬ (i < 0 ∨ F.vars ≤ i)) (h2 : ¬ S.f.testBit i.toNat = fl) (h3 : S.log.length = 4096) : F.playErr S i fl = some 4 := by
  unfold Fm.playErr; rw [if_neg h, if_neg h2, if_pos h3]
theorem Fm.playErr_4 {F : Fm} {S : Mo} {i : Int} {fl : Bool} (h : ¬ (i < 0 ∨ F.vars ≤ i)) (h2 : ¬ S.f.testBit i.toNat = fl) (h3 : ¬ S.log.length = 4096) : F.playErr S i fl = none := by
  unfold Fm.playErr; rw [if_neg h, if_neg h2, if_neg h3]
theorem Fm.playErr_none {F : Fm} {S : Mo} {i : Int} {fl : Bool} (h : F.playErr S i fl = none) : (0 ≤ i ∧ i < F.vars) ∧ S.f.testBit i.toNat = !fl ∧ S.log.length ≠ 4096 := by
  unfold Fm.playErr at h
  by_cases h1 : i < 0 ∨ F.vars ≤ i
  · rw [if_pos h1] at h; cases h
  · rw [if_neg h1] at h
    by_cases h2 : S.f.testBit i.toNat = fl
    · rw [if_pos h2] at h; cases h
    · rw [if_neg h2] at h
      by_cases h3 : S.log.length = 4096
      · rw [if_pos h3] at h; cases h
      · exact ⟨by omega, by cases hb : S.f.testBit i.toNat <;> cases fl <;> simp_all, h3⟩
theorem Fm.play_err {F : Fm} {S : Mo} {i e : Int} {fl : Bool} (h : F.playErr S i fl = some e) : F.play S i fl = S := by unfold Fm.play; rw [h]
theorem Fm.play_ok {F : Fm} {S : Mo} {i : Int} {fl : Bool} (h : F.playErr S i fl = none) : F.play S i fl = ⟨S.flip i, S.log ++ [⟨i, fl, F.value (S.flip i : Nat)⟩]⟩ := by unfold Fm.play; rw [h]
abbrev Mo.push (S : Mo) (f : Nat) (p : Pl) : Mo := ⟨f, S.log ++ [p]⟩
theorem xor_bit_lt {s v i : Nat} (h : s < 2 ^ v) (hi : i < v) : s ^^^ 2 ^ i < 2 ^ v := Nat.xor_lt_two_pow h (Nat.pow_lt_pow_right (by decide) hi)
theorem MoOk.play {F : Fm} {S : Mo} (h : MoOk F S) (i : Int) (fl : Bool) : MoOk F (F.play S i fl) := by
  cases he : F.playErr S i fl with
  | some e => rw [Fm.play_err he]; exact h
  | none =>
    obtain ⟨h1, h2, h3⟩ := Fm.playErr_none he
    rw [Fm.play_ok he]
    refine ⟨xor_bit_lt h.lt (by omega), by have := h.len; simp; omega, ?_⟩
    intro p hp
    rcases List.mem_append.1 hp with hp | hp
    · exact h.ev p hp
    · simp at hp; subst hp; exact h1
def Mo.st (l : List Pl) : Mo := ⟨l.foldl (fun s p => s ^^^ 2 ^ p.ev.toNat) 0, l⟩
structure Hist (F : Fm) (l : List Pl) : Prop where
  ok : ∀ (k : Nat) (p : Pl), l[k]? = some p → F.playErr (Mo.st (l.take k)) p.ev p.fl = none ∧ p.top = F.value ((Mo.st (l.take k)).flip p.ev : Nat)
structure Reach (F : Fm) (S : Mo) : Prop where
  ok : MoOk F S
  st : S.f = (Mo.st S.log).f
  hist : Hist F S.log
def Fm.act (F : Fm) (S : Mo) (a : Int × Int) : Mo := if a.1.tmod 4 = 3 then S.undo else if a.1.tmod 4 = 2 then F.play S a.2 false else F.play S a.2 true
def Fm.acts (F : Fm) (l : List (Int × Int)) : Mo := l.foldl F.act ⟨0, []⟩
def Fm.decTo (F : Fm) (f set : Nat) : Nat → Nat
  | 0 => 0
  | k + 1 => bif set.testBit k && (F.value ((f ^^^ 2 ^ k : Nat) : Int) != F.value (f : Nat)) then F.decTo f set k ||| 2 ^ k else F.decTo f set k
def Fm.dec (F : Fm) (f set : Nat) : Nat := F.decTo f set F.vars.toNat
def Fm.work (F : Fm) (f : Nat) : Nat := 2 ^ F.vars.toNat - 1 - f
def Fm.crit (F : Fm) (f : Nat) : Nat := F.dec f (F.work f)
def Fm.heal (F : Fm) (f : Nat) : Nat := F.dec f f
end Go.GL
namespace Go.GL
set_option linter.unusedVariables false
set_option linter.unusedSimpArgs false
def bP : Option Nat → Nat
  | none => 0
  | some s => pp 24 s
def bI : Option Nat → Int
  | none => -1
  | some s => (s : Nat)
def Fm.cand (F : Fm) (f k : Nat) : Bool := decide (k &&& f = 0) && F.value ((k ||| f : Nat) : Int)
def Fm.nearTo (F : Fm) (f : Nat) : Nat → Option Nat
  | 0 => none
  | k + 1 => bif F.cand f k && ((F.nearTo f k).isNone || decide (pp 24 k < bP (F.nearTo f k))) then some k else F.nearTo f k
structure NearAt (F : Fm) (f k s : Nat) : Prop where
  lt : s < k
  cand : F.cand f s = true
  le : ∀ t, t < k → F.cand f t = true → pp 24 s < pp 24 t ∨ (pp 24 s = pp 24 t ∧ s ≤ t)
def Fm.near (F : Fm) (f : Nat) : Option Nat := F.nearTo f (2 ^ F.vars.toNat)
def Fm.nearErr (F : Fm) (f : Nat) : Option Int := if 12 < F.vars then some 4 else if (F.near f).isNone then some 17 else none
def Fm.nearSet (F : Fm) (f : Nat) : Nat := if 12 < F.vars then 0 else (F.near f).getD 0
def Fm.nextErr (F : Fm) (f : Nat) : Option Int := match F.nearErr f with | some e => some e | none => if F.nearSet f = 0 then some 12 else none
def exF55 : Fm := ⟨3, [⟨2, 0, [1, 2]⟩, ⟨3, 0, [0, 3]⟩], 4⟩
def exM1 : Mo := ⟨2, [⟨1, true, false⟩]⟩
def exM2 : Mo := ⟨6, [⟨1, true, false⟩, ⟨2, true, true⟩]⟩
def actCells (l : List (Int × Int)) : List Value := l.flatMap (fun a => [.int .u8 a.1, .int .i64 a.2])
end Go.GL
namespace Go.GL
set_option linter.unusedVariables false
set_option linter.unusedSimpArgs false
section
variable {P : Program} {n : Nat} {S : List (Nat × Value)} {H : List Ent} {A : Array Oper} {Q : Exit → Act → World → Prop}
end
structure OX (cs : List Value) where
  b2 : Nat
  a5 : OA cs
  c5 : Nat
  b9 : Nat
end Go.GL
namespace Go.GL
set_option linter.unusedVariables false
set_option linter.unusedSimpArgs false
theorem mem_append {L H : List Ent} {w : World} : Mem (L ++ H) w ↔ Mem L w ∧ Mem H w ∧ ∀ e ∈ L, ∀ e' ∈ H, ∀ k, e.foot k → ¬ e'.foot k := by
  induction L with
  | nil => simp [Mem]
  | cons x L ih =>
    simp only [List.cons_append, Mem, ih, List.mem_append, List.mem_cons]
    constructor
    · rintro ⟨h1, h2, h3, h4, h5, h6⟩
      exact ⟨⟨h1, h2, fun e he => h3 e (.inl he), h4⟩, h5, fun e he e' he' => by
        rcases he with rfl | he
        · exact h3 e' (.inr he')
        · exact h6 e he e' he'⟩
    · rintro ⟨⟨h1, h2, h3, h4⟩, h5, h6⟩
      exact ⟨h1, h2, fun e he => by
        rcases he with he | he
        · exact h3 e he
        · exact h6 x (.inl rfl) e he, h4, h5, fun e he => h6 e (.inr he)⟩
def bundle (L : List Ent) : Ent where
  foot := fun k => ∃ e ∈ L, e.foot k
  ok := fun w => Mem L w
  st := fun w w' h hk => hk.same fun e he => h.mono fun k hf => ⟨e, he, hf⟩
theorem Le.bundle {L H : List Ent} : Le (L ++ H) (bundle L :: H) := by
  intro w h
  obtain ⟨h1, h2, h3⟩ := mem_append.1 h
  exact Mem.cons h2 h1 (fun k ⟨e, he, hk⟩ => h1.lt e he k hk) (fun e' he' k ⟨e, he, hk⟩ => h3 e he e' he' k hk)
theorem Le.unbundle {L H : List Ent} : Le (GL.bundle L :: H) (L ++ H) := by
  intro w ⟨h1, h2, h3, h4⟩
  exact mem_append.2 ⟨h1, h4, fun e he e' he' k hk => h3 e' he' k ⟨e, he, hk⟩⟩
theorem bundle_sub {L H : List Ent} {e : Ent} (h : e ∈ L) : Le (GL.bundle L :: H) [e] := by
  refine Le.unbundle.trans (Le.sub ?_)
  exact (List.singleton_sublist.2 h).trans (List.sublist_append_left _ _)
def Into (L L' : List Ent) : Prop := ∀ H, Le (L ++ H) (L' ++ H)
section
variable {P : Program} {H : List Ent} {p : Prop}
theorem Gives.mono {f : FuncId} {args : List Value} {R R' : Value → List Ent → Prop} (h : Gives P f args H R) (hR : ∀ v H', R v H' → ∃ H'', R' v H'' ∧ Le H' H'') : Gives P f args H R' := fun w hM => by
  refine (h w hM).mono fun e w' h' => ?_
  obtain ⟨v, H', hr, rfl, hM'⟩ := h'
  obtain ⟨H'', hr'', hl⟩ := hR v H' hr
  exact ⟨v, H'', hr'', rfl, hl w' hM'⟩
end
end Go.GL
namespace Go.GL
set_option linter.unusedVariables false
set_option linter.unusedSimpArgs false
open Maps
def mapE (b : Nat) (es : List MapEntry) (c : Nat) : Ent where
  foot := fun k => k = b
  ok := fun w => w.heap[b]? = some (.map es.toArray c)
  st := fun _ _ h hk => (h.block b rfl).trans hk
theorem Mem.newMap {H : List Ent} {w : World} (hM : Mem H w) : Mem (mapE w.heap.size [] 0 :: H) (w.alloc (.map #[] 0)) := by
  refine Mem.cons (hM.same fun e he => ⟨rfl, rfl, rfl, by simp, fun k hk => ?_⟩) ?_ ?_ ?_
  · have := hM.lt e he k hk
    exact Go.RowKit.Below.heap_alloc w _ k this
  · exact heap_alloc_new w _
  · intro k hk
    cases hk
    simp
  · intro e he k hk hk'
    cases hk
    exact absurd (hM.lt e he _ hk') (by simp)
theorem turn_map {b : Nat} {o : Obj} {w : World} : Turn (fun k => k = b) w { w with heap := w.heap.setIfInBounds b o } :=
  ⟨rfl, rfl, rfl, by simp, fun k _ hk => by
    show (w.heap.setIfInBounds b o)[k]? = w.heap[k]?
    rw [Array.getElem?_setIfInBounds_ne (fun e => hk e.symm)]⟩
section
variable {κ ν : Type} [DecidableEq κ]
def zipE (kE : κ → Value) (vE : ν → Value) : List (κ × ν) → Nat → List MapEntry
  | [], _ => []
  | q :: r, c => ⟨kE q.1, vE q.2, c⟩ :: zipE kE vE r (c + 1)
def lookT (k : κ) : List (κ × ν) → Option ν
  | [] => none
  | q :: r => if q.1 = k then some q.2 else lookT k r
def putT (k : κ) (v : ν) : List (κ × ν) → List (κ × ν)
  | [] => [(k, v)]
  | q :: r => if q.1 = k then (k, v) :: r else q :: putT k v r
def Uniq (m : List (κ × ν)) : Prop := (m.map (·.1)).Nodup
theorem lookT_none {k : κ} : ∀ {m : List (κ × ν)}, lookT k m = none ↔ ∀ q ∈ m, q.1 ≠ k
  | [] => by simp [lookT]
  | q :: r => by
    unfold lookT
    split
    · rename_i h; simp [h]
    · rename_i h; simp [h, lookT_none (m := r)]
theorem lookT_some {k : κ} {v : ν} : ∀ {m : List (κ × ν)}, lookT k m = some v → (k, v) ∈ m
  | [], h => by simp [lookT] at h
  | q :: r, h => by
    unfold lookT at h
    split at h
    · rename_i e; subst e; cases h; simp
    · exact List.mem_cons_of_mem _ (lookT_some h)
theorem lookT_of_mem {k : κ} {v : ν} : ∀ {m : List (κ × ν)}, Uniq m → (k, v) ∈ m → lookT k m = some v
  | [], _, h => by cases h
  | q :: r, hu, h => by
    unfold lookT
    simp only [Uniq, List.map_cons, List.nodup_cons] at hu
    cases h with
    | head => simp
    | tail _ h =>
      rw [if_neg (fun e => hu.1 (by rw [e]; exact List.mem_map.2 ⟨_, h, rfl⟩))]
      exact lookT_of_mem hu.2 h
theorem mem_putT {k : κ} {v : ν} {q : κ × ν} : ∀ {m : List (κ × ν)}, q ∈ putT k v m → q = (k, v) ∨ q ∈ m
  | [], h => by simp [putT] at h; exact .inl h
  | p :: r, h => by
    unfold putT at h
    split at h
    · cases h with
      | head => exact .inl rfl
      | tail _ h => exact .inr (List.mem_cons_of_mem _ h)
    · cases h with
      | head => exact .inr (by simp)
      | tail _ h => exact (mem_putT h).imp id (List.mem_cons_of_mem _)
theorem putT_keys {k : κ} {v : ν} : ∀ {m : List (κ × ν)} {x : κ}, x ∈ (putT k v m).map (·.1) ↔ x = k ∨ x ∈ m.map (·.1)
  | [], x => by simp [putT]
  | p :: r, x => by
    unfold putT
    split
    · rename_i h
      simp only [List.map_cons, List.mem_cons, h]
      constructor
      · intro h; rcases h with h | h
        · exact .inl h
        · exact .inr (.inr h)
      · rintro (h | h | h)
        · exact .inl h
        · exact .inl h
        · exact .inr h
    · simp only [List.map_cons, List.mem_cons, putT_keys (m := r)]
      constructor
      · rintro (h | h | h)
        · exact .inr (.inl h)
        · exact .inl h
        · exact .inr (.inr h)
      · rintro (h | h | h)
        · exact .inr (.inl h)
        · exact .inl h
        · exact .inr (.inr h)
theorem putT_uniq {k : κ} {v : ν} : ∀ {m : List (κ × ν)}, Uniq m → Uniq (putT k v m)
  | [], _ => by simp [putT, Uniq]
  | p :: r, hu => by
    unfold putT
    simp only [Uniq, List.map_cons, List.nodup_cons] at hu
    split
    · rename_i h
      subst h
      simp only [Uniq, List.map_cons, List.nodup_cons]
      exact hu
    · rename_i h
      simp only [Uniq, List.map_cons, List.nodup_cons]
      refine ⟨fun hm => ?_, putT_uniq hu.2⟩
      rcases putT_keys.1 hm with h' | h'
      · exact h h'
      · exact hu.1 h'
theorem putT_length {k : κ} {v : ν} : ∀ {m : List (κ × ν)}, (putT k v m).length ≤ m.length + 1
  | [] => by simp [putT]
  | p :: r => by
    unfold putT
    split
    · simp
    · have := putT_length (k := k) (v := v) (m := r); simp; omega
theorem putT_mem {k : κ} {v : ν} : ∀ {m : List (κ × ν)}, (k, v) ∈ putT k v m
  | [] => by simp [putT]
  | p :: r => by
    unfold putT
    split
    · simp
    · exact List.mem_cons_of_mem _ putT_mem
theorem look_putT {k : κ} {v : ν} {m : List (κ × ν)} (hu : Uniq m) : lookT k (putT k v m) = some v := lookT_of_mem (putT_uniq hu) putT_mem
theorem putT_new {k : κ} {v : ν} : ∀ {m : List (κ × ν)}, lookT k m = none → putT k v m = m ++ [(k, v)]
  | [], _ => rfl
  | p :: r, h => by
    unfold lookT at h
    split at h
    · cases h
    · rename_i hp
      unfold putT
      rw [if_neg hp, putT_new h]
      rfl
end
section
variable {κ ν : Type}
variable {kE : κ → Value} {vE : ν → Value}
theorem zipE_length : ∀ {m : List (κ × ν)} {c : Nat}, (zipE kE vE m c).length = m.length
  | [], c => rfl
  | q :: r, c => by simp [zipE, zipE_length (m := r)]
theorem mem_zipE {e : MapEntry} : ∀ {m : List (κ × ν)} {c : Nat}, e ∈ zipE kE vE m c → ∃ q ∈ m, e.key = kE q.1 ∧ e.val = vE q.2
  | [], _, h => by cases h
  | q :: r, c, h => by
    cases h with
    | head => exact ⟨q, by simp, rfl, rfl⟩
    | tail _ h => obtain ⟨p, hp, h1⟩ := mem_zipE h; exact ⟨p, List.mem_cons_of_mem _ hp, h1⟩
theorem zipE_mem {q : κ × ν} : ∀ {m : List (κ × ν)} (c : Nat), q ∈ m → ∃ e ∈ zipE kE vE m c, e.key = kE q.1 ∧ e.val = vE q.2
  | [], _, h => by cases h
  | p :: r, c, h => by
    cases h with
    | head => exact ⟨_, List.mem_cons_self, rfl, rfl⟩
    | tail _ h => obtain ⟨e, he, h1⟩ := zipE_mem (c + 1) h; exact ⟨e, List.mem_cons_of_mem _ he, h1⟩
theorem zipE_push {k : κ} {v : ν} : ∀ {m : List (κ × ν)} {c : Nat}, zipE kE vE (m ++ [(k, v)]) c = zipE kE vE m c ++ [⟨kE k, vE v, c + m.length⟩]
  | [], c => rfl
  | q :: r, c => by
    rw [List.cons_append, zipE, zipE_push (m := r), zipE]
    simp
    omega
end
section
variable {κ ν : Type} [DecidableEq κ]
variable {kE : κ → Value} {vE : ν → Value}
theorem zipE_at {k : κ} (hinj : ∀ a b, kE a = kE b → a = b) {e : MapEntry} (he : e.key = kE k) : ∀ {m : List (κ × ν)} {c j : Nat}, Uniq m → (zipE kE vE m c)[j]? = some e →
    (∃ v', lookT k m = some v' ∧ e.val = vE v') ∧ ∀ v, (zipE kE vE m c).modify j (fun e' => { e' with key := kE k, val := vE v }) = zipE kE vE (putT k v m) c
  | [], c, j, _, h => by simp [zipE] at h
  | q :: r, c, 0, hu, h => by
    simp only [zipE, List.getElem?_cons_zero, Option.some.injEq] at h
    subst h
    have hk := hinj _ _ he
    refine ⟨⟨q.2, by simp [lookT, hk], rfl⟩, fun v => ?_⟩
    rw [zipE, List.modify_zero_cons, putT, if_pos hk]
    rfl
  | q :: r, c, j + 1, hu, h => by
    simp only [zipE, List.getElem?_cons_succ] at h
    simp only [Uniq, List.map_cons, List.nodup_cons] at hu
    obtain ⟨p, hp, h1, _⟩ := mem_zipE (List.mem_of_getElem? h)
    have hpk : p.1 = k := hinj _ _ (h1.symm.trans he)
    have hne : q.1 ≠ k := fun e => hu.1 (by rw [e, ← hpk]; exact List.mem_map_of_mem hp)
    obtain ⟨⟨v', h2, h3⟩, h4⟩ := zipE_at hinj he (c := c + 1) hu.2 h
    refine ⟨⟨v', by simp [lookT, hne, h2], h3⟩, fun v => ?_⟩
    rw [zipE, List.modify_succ_cons, h4, putT, if_neg hne]
    rfl
structure KeyT (P : Program) (K : TypeId) (kE : κ → Value) (ok : κ → Prop) : Prop where
  law : Keyed P K
  has : ∀ k, ok k → ∃ l, keyOf P K (kE k) = some l
  inj : ∀ a b, kE a = kE b → a = b
def tmap (kE : κ → Value) (vE : ν → Value) (b : Nat) (m : List (κ × ν)) : Ent := mapE b (zipE kE vE m 0) m.length
def KeysOk (ok : κ → Prop) (m : List (κ × ν)) : Prop := Uniq m ∧ ∀ q ∈ m, ok q.1
end
section
variable {κ ν : Type}
variable {P : Program} {n : Nat} {S : List (Nat × Value)} {H : List Ent} {A : Array Oper} {Q : Exit → Act → World → Prop}
theorem KeysOk.nil {ok : κ → Prop} : KeysOk (ν := ν) ok [] := ⟨List.nodup_nil, fun _ h => by cases h⟩
theorem TOps.makeT {d t U p e rest} (kE : κ → Value) (vE : ν → Value) (hn : Nat.blt d n = true) (h : ∀ b, TOps P n ((d, .map (some b)) :: S) (tmap kE vE b [] :: H) rest A Q) :
    TOps P n S H (⟨some d, .makeMap t none, U, p, e, none⟩ :: rest) A Q := by
  refine TOps.worldEx (R := fun u H' => ∃ b, u = .map (some b) ∧ H' = mapE b [] 0 :: H) rfl rfl hn (fun a w hS hM => ?_) (fun u H' hR => ?_)
  · exact ⟨.map (some w.heap.size), _, w.alloc (.map #[] 0), ⟨w.heap.size, rfl, rfl⟩, by simp [execOp, Instr.makeMap], hM.newMap⟩
  · obtain ⟨b, rfl, rfl⟩ := hR
    exact h b
end
section
variable {κ ν : Type} [DecidableEq κ]
variable {kE : κ → Value} {vE : ν → Value}
theorem KeysOk.put {ok : κ → Prop} {m : List (κ × ν)} (h : KeysOk ok m) {k : κ} (hk : ok k) (v : ν) : KeysOk ok (putT k v m) :=
  ⟨putT_uniq h.1, fun q hq => by
    rcases mem_putT hq with rfl | hq
    · exact hk
    · exact h.2 q hq⟩
variable {P : Program} {n : Nat} {S : List (Nat × Value)} {H : List Ent} {A : Array Oper} {Q : Exit → Act → World → Prop}
theorem tmap_find {K : TypeId} {ok : κ → Prop} (KT : KeyT P K kE ok) {m : List (κ × ν)} (hm : KeysOk ok m) {k : κ} (hk : ok k) (w : World) :
    ((Instr.findKey K (kE k) (zipE kE vE m 0)).run P w = .ok none w ∧ lookT k m = none) ∨
    ∃ j e v', (Instr.findKey K (kE k) (zipE kE vE m 0)).run P w = .ok (some (j, vE v')) w ∧ (zipE kE vE m 0)[j]? = some e ∧ e.key = kE k ∧ lookT k m = some v' ∧
      ∀ v, (zipE kE vE m 0).modify j (fun e' => { e' with key := kE k, val := vE v }) = zipE kE vE (putT k v m) 0 := by
  obtain ⟨l, hl⟩ := KT.has k hk
  rcases KT.law.find w hl (zipE kE vE m 0) (fun e he => by obtain ⟨q, hq, h1, _⟩ := mem_zipE he; rw [h1]; exact KT.has _ (hm.2 q hq)) with ⟨h1, h2⟩ | ⟨j, e, h1, h2, h3⟩
  · refine .inl ⟨h1, lookT_none.2 fun q hq e => ?_⟩
    obtain ⟨e', he', h3, _⟩ := zipE_mem (kE := kE) (vE := vE) 0 hq
    exact h2 e' he' (by rw [h3, e])
  · obtain ⟨⟨v', h4, h5⟩, h6⟩ := zipE_at KT.inj h3 hm.1 h2
    exact .inr ⟨j, e, v', by rw [h1, h5], h2, h3, h4, h6⟩
theorem TOps.lookT {d T x y U p e rest} {K E : TypeId} {b : Nat} {m : List (κ × ν)} {k : κ} {z : Value} {ok : κ → Prop} (KT : KeyT P K kE ok) (hx : opv S x = some (.map (some b))) (hy : opv S y = some (kE k))
    (ht : P.underlying T = some (.map K E)) (hz : ∀ w : World, (zeroValue E).run P w = .ok z w) (hm : tmap kE vE b m ∈ H) (ho : KeysOk ok m) (hk : ok k) (hn : Nat.blt d n = true)
    (h : TOps P n ((d, .tuple (List.toArray [((GL.lookT k m).map vE).getD z, .bool (GL.lookT k m).isSome])) :: S) H rest A Q) :
    TOps P n S H (⟨some d, .lookup T x y true, U, p, e, none⟩ :: rest) A Q :=
  TOps.pure rfl rfl hn (fun a w hS hM => by
    have hb : w.heap[b]? = some (.map (zipE kE vE m 0).toArray m.length) := hM.ok _ hm
    obtain ⟨l, hl⟩ := KT.has k hk
    rcases tmap_find (vE := vE) KT ho hk w with ⟨h1, h2⟩ | ⟨j, e0, v', h1, h2, h3, h4, _⟩
    · simp [execOp, hS.eval hx, hS.eval hy, Instr.lookup, run_underlying ht, MapKept.run_getObj_map hb, KT.law.check w _ hl, h1, h2, hz w, Result.andThen]
    · simp [execOp, hS.eval hx, hS.eval hy, Instr.lookup, run_underlying ht, MapKept.run_getObj_map hb, KT.law.check w _ hl, h1, h4, Result.andThen]) h
theorem TOps.lookT1 {d T x y U p e rest} {K E : TypeId} {b : Nat} {m : List (κ × ν)} {k : κ} {z : Value} {ok : κ → Prop} (KT : KeyT P K kE ok) (hx : opv S x = some (.map (some b))) (hy : opv S y = some (kE k))
    (ht : P.underlying T = some (.map K E)) (hz : ∀ w : World, (zeroValue E).run P w = .ok z w) (hm : tmap kE vE b m ∈ H) (ho : KeysOk ok m) (hk : ok k) (hn : Nat.blt d n = true)
    (h : TOps P n ((d, ((GL.lookT k m).map vE).getD z) :: S) H rest A Q) :
    TOps P n S H (⟨some d, .lookup T x y false, U, p, e, none⟩ :: rest) A Q :=
  TOps.pure rfl rfl hn (fun a w hS hM => by
    have hb : w.heap[b]? = some (.map (zipE kE vE m 0).toArray m.length) := hM.ok _ hm
    obtain ⟨l, hl⟩ := KT.has k hk
    rcases tmap_find (vE := vE) KT ho hk w with ⟨h1, h2⟩ | ⟨j, e0, v', h1, h2, h3, h4, _⟩
    · simp [execOp, hS.eval hx, hS.eval hy, Instr.lookup, run_underlying ht, MapKept.run_getObj_map hb, KT.law.check w _ hl, h1, h2, hz w, Result.andThen]
    · simp [execOp, hS.eval hx, hS.eval hy, Instr.lookup, run_underlying ht, MapKept.run_getObj_map hb, KT.law.check w _ hl, h1, h4, Result.andThen]) h
theorem tmap_put {T : TypeId} {K E : TypeId} {b : Nat} {m : List (κ × ν)} {k : κ} {v : ν} {H' : List Ent} {ok : κ → Prop} (KT : KeyT P K kE ok) (ht : P.underlying T = some (.map K E)) (hu : Upd H (tmap kE vE b m) (tmap kE vE b (putT k v m)) H') (ho : KeysOk ok m) (hk : ok k) {w : World} (hM : Mem H w) :
    ∃ w', (Instr.mapUpdate T (.map (some b)) (kE k) (vE v)).run P w = .ok () w' ∧ Mem H' w' := by
  have hb : w.heap[b]? = some (.map (zipE kE vE m 0).toArray m.length) := hM.ok _ hu.mem
  obtain ⟨l, hl⟩ := KT.has k hk
  refine ⟨{ w with heap := w.heap.setIfInBounds b (.map (zipE kE vE (putT k v m) 0).toArray (putT k v m).length) }, ?_, hu.sound hM turn_map (MapKept.heap_set hb).1 (fun k hk => .inl hk) (fun k hk => by simpa using hM.lt _ hu.mem k hk)⟩
  rcases tmap_find (vE := vE) KT ho hk w with ⟨h1, h2⟩ | ⟨j, e0, v', h1, h2, h3, h4, h5⟩
  · have hpush : (zipE kE vE m 0).toArray.push (⟨kE k, vE v, m.length⟩ : MapEntry) = (zipE kE vE (putT k v m) 0).toArray := by rw [putT_new h2, zipE_push]; simp
    simp [Instr.mapUpdate, run_underlying ht, MapKept.run_getObj_map hb, KT.law.check w _ hl, h1, MapKept.run_setObj_map _ hb, Result.andThen, hpush]
    rw [putT_new h2]; simp
  · have hmod := h5 v
    have hlen : (putT k v m).length = m.length := by rw [← zipE_length (kE := kE) (vE := vE) (m := putT k v m) (c := 0), ← hmod, List.length_modify, zipE_length]
    have hst := KT.law.stays w hl
    have hat : ((zipE kE vE m 0)[j]?.map (·.key)).getD (kE k) = kE k := by rw [h2]; exact h3
    simp only [Instr.mapUpdate, Sem.run_bind, run_underlying ht, Result.andThen_ok, MapKept.run_getObj_map hb, KT.law.check w _ hl, h1]
    rw [show ((zipE kE vE m 0).toArray[j]?.map (·.key)).getD (kE k) = kE k by simpa using hat]
    simp [hst, MapKept.run_setObj_map _ hb, Result.andThen, hlen, ← hmod]
theorem TOps.putT {T x y z U p e rest} {K E : TypeId} {b : Nat} {m : List (κ × ν)} {k : κ} {v : ν} {H' : List Ent} {ok : κ → Prop} (KT : KeyT P K kE ok) (hx : opv S x = some (.map (some b))) (hy : opv S y = some (kE k)) (hv : opv S z = some (vE v))
    (ht : P.underlying T = some (.map K E)) (hu : Upd H (tmap kE vE b m) (tmap kE vE b (GL.putT k v m)) H') (ho : KeysOk ok m) (hk : ok k)
    (h : TOps P n S H' rest A Q) : TOps P n S H (⟨none, .mapUpdate T x y z, U, p, e, none⟩ :: rest) A Q :=
  TOps.unit rfl rfl (fun a w hS hM => by
    obtain ⟨w', h1, h2⟩ := tmap_put KT ht hu ho hk hM
    exact ⟨w', by simp [execOp, hS.eval hx, hS.eval hy, hS.eval hv, h1, Result.andThen], h2⟩) h
theorem TOps.insT {T x y z U p e rest} {K E : TypeId} {b : Nat} {m : List (κ × ν)} {k : κ} {v : ν} {H' : List Ent} {ok : κ → Prop} (KT : KeyT P K kE ok) (hx : opv S x = some (.map (some b))) (hy : opv S y = some (kE k)) (hv : opv S z = some (vE v))
    (ht : P.underlying T = some (.map K E)) (hu : Upd H (tmap kE vE b m) (tmap kE vE b (GL.putT k v m)) H') (ho : KeysOk ok m) (hk : ok k)
    (h : TOps P n S H' rest A Q) : TOps P n S H (⟨none, .insert T x y z, U, p, e, none⟩ :: rest) A Q :=
  TOps.unit rfl rfl (fun a w hS hM => by
    obtain ⟨w', h1, h2⟩ := tmap_put KT ht hu ho hk hM
    exact ⟨w', by simp [execOp, hS.eval hx, hS.eval hy, hS.eval hv, h1, Result.andThen], h2⟩) h
end
section
variable {κ ν : Type}
variable {kE : κ → Value} {vE : ν → Value}
variable {P : Program} {n : Nat} {S : List (Nat × Value)} {H : List Ent} {A : Array Oper} {Q : Exit → Act → World → Prop}
theorem TOps.lenT {d x s U p e rest} {K E : TypeId} {b : Nat} {m : List (κ × ν)} (hx : opv S x = some (.map (some b))) (hs : P.underlying s = some (.map K E)) (hm : tmap kE vE b m ∈ H) (hn : Nat.blt d n = true)
    (h : TOps P n ((d, .int .i64 m.length) :: S) H rest A Q) : TOps P n S H (⟨some d, .call ⟨.builtin .len, #[x], #[s]⟩, U, p, e, none⟩ :: rest) A Q :=
  TOps.pure rfl rfl hn (fun a w hS hM => by
    have hb : w.heap[b]? = some (.map (zipE kE vE m 0).toArray m.length) := hM.ok _ hm
    simp [execOp, hS.eval hx, resolve, invoke, builtin, Builtin.len_, run_underlying hs, goInt, MapKept.run_getObj_map hb, zipE_length, Result.andThen]) h
end
theorem TOps.buildArr {P : Program} {n : Nat} {S : List (Nat × Value)} {H : List Ent} {A : Array Oper} {Q : Exit → Act → World → Prop} {d T U p e rest} {parts : List (Nat × Operand)} {vs zs zs' xs : List Value} {sz y m sz' y' : Nat} {E : TypeId} {g' : Bool} (hT : P.underlying T = some (.array m E)) (ht : TI P T true zs sz y) (hE : TI P E g' zs' sz' y')
    (hp : PartsAre S parts (numb 0 vs)) (hl : Nat.beq zs.length (vs.length * sz') = true) (hcells : (vs.all fun v => Nat.beq v.cells.toList.length sz') = true) (hxs : vs.flatMap (fun v => v.cells.toList) = xs) (hn : Nat.blt d n = true)
    (h : TOps P n ((d, .agg xs.toArray) :: S) H rest A Q) : TOps P n S H (⟨some d, .build T parts.toArray, U, p, e, none⟩ :: rest) A Q :=
  TOps.pure rfl rfl hn (fun ac w hS _ => by
    obtain ⟨i, z, h1, h2, h3, h4, h5⟩ := ht.i
    have hfill := fill_seq sz' vs 0 [] zs (fun v hv => by simpa using List.all_eq_true.1 hcells v hv) (by simp) (Nat.eq_of_beq_eq_true hl)
    simp only [List.nil_append, hxs] at hfill
    have he := hp.eval hS
    have hq : (Array.map (fun x : Nat × Operand => (x.1, ac.eval x.2)) parts.toArray).toList = numb 0 vs := by simpa using he
    simp only [execOp, Instr.build, Sem.run_bind, zeroValue, typeInfo, run_program, Result.andThen_ok, h1, h2, Sem.run_pure, run_underlying hT, h3, hE.size]
    rw [hq, hfill]
    rfl) h
end Go.GL
namespace Go.GL
set_option linter.unusedVariables false
set_option linter.unusedSimpArgs false
structure DN where
  v : Nat
  lo : Nat
  hi : Nat
deriving DecidableEq
instance : Inhabited DN := ⟨⟨0, 0, 0⟩⟩
structure OP (n : Nat) (ord pl : List Nat) : Prop where
  lo : ord.length = n
  lp : pl.length = n
  op : ∀ k, k < n → ord.getD k 0 < n ∧ pl.getD (ord.getD k 0) 0 = k
  po : ∀ i, i < n → pl.getD i 0 < n ∧ ord.getD (pl.getD i 0) 0 = i
def lvl (n : Nat) (pl : List Nat) (ns : List DN) (r : Nat) : Nat := if r < 2 then n else pl.getD (ns.getD (r - 2) default).v 0
def dstep (s : Nat → Bool) (l : List Bool) (d : DN) : Bool := bif s d.v then l.getD d.hi false else l.getD d.lo false
def dvals (s : Nat → Bool) : List Bool → List DN → List Bool
  | l, [] => l
  | l, d :: r => dvals s (l ++ [dstep s l d]) r
def dval (ns : List DN) (s : Nat → Bool) (r : Nat) : Bool := (dvals s [false, true] ns).getD r false
theorem dvals_append (s : Nat → Bool) (l1 l2 : List DN) : ∀ l, dvals s l (l1 ++ l2) = dvals s (dvals s l l1) l2 := by
  induction l1 with
  | nil => intro l; rfl
  | cons d r ih => intro l; exact ih _
theorem dvals_length (s : Nat → Bool) (ns : List DN) : ∀ l, (dvals s l ns).length = l.length + ns.length := by
  induction ns with
  | nil => intro l; rfl
  | cons d r ih => intro l; simp [dvals, ih]; omega
theorem dvals_lt (s : Nat → Bool) (ns : List DN) : ∀ (l : List Bool) (j : Nat), j < l.length → (dvals s l ns).getD j false = l.getD j false := by
  induction ns with
  | nil => intro l j _; rfl
  | cons d r ih =>
    intro l j hj
    rw [dvals, ih _ j (by simp; omega)]
    simp [List.getD_eq_getElem?_getD, List.getElem?_append_left hj]
theorem dval_ext (ns l : List DN) (s : Nat → Bool) {r : Nat} (h : r < 2 + ns.length) : dval (ns ++ l) s r = dval ns s r := by
  unfold dval
  rw [dvals_append, dvals_lt _ _ _ _ (by rw [dvals_length]; simpa using h)]
theorem dval_zero (ns : List DN) (s : Nat → Bool) : dval ns s 0 = false := by
  have := dval_ext [] ns s (r := 0) (by simp)
  simpa [dval, dvals] using this
theorem dval_one (ns : List DN) (s : Nat → Bool) : dval ns s 1 = true := by
  have := dval_ext [] ns s (r := 1) (by simp)
  simpa [dval, dvals] using this
theorem dval_snoc (ns : List DN) (d : DN) (s : Nat → Bool) : dval (ns ++ [d]) s (2 + ns.length) = bif s d.v then dval ns s d.hi else dval ns s d.lo := by
  unfold dval
  rw [dvals_append]
  show ((dvals s [false, true] ns) ++ [dstep s (dvals s [false, true] ns) d]).getD (2 + ns.length) false = _
  have hl := dvals_length s ns [false, true]
  have : 2 + ns.length = (dvals s [false, true] ns).length := by simpa using hl.symm
  rw [this]
  simp [dstep]
theorem dval_node (ns : List DN) (s : Nat → Bool) {i : Nat} (hi : i < ns.length) (h1 : ns[i].lo < 2 + i) (h2 : ns[i].hi < 2 + i) :
    dval ns s (2 + i) = bif s ns[i].v then dval ns s ns[i].hi else dval ns s ns[i].lo := by
  have hs : ns = (ns.take i ++ [ns[i]]) ++ ns.drop (i + 1) := by simp
  have hl : (ns.take i).length = i := by simp; omega
  have e1 : ∀ r, r < 2 + i → dval ns s r = dval (ns.take i) s r := fun r hr => by
    conv => lhs; rw [hs, List.append_assoc]
    exact dval_ext _ _ _ (by rw [hl]; exact hr)
  have e2 : dval ns s (2 + i) = dval (ns.take i ++ [ns[i]]) s (2 + i) := by
    conv => lhs; rw [hs]
    exact dval_ext _ _ _ (by rw [List.length_append, hl]; simp)
  have e3 := dval_snoc (ns.take i) ns[i] s
  rw [hl] at e3
  rw [e2, e3, e1 _ h1, e1 _ h2]
theorem lvl_ext (n : Nat) (pl : List Nat) (ns l : List DN) {r : Nat} (h : r < 2 + ns.length) : lvl n pl (ns ++ l) r = lvl n pl ns r := by
  unfold lvl
  split
  · rfl
  · have e : (ns ++ l).getD (r - 2) default = ns.getD (r - 2) default := by
      rw [List.getD_eq_getElem?_getD, List.getElem?_append_left (by omega), ← List.getD_eq_getElem?_getD]
    rw [e]
theorem lvl_node (n : Nat) (pl : List Nat) (ns : List DN) {i : Nat} (h : i < ns.length) : lvl n pl ns (2 + i) = pl.getD ns[i].v 0 := by
  unfold lvl
  rw [if_neg (by omega), show 2 + i - 2 = i by omega]
  simp [h]
theorem lvl_const (n : Nat) (pl : List Nat) (ns : List DN) {r : Nat} (h : r < 2) : lvl n pl ns r = n := if_pos h
structure DgN (n : Nat) (pl : List Nat) (ns : List DN) (i : Nat) (d : DN) : Prop where
  v : d.v < n
  lo : d.lo < 2 + i
  hi : d.hi < 2 + i
  llo : pl.getD d.v 0 < lvl n pl ns d.lo
  lhi : pl.getD d.v 0 < lvl n pl ns d.hi
def DgOk (n : Nat) (pl : List Nat) (ns : List DN) : Prop := ∀ i (h : i < ns.length), DgN n pl ns i ns[i]
structure DOk (n : Nat) (pl : List Nat) (ns : List DN) : Prop where
  dg : DgOk n pl ns
  nd : ns.Nodup
  ne : ∀ i (h : i < ns.length), ns[i].lo ≠ ns[i].hi
theorem DgOk.nil (n : Nat) (pl : List Nat) : DgOk n pl [] := fun i h => by simp at h
theorem DOk.nil (n : Nat) (pl : List Nat) : DOk n pl [] := ⟨DgOk.nil n pl, List.nodup_nil, fun i h => by simp at h⟩
theorem DgOk.snoc {n : Nat} {pl : List Nat} {ns : List DN} (h : DgOk n pl ns) {d : DN} (hd : DgN n pl ns ns.length d) : DgOk n pl (ns ++ [d]) := by
  intro i hi
  simp only [List.length_append, List.length_singleton] at hi
  by_cases e : i < ns.length
  · have := h i e
    rw [List.getElem_append_left e]
    have a := this.lo; have b := this.hi
    exact ⟨this.v, a, b, by rw [lvl_ext _ _ _ _ (by omega)]; exact this.llo, by rw [lvl_ext _ _ _ _ (by omega)]; exact this.lhi⟩
  · obtain rfl : i = ns.length := by omega
    have a := hd.lo; have b := hd.hi
    simp only [List.getElem_append_right (Nat.le_refl _), Nat.sub_self, List.getElem_cons_zero]
    exact ⟨hd.v, a, b, by rw [lvl_ext _ _ _ _ a]; exact hd.llo, by rw [lvl_ext _ _ _ _ b]; exact hd.lhi⟩
theorem DOk.snoc {n : Nat} {pl : List Nat} {ns : List DN} (h : DOk n pl ns) {d : DN} (hd : DgN n pl ns ns.length d) (hne : d.lo ≠ d.hi) (hnew : d ∉ ns) : DOk n pl (ns ++ [d]) := by
  refine ⟨h.dg.snoc hd, ?_, ?_⟩
  · rw [List.nodup_append]
    exact ⟨h.nd, by simp, fun a ha b hb => by simp at hb; subst hb; exact fun e => hnew (e ▸ ha)⟩
  · intro i hi
    simp only [List.length_append, List.length_singleton] at hi
    by_cases e : i < ns.length
    · rw [List.getElem_append_left e]; exact h.ne i e
    · obtain rfl : i = ns.length := by omega
      simpa using hne
theorem lvl_le {n : Nat} {ord pl : List Nat} (ho : OP n ord pl) {ns : List DN} (h : DgOk n pl ns) {r : Nat} (hr : r < 2 + ns.length) : lvl n pl ns r ≤ n := by
  by_cases e : r < 2
  · rw [lvl_const _ _ _ e]; exact Nat.le_refl _
  · obtain ⟨i, rfl⟩ : ∃ i, r = 2 + i := ⟨r - 2, by omega⟩
    rw [lvl_node _ _ _ (by omega)]
    exact Nat.le_of_lt (ho.po _ (h i (by omega)).v).1
theorem lvl_lt {n : Nat} {ord pl : List Nat} (ho : OP n ord pl) {ns : List DN} (h : DgOk n pl ns) {r : Nat} (hr : r < 2 + ns.length) (h2 : 2 ≤ r) : lvl n pl ns r < n := by
  obtain ⟨i, rfl⟩ : ∃ i, r = 2 + i := ⟨r - 2, by omega⟩
  rw [lvl_node _ _ _ (by omega)]
  exact (ho.po _ (h i (by omega)).v).1
theorem dval_agree {n : Nat} {ord pl : List Nat} (ho : OP n ord pl) {ns : List DN} (h : DgOk n pl ns) : ∀ (r : Nat), r < 2 + ns.length → ∀ s s' : Nat → Bool, (∀ v, v < n → lvl n pl ns r ≤ pl.getD v 0 → s v = s' v) → dval ns s r = dval ns s' r := by
  intro r
  induction r using Nat.strongRecOn with
  | _ r ih =>
    intro hr s s' hs
    by_cases e : r < 2
    · obtain rfl | rfl : r = 0 ∨ r = 1 := by omega
      · rw [dval_zero, dval_zero]
      · rw [dval_one, dval_one]
    · obtain ⟨i, rfl⟩ : ∃ i, r = 2 + i := ⟨r - 2, by omega⟩
      have hi : i < ns.length := by omega
      have d := h i hi
      have a := d.lo; have b := d.hi; have la := d.llo; have lb := d.lhi
      rw [lvl_node _ _ _ hi] at hs
      rw [dval_node _ _ hi a b, dval_node _ _ hi a b, hs _ d.v (Nat.le_refl _),
        ih _ (by omega) (by omega) s s' (fun v hv hl => hs v hv (by omega)), ih _ (by omega) (by omega) s s' (fun v hv hl => hs v hv (by omega))]
def upS (s : Nat → Bool) (v : Nat) (b : Bool) : Nat → Bool := fun i => if i = v then b else s i
theorem upS_same {s : Nat → Bool} {v : Nat} {b : Bool} : upS s v b v = b := if_pos rfl
theorem upS_ne {s : Nat → Bool} {v i : Nat} {b : Bool} (h : i ≠ v) : upS s v b i = s i := if_neg h
theorem OP.inj {n : Nat} {ord pl : List Nat} (ho : OP n ord pl) {v w : Nat} (hv : v < n) (hw : w < n) (h : pl.getD v 0 = pl.getD w 0) : v = w := by
  have a := (ho.po v hv).2; have b := (ho.po w hw).2
  rw [h] at a
  exact a.symm.trans b
theorem dval_up {n : Nat} {ord pl : List Nat} (ho : OP n ord pl) {ns : List DN} (h : DgOk n pl ns) {r v : Nat} (hr : r < 2 + ns.length) (hv : v < n) (hl : pl.getD v 0 < lvl n pl ns r) (s : Nat → Bool) (b : Bool) : dval ns (upS s v b) r = dval ns s r :=
  dval_agree ho h r hr _ _ fun w hw hlw => upS_ne (fun e => by subst e; omega)
theorem canon {n : Nat} {ord pl : List Nat} (ho : OP n ord pl) {ns : List DN} (h : DOk n pl ns) : ∀ (k r r' : Nat), r < 2 + ns.length → r' < 2 + ns.length → n - lvl n pl ns r ≤ k → n - lvl n pl ns r' ≤ k → (∀ s, dval ns s r = dval ns s r') → r = r' := by
  intro k
  induction k with
  | zero =>
    intro r r' hr hr' h1 h2 he
    have e1 : r < 2 := Nat.lt_of_not_le fun h2' => by have := lvl_lt ho h.dg hr h2'; omega
    have e2 : r' < 2 := Nat.lt_of_not_le fun h2' => by have := lvl_lt ho h.dg hr' h2'; omega
    have := he (fun _ => false)
    obtain rfl | rfl : r = 0 ∨ r = 1 := by omega
    · obtain rfl | rfl : r' = 0 ∨ r' = 1 := by omega
      · rfl
      · rw [dval_zero, dval_one] at this; cases this
    · obtain rfl | rfl : r' = 0 ∨ r' = 1 := by omega
      · rw [dval_zero, dval_one] at this; cases this
      · rfl
  | succ k ih =>
    have one : ∀ r r' : Nat, r < 2 + ns.length → r' < 2 + ns.length → n - lvl n pl ns r ≤ k + 1 → 2 ≤ r → lvl n pl ns r < lvl n pl ns r' → (∀ s, dval ns s r = dval ns s r') → False := by
      intro r r' hr hr' h1 h2 hlt he
      obtain ⟨i, rfl⟩ : ∃ i, r = 2 + i := ⟨r - 2, by omega⟩
      have hi : i < ns.length := by omega
      have d := h.dg i hi
      have a := d.lo; have b := d.hi; have la := d.llo; have lb := d.lhi
      rw [lvl_node _ _ _ hi] at h1 hlt
      refine h.ne i hi (ih _ _ (by omega) (by omega) (by omega) (by omega) fun s => ?_)
      have e0 := he (upS s ns[i].v false)
      have e1 := he (upS s ns[i].v true)
      rw [dval_node _ _ hi a b, upS_same, cond_false, dval_up ho h.dg (by omega) d.v la, dval_up ho h.dg hr' d.v hlt] at e0
      rw [dval_node _ _ hi a b, upS_same, cond_true, dval_up ho h.dg (by omega) d.v lb, dval_up ho h.dg hr' d.v hlt] at e1
      rw [e0, e1]
    intro r r' hr hr' h1 h2 he
    rcases Nat.lt_trichotomy (lvl n pl ns r) (lvl n pl ns r') with hlt | heq | hgt
    · have h2r : 2 ≤ r := Nat.le_of_not_lt fun e => by rw [lvl_const _ _ _ e] at hlt; have := lvl_le ho h.dg hr'; omega
      exact (one r r' hr hr' h1 h2r hlt he).elim
    · by_cases e : r < 2
      · have e' : r' < 2 := Nat.lt_of_not_le fun h2' => by have := lvl_lt ho h.dg hr' h2'; rw [lvl_const _ _ _ e] at heq; omega
        have := he (fun _ => false)
        obtain rfl | rfl : r = 0 ∨ r = 1 := by omega
        · obtain rfl | rfl : r' = 0 ∨ r' = 1 := by omega
          · rfl
          · rw [dval_zero, dval_one] at this; cases this
        · obtain rfl | rfl : r' = 0 ∨ r' = 1 := by omega
          · rw [dval_zero, dval_one] at this; cases this
          · rfl
      · have e' : 2 ≤ r' := Nat.le_of_not_lt fun e' => by have := lvl_lt ho h.dg hr (by omega); rw [lvl_const _ _ _ e'] at heq; omega
        obtain ⟨i, rfl⟩ : ∃ i, r = 2 + i := ⟨r - 2, by omega⟩
        obtain ⟨j, rfl⟩ : ∃ i, r' = 2 + i := ⟨r' - 2, by omega⟩
        have hi : i < ns.length := by omega
        have hj : j < ns.length := by omega
        have d := h.dg i hi; have d' := h.dg j hj
        have a := d.lo; have b := d.hi; have la := d.llo; have lb := d.lhi
        have a' := d'.lo; have b' := d'.hi; have la' := d'.llo; have lb' := d'.lhi
        rw [lvl_node _ _ _ hi] at h1 heq
        rw [lvl_node _ _ _ hj] at h2 heq
        have hv : ns[i].v = ns[j].v := ho.inj d.v d'.v heq
        have elo : ns[i].lo = ns[j].lo := ih _ _ (by omega) (by omega) (by omega) (by omega) fun s => by
          have e0 := he (upS s ns[i].v false)
          rw [dval_node _ _ hi a b, upS_same, cond_false, dval_up ho h.dg (by omega) d.v la, hv, dval_node _ _ hj a' b', upS_same, cond_false, dval_up ho h.dg (by omega) d'.v la'] at e0
          exact e0
        have ehi : ns[i].hi = ns[j].hi := ih _ _ (by omega) (by omega) (by omega) (by omega) fun s => by
          have e0 := he (upS s ns[i].v true)
          rw [dval_node _ _ hi a b, upS_same, cond_true, dval_up ho h.dg (by omega) d.v lb, hv, dval_node _ _ hj a' b', upS_same, cond_true, dval_up ho h.dg (by omega) d'.v lb'] at e0
          exact e0
        have : ns[i] = ns[j] := by
          cases hx : ns[i]; cases hy : ns[j]
          rw [hx] at hv elo ehi; rw [hy] at hv elo ehi
          simp only at hv elo ehi
          rw [hv, elo, ehi]
        rcases Nat.lt_trichotomy i j with hij | rfl | hij
        · exact absurd this (List.pairwise_iff_getElem.1 h.nd i j hi hj hij)
        · rfl
        · exact absurd this.symm (List.pairwise_iff_getElem.1 h.nd j i hj hi hij)
    · have h2r : 2 ≤ r' := Nat.le_of_not_lt fun e => by rw [lvl_const _ _ _ e] at hgt; have := lvl_le ho h.dg hr; omega
      exact (one r' r hr' hr h2 h2r hgt (fun s => (he s).symm)).elim
theorem canon' {n : Nat} {ord pl : List Nat} (ho : OP n ord pl) {ns : List DN} (h : DOk n pl ns) {r r' : Nat} (hr : r < 2 + ns.length) (hr' : r' < 2 + ns.length) (he : ∀ s, dval ns s r = dval ns s r') : r = r' :=
  canon ho h n r r' hr hr' (by omega) (by omega) he
end Go.GL
namespace Go.GL
set_option linter.unusedVariables false
set_option linter.unusedSimpArgs false
open Maps
abbrev natV (k : Nat) : Value := .int .i64 (k : Int)
abbrev triV (q : Nat × Nat × Nat) : Value := .agg (List.toArray [natV q.1, natV q.2.1, natV q.2.2])
abbrev dnV (d : DN) : Value := .agg (List.toArray [natV d.v, natV d.lo, natV d.hi])
def ok63 (k : Nat) : Prop := k < 9223372036854775808
theorem ok63.wf {k : Nat} (h : ok63 k) : (Lit.int .i64 (k : Int)).wf = true := by
  unfold ok63 at h
  simp [Lit.wf]
  show -9223372036854775808 ≤ (k : Int) ∧ (k : Int) ≤ 9223372036854775807
  omega
theorem natV_inj {a b : Nat} (h : natV a = natV b) : a = b := by
  simp only [natV, Value.int.injEq, true_and] at h
  omega
def okTri (q : Nat × Nat × Nat) : Prop := ok63 q.1 ∧ ok63 q.2.1 ∧ ok63 q.2.2
def okDn (d : DN) : Prop := ok63 d.v ∧ ok63 d.lo ∧ ok63 d.hi
theorem KeyT.nat {P : Program} {K : TypeId} (hk : P.underlying K = some (.int .i64)) : KeyT P K natV ok63 where
  law := int_keyed hk
  has k h := by
    have := h.wf
    exact ⟨_, by simp [keyOf, mapKey, hk, this]; rfl⟩
  inj a b h := natV_inj h
theorem KeyT.tri {P : Program} {K E : TypeId} (hl : laidOutB P = true) (hu : P.underlying K = some (.array 3 E)) (he : P.underlying E = some (.int .i64)) (hk : P.keyType K = true) (hrow : K < P.types.size) (hm : P.types.size + 1 + 1 ≤ 10000) (hc : P.cellsOf K = 3) (hce : P.cellsOf E = 1) : KeyT P K triV okTri where
  law := Keyed.of_law (deep_law_laid hl hm hrow hk (by rw [hu]))
  has q hq := by
    unfold keyOf
    rw [hu]
    have hf : Value.formed P K (triV q) = true := by simp [Value.formed, hu, hc]
    simp only [hk, hf, Bool.and_self, if_true]
    have hlit : P.keyLits (P.types.size + 1) K (triV q).cells.toList = some [.int .i64 q.1, .int .i64 q.2.1, .int .i64 q.2.2] := by
      obtain ⟨m, hsz⟩ : ∃ m, P.types.size = m + 1 := ⟨P.types.size - 1, by have : 0 < P.types.size := Nat.lt_of_le_of_lt (Nat.zero_le _) hrow; omega⟩
      rw [hsz]
      have w1 := hq.1.wf; have w2 := hq.2.1.wf; have w3 := hq.2.2.wf
      simp [Program.keyLits, hu, he, hc, hce, Value.cells, List.range_succ, w1, w2, w3]
    rw [hlit]
    exact ⟨_, rfl⟩
  inj a b h := by
    obtain ⟨a1, a2, a3⟩ := a; obtain ⟨b1, b2, b3⟩ := b
    simp [triV] at h
    obtain ⟨h1, h2, h3⟩ := h
    rw [show a1 = b1 by omega, show a2 = b2 by omega, show a3 = b3 by omega]
theorem KeyT.dn {P : Program} {K E : TypeId} {g0 g1 g2 : Field} (hl : laidOutB P = true) (hu : P.underlying K = some (.struct #[g0, g1, g2])) (t0 : g0.type = E) (t1 : g1.type = E) (t2 : g2.type = E) (o0 : g0.offset = 0) (o1 : g1.offset = 1) (o2 : g2.offset = 2)
    (hn : (#[g0, g1, g2]).all (·.name != "_") = true) (he : P.underlying E = some (.int .i64)) (hk : P.keyType K = true) (hrow : K < P.types.size) (hm : P.types.size + 1 + 1 ≤ 10000) (hc : P.cellsOf K = 3) (hce : P.cellsOf E = 1) : KeyT P K dnV okDn where
  law := Keyed.of_law (deep_law_laid hl hm hrow hk (by rw [hu]))
  has q hq := by
    unfold keyOf
    rw [hu]
    have hf : Value.formed P K (dnV q) = true := by simp [Value.formed, hu, hc]
    simp only [hk, hf, Bool.and_self, if_true]
    have hlit : P.keyLits (P.types.size + 1) K (dnV q).cells.toList = some [.int .i64 q.v, .int .i64 q.lo, .int .i64 q.hi] := by
      obtain ⟨m, hsz⟩ : ∃ m, P.types.size = m + 1 := ⟨P.types.size - 1, by have : 0 < P.types.size := Nat.lt_of_le_of_lt (Nat.zero_le _) hrow; omega⟩
      rw [hsz]
      have w1 := hq.1.wf; have w2 := hq.2.1.wf; have w3 := hq.2.2.wf
      unfold Program.keyLits
      simp only [hu, hn, and_true]
      rw [if_pos (by rw [hc]; rfl)]
      simp [Program.keyLits, t0, t1, t2, o0, o1, o2, he, hc, hce, Value.cells, w1, w2, w3]
    rw [hlit]
    exact ⟨_, rfl⟩
  inj a b h := by
    cases a; cases b
    simp [dnV] at h
    obtain ⟨h1, h2, h3⟩ := h
    simp only [DN.mk.injEq]
    exact ⟨by omega, by omega, by omega⟩
def uniqT : List DN → Nat → List (DN × Nat)
  | [], _ => []
  | d :: r, c => (d, 2 + c) :: uniqT r (c + 1)
theorem uniqT_keys : ∀ (ns : List DN) (c : Nat), (uniqT ns c).map (·.1) = ns
  | [], _ => rfl
  | d :: r, c => by simp [uniqT, uniqT_keys r]
theorem uniqT_snoc (d : DN) : ∀ (ns : List DN) (c : Nat), uniqT (ns ++ [d]) c = uniqT ns c ++ [(d, 2 + (c + ns.length))]
  | [], c => rfl
  | e :: r, c => by simp [uniqT, uniqT_snoc d r]; omega
theorem uniqT_look {d : DN} : ∀ {ns : List DN} {c x : Nat}, lookT d (uniqT ns c) = some x → ∃ i, ∃ h : i < ns.length, ns[i] = d ∧ x = 2 + (c + i)
  | [], c, x, h => by simp [uniqT, lookT] at h
  | e :: r, c, x, h => by
    unfold uniqT lookT at h
    split at h
    · rename_i he; cases h; exact ⟨0, by simp, he, by simp⟩
    · obtain ⟨i, hi, h1, h2⟩ := uniqT_look h
      exact ⟨i + 1, by simp; omega, by simpa using h1, by omega⟩
theorem uniqT_none {d : DN} {ns : List DN} {c : Nat} (h : lookT d (uniqT ns c) = none) : d ∉ ns := by
  intro hd
  rw [← uniqT_keys ns c] at hd
  obtain ⟨q, hq, e⟩ := List.mem_map.1 hd
  exact lookT_none.1 h q hq e
def dnCells (d : DN) : List Value := [natV d.v, natV d.lo, natV d.hi]
def dnsV (ns : List DN) : List Value := ns.flatMap dnCells
theorem dnsV_length (ns : List DN) : (dnsV ns).length = ns.length * 3 := by
  induction ns with
  | nil => rfl
  | cons d r ih => simp only [dnsV, List.flatMap_cons, List.length_append] at ih ⊢; rw [ih]; simp [dnCells]; omega
theorem dnsV_append (l m : List DN) : dnsV (l ++ m) = dnsV l ++ dnsV m := by simp [dnsV]
theorem dnsV_get {ns : List DN} : ∀ {i : Nat} (hi : i < ns.length), ∀ j v, (dnCells ns[i])[j]? = some v → (dnsV ns)[i * 3 + j]? = some v := by
  induction ns with
  | nil => intro i hi; simp at hi
  | cons d r ih =>
    intro i hi j v hj
    have hj3 : j < 3 := by have := (List.getElem?_eq_some_iff.1 hj).1; simpa [dnCells] using this
    cases i with
    | zero =>
      simp only [Nat.zero_mul, Nat.zero_add]
      show (dnCells d ++ dnsV r)[j]? = some v
      rw [List.getElem?_append_left (by simpa [dnCells] using hj3)]
      exact hj
    | succ i =>
      show (dnCells d ++ dnsV r)[(i + 1) * 3 + j]? = some v
      rw [List.getElem?_append_right (by simp [dnCells]; omega)]
      rw [show (i + 1) * 3 + j - (dnCells d).length = i * 3 + j by simp [dnCells]; omega]
      exact ih (by simpa using hi) j v hj
structure TS where
  n : Nat
  ord : List Nat
  pl : List Nat
  tT : TypeId
  tN : TypeId
  tI : TypeId
  bt : Nat
  bu : Nat
  bm : Nat
  pa : Nat
  oa : Option Nat
  oc : Nat
structure Tb where
  ns : List DN
  me : List ((Nat × Nat × Nat) × Nat)
  na : Option Nat
  nc : Nat
abbrev Tb.new : Tb := ⟨[], [], none, 0⟩
structure TSOk (D : TS) : Prop where
  op : OP D.n D.ord D.pl
  n24 : D.n ≤ 24
  oa : D.ord ≠ [] → ∃ b, D.oa = some b
def TS.lv (D : TS) (t : Tb) (r : Nat) : Nat := lvl D.n D.pl t.ns r
abbrev Tb.val (t : Tb) (s : Nat → Bool) (r : Nat) : Bool := dval t.ns s r
abbrev Tb.sz (t : Tb) : Nat := t.ns.length
structure MemoOk (D : TS) (t : Tb) (q : (Nat × Nat × Nat) × Nat) : Prop where
  c : q.1.1 < 2 + t.sz
  a : q.1.2.1 < 2 + t.sz
  b : q.1.2.2 < 2 + t.sz
  r : q.2 < 2 + t.sz
  val : ∀ s, t.val s q.2 = bif t.val s q.1.1 then t.val s q.1.2.1 else t.val s q.1.2.2
  lev : min (min (D.lv t q.1.1) (D.lv t q.1.2.1)) (D.lv t q.1.2.2) ≤ D.lv t q.2
structure TbOk (D : TS) (t : Tb) : Prop where
  dok : DOk D.n D.pl t.ns
  len : t.sz ≤ 1099511627776
  na : t.ns ≠ [] → ∃ b, t.na = some b
  mu : Uniq t.me
  mem : ∀ q ∈ t.me, MemoOk D t q
def Tb.Ext (t t' : Tb) : Prop := ∃ l, t'.ns = t.ns ++ l
theorem Tb.Ext.refl (t : Tb) : Tb.Ext t t := ⟨[], by simp⟩
theorem Tb.Ext.trans {a b c : Tb} (h : Tb.Ext a b) (k : Tb.Ext b c) : Tb.Ext a c := by
  obtain ⟨l, h⟩ := h; obtain ⟨m, k⟩ := k
  exact ⟨l ++ m, by rw [k, h, List.append_assoc]⟩
theorem Tb.Ext.sz {t t' : Tb} (h : Tb.Ext t t') : t.sz ≤ t'.sz := by obtain ⟨l, h⟩ := h; unfold Tb.sz; rw [h]; simp
theorem Tb.Ext.val {t t' : Tb} (h : Tb.Ext t t') {r : Nat} (hr : r < 2 + t.sz) (s : Nat → Bool) : t'.val s r = t.val s r := by
  obtain ⟨l, h⟩ := h; unfold Tb.val; rw [h]; exact dval_ext _ _ _ hr
theorem Tb.Ext.lv {t t' : Tb} (h : Tb.Ext t t') (D : TS) {r : Nat} (hr : r < 2 + t.sz) : D.lv t' r = D.lv t r := by
  obtain ⟨l, h⟩ := h; unfold TS.lv; rw [h]; exact lvl_ext _ _ _ _ hr
theorem Tb.Ext.ref {t t' : Tb} (h : Tb.Ext t t') {r : Nat} (hr : r < 2 + t.sz) : r < 2 + t'.sz := by have := h.sz; omega
theorem MemoOk.ext {D : TS} {t t' : Tb} (h : Tb.Ext t t') {q} (hq : MemoOk D t q) : MemoOk D t' q :=
  ⟨h.ref hq.c, h.ref hq.a, h.ref hq.b, h.ref hq.r, fun s => by rw [h.val hq.c, h.val hq.a, h.val hq.b, h.val hq.r]; exact hq.val s,
   by rw [h.lv D hq.c, h.lv D hq.a, h.lv D hq.b, h.lv D hq.r]; exact hq.lev⟩
theorem TbOk.new (D : TS) : TbOk D Tb.new := ⟨DOk.nil _ _, by simp [Tb.sz], fun h => absurd rfl h, List.nodup_nil, fun q h => by cases h⟩
theorem TS.lv_le {D : TS} (hD : TSOk D) {t : Tb} (h : TbOk D t) {r : Nat} (hr : r < 2 + t.sz) : D.lv t r ≤ D.n := lvl_le hD.op h.dok.dg hr
structure MkOk (D : TS) (t t' : Tb) (v lo hi r : Nat) : Prop where
  ext : Tb.Ext t t'
  ok : TbOk D t'
  ref : r < 2 + t'.sz
  val : ∀ s, t'.val s r = bif s v then t.val s hi else t.val s lo
  lev : D.pl.getD v 0 ≤ D.lv t' r
  size : t'.sz ≤ t.sz + 1
theorem MkOk.same {D : TS} {t : Tb} (h : TbOk D t) {v lo : Nat} (hlo : lo < 2 + t.sz) (hl : D.pl.getD v 0 < D.lv t lo) : MkOk D t t v lo lo lo :=
  ⟨Tb.Ext.refl _, h, hlo, fun s => by cases s v <;> rfl, Nat.le_of_lt hl, by omega⟩
theorem MkOk.old {D : TS} {t : Tb} (h : TbOk D t) {v lo hi x : Nat} (hx : lookT ⟨v, lo, hi⟩ (uniqT t.ns 0) = some x) : MkOk D t t v lo hi x := by
  obtain ⟨i, hi', h1, rfl⟩ := uniqT_look hx
  rw [Nat.zero_add]
  have d := h.dok.dg i hi'
  have a := d.lo; have b := d.hi
  refine ⟨Tb.Ext.refl _, h, by simp only [Tb.sz]; omega, fun s => ?_, ?_, by omega⟩
  · show dval t.ns s (2 + i) = _
    rw [dval_node _ _ hi' a b, h1]
  · show _ ≤ lvl D.n D.pl t.ns (2 + i)
    rw [lvl_node _ _ _ hi', h1]
    exact Nat.le_refl _
abbrev Tb.push (t : Tb) (d : DN) (na : Option Nat) (nc : Nat) : Tb := ⟨t.ns ++ [d], t.me, na, nc⟩
theorem MkOk.new {D : TS} {t : Tb} (h : TbOk D t) {v lo hi : Nat} (hv : v < D.n) (hlo : lo < 2 + t.sz) (hhi : hi < 2 + t.sz) (hl : D.pl.getD v 0 < D.lv t lo) (hh : D.pl.getD v 0 < D.lv t hi) (hne : lo ≠ hi)
    (hx : lookT ⟨v, lo, hi⟩ (uniqT t.ns 0) = none) (hs : t.sz < 1099511627776) (b nc : Nat) : MkOk D t (t.push ⟨v, lo, hi⟩ (some b) nc) v lo hi (2 + t.sz) := by
  have he : Tb.Ext t (t.push ⟨v, lo, hi⟩ (some b) nc) := ⟨[⟨v, lo, hi⟩], rfl⟩
  refine ⟨he, ⟨h.dok.snoc ⟨hv, hlo, hhi, hl, hh⟩ hne (uniqT_none hx), by simp [Tb.sz] at hs ⊢; omega, fun _ => ⟨b, rfl⟩, h.mu, fun q hq => (h.mem q hq).ext he⟩, by simp [Tb.sz], fun s => dval_snoc _ _ _, ?_, by simp [Tb.sz]⟩
  show _ ≤ lvl D.n D.pl (t.ns ++ [⟨v, lo, hi⟩]) (2 + t.sz)
  rw [lvl_node _ _ _ (by simp [Tb.sz])]
  simp [Tb.sz]
structure ChR (D : TS) (t t' : Tb) (c a b r : Nat) : Prop where
  ext : Tb.Ext t t'
  ok : TbOk D t'
  ref : r < 2 + t'.sz
  val : ∀ s, t'.val s r = bif t.val s c then t.val s a else t.val s b
  lev : min (min (D.lv t c) (D.lv t a)) (D.lv t b) ≤ D.lv t' r
  size : t'.sz + 1 ≤ t.sz + 2 ^ (D.n - min (min (D.lv t c) (D.lv t a)) (D.lv t b))
variable {D : TS} {t t' t1 t2 t3 : Tb} {c a b r : Nat}
theorem ChR.same (h : TbOk D t) (hr : r < 2 + t.sz) (hv : ∀ s, t.val s r = bif t.val s c then t.val s a else t.val s b) (hl : min (min (D.lv t c) (D.lv t a)) (D.lv t b) ≤ D.lv t r) : ChR D t t c a b r :=
  ⟨Tb.Ext.refl _, h, hr, hv, hl, by have : 0 < 2 ^ (D.n - min (min (D.lv t c) (D.lv t a)) (D.lv t b)) := Nat.two_pow_pos _; omega⟩
theorem ChR.one (h : TbOk D t) (ha : a < 2 + t.sz) (hc : c = 1 ∨ a = b) : ChR D t t c a b a := by
  refine ChR.same h ha (fun s => ?_) (by omega)
  rcases hc with rfl | rfl
  · rw [show t.val s 1 = true from dval_one _ _]; rfl
  · cases t.val s c <;> rfl
theorem ChR.zero (h : TbOk D t) (hb : b < 2 + t.sz) (hc : c = 0) : ChR D t t c a b b := by
  refine ChR.same h hb (fun s => ?_) (by omega)
  subst hc
  rw [show t.val s 0 = false from dval_zero _ _]; rfl
theorem ChR.self (h : TbOk D t) (hc : c < 2 + t.sz) (ha : a = 1) (hb : b = 0) : ChR D t t c a b c := by
  refine ChR.same h hc (fun s => ?_) (by omega)
  subst ha hb
  rw [show t.val s 0 = false from dval_zero _ _, show t.val s 1 = true from dval_one _ _]
  cases t.val s c <;> rfl
theorem ChR.memo (h : TbOk D t) (hm : lookT (c, a, b) t.me = some r) : ChR D t t c a b r := by
  have := h.mem _ (lookT_some hm)
  exact ChR.same h this.r this.val this.lev
def Tb.kids (D : TS) (t : Tb) (r L : Nat) : Nat × Nat := if D.lv t r = L then ((t.ns.getD (r - 2) default).lo, (t.ns.getD (r - 2) default).hi) else (r, r)
structure KidsOk (D : TS) (t : Tb) (r L : Nat) : Prop where
  r0 : (t.kids D r L).1 < 2 + t.sz
  r1 : (t.kids D r L).2 < 2 + t.sz
  l0 : L < D.lv t (t.kids D r L).1
  l1 : L < D.lv t (t.kids D r L).2
  val : ∀ s, t.val s r = bif s (D.ord.getD L 0) then t.val s (t.kids D r L).2 else t.val s (t.kids D r L).1
theorem kids_ok (hD : TSOk D) (h : TbOk D t) (hr : r < 2 + t.sz) {L : Nat} (hL : L ≤ D.lv t r) (hLn : L < D.n) : KidsOk D t r L := by
  by_cases e : D.lv t r = L
  · have hk : t.kids D r L = ((t.ns.getD (r - 2) default).lo, (t.ns.getD (r - 2) default).hi) := if_pos e
    have h2 : 2 ≤ r := Nat.le_of_not_lt fun h2 => by have := lvl_const D.n D.pl t.ns h2; unfold TS.lv at e; omega
    obtain ⟨i, rfl⟩ : ∃ i, r = 2 + i := ⟨r - 2, by omega⟩
    have hi : i < t.ns.length := by unfold Tb.sz at hr; omega
    have d := h.dok.dg i hi
    have a := d.lo; have b := d.hi; have la := d.llo; have lb := d.lhi
    have e' : D.pl.getD t.ns[i].v 0 = L := by rw [← e]; exact (lvl_node _ _ _ hi).symm
    have hg : t.ns.getD (2 + i - 2) default = t.ns[i] := by rw [show 2 + i - 2 = i by omega]; simp [hi]
    rw [hg] at hk
    have ev : D.ord.getD L 0 = t.ns[i].v := by rw [← e']; exact (hD.op.po _ d.v).2
    refine ⟨by rw [hk]; unfold Tb.sz; simp only; omega, by rw [hk]; unfold Tb.sz; simp only; omega, by rw [hk]; unfold TS.lv; simp only; omega, by rw [hk]; unfold TS.lv; simp only; omega, fun s => ?_⟩
    rw [hk, ev]
    exact dval_node _ _ hi a b
  · have hk : t.kids D r L = (r, r) := if_neg e
    refine ⟨by rw [hk]; exact hr, by rw [hk]; exact hr, by rw [hk]; simp only; omega, by rw [hk]; simp only; omega, fun s => ?_⟩
    rw [hk]
    cases s (D.ord.getD L 0) <;> rfl
theorem ChR.step (hD : TSOk D) (h : TbOk D t) (hc : c < 2 + t.sz) (ha : a < 2 + t.sz) (hb : b < 2 + t.sz) {L : Nat} (hL : min (min (D.lv t c) (D.lv t a)) (D.lv t b) = L) (hLn : L < D.n)
    {r0 r1 : Nat} (h0 : ChR D t t1 (t.kids D c L).1 (t.kids D a L).1 (t.kids D b L).1 r0) (h1 : ChR D t1 t2 (t.kids D c L).2 (t.kids D a L).2 (t.kids D b L).2 r1) (h2 : MkOk D t2 t3 (D.ord.getD L 0) r0 r1 r) : ChR D t t3 c a b r := by
  have kc := kids_ok hD h hc (L := L) (by omega) hLn
  have ka := kids_ok hD h ha (L := L) (by omega) hLn
  have kb := kids_ok hD h hb (L := L) (by omega) hLn
  have s0 := h0.size; have s1 := h1.size; have s2 := h2.size
  have a0 := kc.l0; have a1 := ka.l0; have a2 := kb.l0
  have b0 := kc.l1; have b1 := ka.l1; have b2 := kb.l1
  have e1 := h0.ext.lv D kc.r1; have e2 := h0.ext.lv D ka.r1; have e3 := h0.ext.lv D kb.r1
  have p1 : ∀ k, L < k → 2 ^ (D.n - k) ≤ 2 ^ (D.n - (L + 1)) := fun k hk => Nat.pow_le_pow_right (by decide) (by omega)
  have q0 := p1 (min (min (D.lv t (t.kids D c L).1) (D.lv t (t.kids D a L).1)) (D.lv t (t.kids D b L).1)) (by omega)
  have q1 := p1 (min (min (D.lv t1 (t.kids D c L).2) (D.lv t1 (t.kids D a L).2)) (D.lv t1 (t.kids D b L).2)) (by omega)
  have q2 : 2 ^ (D.n - L) = 2 ^ (D.n - (L + 1)) + 2 ^ (D.n - (L + 1)) := by rw [show D.n - L = (D.n - (L + 1)) + 1 by omega, Nat.pow_succ]; omega
  have hord := hD.op.op L hLn
  refine ⟨(h0.ext.trans h1.ext).trans h2.ext, h2.ok, h2.ref, fun s => ?_, ?_, by rw [hL]; omega⟩
  · rw [h2.val s, h1.val s, kc.val s, ka.val s, kb.val s, h1.ext.val h0.ref, h0.val s, h0.ext.val kc.r1, h0.ext.val ka.r1, h0.ext.val kb.r1]
    cases s (D.ord.getD L 0) <;> rfl
  · rw [hL]
    have := h2.lev
    rw [hord.2] at this
    exact this
abbrev Tb.memo (t : Tb) (k : Nat × Nat × Nat) (r : Nat) : Tb := ⟨t.ns, putT k r t.me, t.na, t.nc⟩
theorem ChR.put (h : TbOk D t) (hc : c < 2 + t.sz) (ha : a < 2 + t.sz) (hb : b < 2 + t.sz) (hr : ChR D t t' c a b r) : ChR D t (t'.memo (c, a, b) r) c a b r := by
  refine ⟨hr.ext, ⟨hr.ok.dok, hr.ok.len, hr.ok.na, putT_uniq hr.ok.mu, fun q hq => ?_⟩, hr.ref, hr.val, hr.lev, hr.size⟩
  rcases mem_putT hq with rfl | hq
  · have e := hr.ext
    exact ⟨e.ref hc, e.ref ha, e.ref hb, hr.ref, fun s => by show t'.val s r = _; rw [hr.val s]; show _ = bif t'.val s c then t'.val s a else t'.val s b; rw [e.val hc, e.val ha, e.val hb], by
      show min (min (D.lv t' c) (D.lv t' a)) (D.lv t' b) ≤ D.lv t' r
      rw [e.lv D hc, e.lv D ha, e.lv D hb]; exact hr.lev⟩
  · have := hr.ok.mem q hq
    exact ⟨this.c, this.a, this.b, this.r, this.val, this.lev⟩
def TS.ml (D : TS) (t : Tb) (c a b : Nat) : Nat := min (min (D.lv t c) (D.lv t a)) (D.lv t b)
theorem ChR.ml (h : Tb.Ext t t') (hc : c < 2 + t.sz) (ha : a < 2 + t.sz) (hb : b < 2 + t.sz) : D.ml t' c a b = D.ml t c a b := by
  unfold TS.ml; rw [h.lv D hc, h.lv D ha, h.lv D hb]
structure KidsPow (D : TS) (t : Tb) (c a b L : Nat) : Prop where
  c0 : (t.kids D c L).1 < 2 + t.sz
  c1 : (t.kids D c L).2 < 2 + t.sz
  a0 : (t.kids D a L).1 < 2 + t.sz
  a1 : (t.kids D a L).2 < 2 + t.sz
  b0 : (t.kids D b L).1 < 2 + t.sz
  b1 : (t.kids D b L).2 < 2 + t.sz
  l0 : L < D.ml t (t.kids D c L).1 (t.kids D a L).1 (t.kids D b L).1
  l1 : L < D.ml t (t.kids D c L).2 (t.kids D a L).2 (t.kids D b L).2
  p0 : 2 ^ (D.n - D.ml t (t.kids D c L).1 (t.kids D a L).1 (t.kids D b L).1) ≤ 2 ^ (D.n - (L + 1))
  p1 : 2 ^ (D.n - D.ml t (t.kids D c L).2 (t.kids D a L).2 (t.kids D b L).2) ≤ 2 ^ (D.n - (L + 1))
  p : 2 ^ (D.n - L) = 2 ^ (D.n - (L + 1)) + 2 ^ (D.n - (L + 1))
theorem kids_pow (hD : TSOk D) (h : TbOk D t) (hc : c < 2 + t.sz) (ha : a < 2 + t.sz) (hb : b < 2 + t.sz) {L : Nat} (hL : D.ml t c a b = L) (hLn : L < D.n) : KidsPow D t c a b L := by
  unfold TS.ml at hL
  have kc := kids_ok hD h hc (L := L) (by omega) hLn
  have ka := kids_ok hD h ha (L := L) (by omega) hLn
  have kb := kids_ok hD h hb (L := L) (by omega) hLn
  have a0 := kc.l0; have a1 := ka.l0; have a2 := kb.l0
  have b0 := kc.l1; have b1 := ka.l1; have b2 := kb.l1
  have p1 : ∀ k, L < k → 2 ^ (D.n - k) ≤ 2 ^ (D.n - (L + 1)) := fun k hk => Nat.pow_le_pow_right (by decide) (by omega)
  have l0 : L < D.ml t (t.kids D c L).1 (t.kids D a L).1 (t.kids D b L).1 := by unfold TS.ml; omega
  have l1 : L < D.ml t (t.kids D c L).2 (t.kids D a L).2 (t.kids D b L).2 := by unfold TS.ml; omega
  exact ⟨kc.r0, kc.r1, ka.r0, ka.r1, kb.r0, kb.r1, l0, l1, p1 _ l0, p1 _ l1, by rw [show D.n - L = (D.n - (L + 1)) + 1 by omega, Nat.pow_succ]; omega⟩
section
variable {P : Program} {n : Nat} {S : List (Nat × Value)} {H : List Ent} {A : Array Oper} {Q : Exit → Act → World → Prop}
theorem TOps.min3 {d x y z tt U p e rest} {a b c : Nat} (hx : opv S x = some (natV a)) (hy : opv S y = some (natV b)) (hz : opv S z = some (natV c)) (hn : Nat.blt d n = true)
    (h : TOps P n ((d, natV (min (min a b) c)) :: S) H rest A Q) : TOps P n S H (⟨some d, .call ⟨.builtin .min, #[x, y, z], tt⟩, U, p, e, none⟩ :: rest) A Q :=
  TOps.pure rfl rfl hn (fun ac w hS _ => by
    simp only [execOp, hS.eval hx, hS.eval hy, hS.eval hz, resolve, invoke, builtin, Builtin.min_, List.map_toArray, List.map_cons, List.map_nil, List.foldlM_cons, List.foldlM_nil, Builtin.min2, natV, Sem.run_bind, Sem.run_pure, Result.andThen_ok]
    simp
    by_cases h1 : b < a
    · simp only [if_pos h1]; split <;> omega
    · simp only [if_neg h1]; split <;> omega) h
end
def TS.head (D : TS) (t : Tb) : List Value := [slV D.oa 0 D.n D.oc, slV (some D.pa) 0 D.n D.n, slV t.na 0 t.ns.length t.nc, .map (some D.bu), .map (some D.bm)]
def TS.ents (D : TS) (t : Tb) : List Ent :=
  [row (some D.bt) D.tT 5 1 (D.head t), row D.oa D.tI 1 D.oc (nats D.ord), row (some D.pa) D.tI 1 D.n (nats D.pl), row t.na D.tN 3 t.nc (dnsV t.ns), tmap dnV natV D.bu (uniqT t.ns 0), tmap triV natV D.bm t.me]
def tabE (D : TS) (t : Tb) : Ent := bundle (D.ents t)
theorem Le.openTab {H : List Ent} : Le (tabE D t :: H) (row (some D.bt) D.tT 5 1 (D.head t) :: row D.oa D.tI 1 D.oc (nats D.ord) :: row (some D.pa) D.tI 1 D.n (nats D.pl) :: row t.na D.tN 3 t.nc (dnsV t.ns) :: tmap dnV natV D.bu (uniqT t.ns 0) :: tmap triV natV D.bm t.me :: H) := Le.unbundle
theorem Le.closeTab {H : List Ent} : Le (row (some D.bt) D.tT 5 1 (D.head t) :: row D.oa D.tI 1 D.oc (nats D.ord) :: row (some D.pa) D.tI 1 D.n (nats D.pl) :: row t.na D.tN 3 t.nc (dnsV t.ns) :: tmap dnV natV D.bu (uniqT t.ns 0) :: tmap triV natV D.bm t.me :: H) (tabE D t :: H) := Le.bundle (L := D.ents t)
theorem Le.openT {tT tN tI : TypeId} (h1 : D.tT = tT) (h2 : D.tN = tN) (h3 : D.tI = tI) {H : List Ent} : Le (tabE D t :: H) (row (some D.bt) tT 5 1 [slV D.oa 0 D.n D.oc, slV (some D.pa) 0 D.n D.n, slV t.na 0 t.ns.length t.nc, .map (some D.bu), .map (some D.bm)] :: row D.oa tI 1 D.oc (nats D.ord) :: row (some D.pa) tI 1 D.n (nats D.pl) :: row t.na tN 3 t.nc (dnsV t.ns) :: tmap dnV natV D.bu (uniqT t.ns 0) :: tmap triV natV D.bm t.me :: H) := by
  subst h1 h2 h3; exact Le.openTab
theorem Le.closeT {tT tN tI : TypeId} (h1 : D.tT = tT) (h2 : D.tN = tN) (h3 : D.tI = tI) {H : List Ent} : Le (row (some D.bt) tT 5 1 [slV D.oa 0 D.n D.oc, slV (some D.pa) 0 D.n D.n, slV t.na 0 t.ns.length t.nc, .map (some D.bu), .map (some D.bm)] :: row D.oa tI 1 D.oc (nats D.ord) :: row (some D.pa) tI 1 D.n (nats D.pl) :: row t.na tN 3 t.nc (dnsV t.ns) :: tmap dnV natV D.bu (uniqT t.ns 0) :: tmap triV natV D.bm t.me :: H) (tabE D t :: H) := by
  subst h1 h2 h3; exact Le.closeTab
theorem Le.closePush {tT tN tI : TypeId} (h1 : D.tT = tT) (h2 : D.tN = tN) (h3 : D.tI = tI) {d : DN} {nb nc : Nat} (hx : lookT d (uniqT t.ns 0) = none) {H : List Ent} : Le (row (some D.bt) tT 5 1 [slV D.oa 0 D.n D.oc, slV (some D.pa) 0 D.n D.n, slV (some nb) 0 (t.ns.length + 1) nc, .map (some D.bu), .map (some D.bm)] :: row D.oa tI 1 D.oc (nats D.ord) :: row (some D.pa) tI 1 D.n (nats D.pl) :: row (some nb) tN 3 nc (dnsV t.ns ++ dnCells d) :: tmap dnV natV D.bu (putT d (2 + t.ns.length) (uniqT t.ns 0)) :: tmap triV natV D.bm t.me :: H) (tabE D (t.push d (some nb) nc) :: H) := by
  have := Le.closeT (D := D) (t := t.push d (some nb) nc) h1 h2 h3 (H := H)
  rw [putT_new hx]
  simp only [uniqT_snoc, dnsV_append, List.length_append, List.length_singleton, Nat.zero_add] at this
  simpa [dnsV] using this
structure TabRd (H : List Ent) (D : TS) (t : Tb) : Prop where
  hd : Rd H D.bt 0 (D.head t)
  od : RdS H D.oa 0 (nats D.ord)
  pl : Rd H D.pa 0 (nats D.pl)
  nd : RdS H t.na 0 (dnsV t.ns)
theorem TabRd.le {H H' : List Ent} (h : TabRd H D t) (hl : Le H' H) : TabRd H' D t := ⟨h.hd.le hl, h.od.le hl, h.pl.le hl, h.nd.le hl⟩
theorem tab_rd (hD : TSOk D) (h : TbOk D t) {H : List Ent} : TabRd (tabE D t :: H) D t := by
  refine TabRd.le ?_ Le.openTab
  refine ⟨Rd.all (List.Mem.head _), RdS.ofRowA (List.Mem.tail _ (List.Mem.head _)) (fun hne => hD.oa (fun e => hne (by rw [e]; rfl))), Rd.all (List.Mem.tail _ (List.Mem.tail _ (List.Mem.head _))), RdS.ofRowA (List.Mem.tail _ (List.Mem.tail _ (List.Mem.tail _ (List.Mem.head _)))) (fun hne => h.na (fun e => hne (by rw [e]; rfl)))⟩
theorem TabRd.node {H : List Ent} (h : TabRd H D t) {i : Nat} (hi : i < t.ns.length) : ∃ b, t.na = some b ∧ Rd H b (i * 3) (dnCells t.ns[i]) := by
  rcases h.nd with e | ⟨b, h1, _, h2⟩
  · have := dnsV_length t.ns; rw [e] at this; simp at this; omega
  · refine ⟨b, h1, fun w hM j v hj => ?_⟩
    have := h2 w hM (i * 3 + j) v (dnsV_get hi j v hj)
    rwa [Nat.zero_add] at this
theorem TabRd.place {H : List Ent} (h : TabRd H D t) {v : Nat} (hv : v < D.pl.length) : Rd H D.pa v [natV (D.pl.getD v 0)] := Rd.fld h.pl v (nats_get hv)
theorem TabRd.order {H : List Ent} (h : TabRd H D t) {k : Nat} (hk : k < D.ord.length) : ∃ b, D.oa = some b ∧ Rd H b k [natV (D.ord.getD k 0)] := by
  obtain ⟨b, h1, _, h2⟩ := RdS.at h.od (i := k) (by simpa using hk)
  refine ⟨b, h1, ?_⟩
  rw [Nat.zero_add] at h2
  have : (nats D.ord)[k]'(by simpa using hk) = natV (D.ord.getD k 0) := by simp [hk]
  rwa [this] at h2
def ChG (D : TS) (t : Tb) (c a b : Nat) (H : List Ent) : Value → List Ent → Prop := fun u H' => ∃ t' r, u = natV r ∧ ChR D t t' c a b r ∧ tabE D t' :: H = H'
def MkG (D : TS) (t : Tb) (v lo hi : Nat) (H : List Ent) : Value → List Ent → Prop := fun u H' => ∃ t' r, u = natV r ∧ MkOk D t t' v lo hi r ∧ tabE D t' :: H = H'
theorem TbOk.ukeys (hD : TSOk D) (h : TbOk D t) : KeysOk okDn (uniqT t.ns 0) := by
  refine ⟨by unfold Uniq; rw [uniqT_keys]; exact h.dok.nd, fun q hq => ?_⟩
  have hq' : q.1 ∈ t.ns := by rw [← uniqT_keys t.ns 0]; exact List.mem_map.2 ⟨q, hq, rfl⟩
  obtain ⟨i, hi, e⟩ := List.getElem_of_mem hq'
  have d := h.dok.dg i hi
  rw [e] at d
  have a := d.lo; have b := d.hi; have v := d.v; have n := hD.n24; have l := h.len
  simp only [Tb.sz] at l
  exact ⟨by unfold ok63; omega, by unfold ok63; omega, by unfold ok63; omega⟩
theorem TbOk.mkeys (h : TbOk D t) : KeysOk okTri t.me := by
  refine ⟨h.mu, fun q hq => ?_⟩
  have m := h.mem q hq
  have a := m.a; have b := m.b; have c := m.c; have l := h.len
  simp only [Tb.sz] at a b c l
  exact ⟨by unfold ok63; omega, by unfold ok63; omega, by unfold ok63; omega⟩
theorem TbOk.u63 (h : TbOk D t) {r : Nat} (hr : r < 2 + t.sz) : ok63 r := by have := h.len; unfold ok63; omega
end Go.GL
namespace Go.GL
set_option linter.unusedVariables false
set_option linter.unusedSimpArgs false
section
variable {P : Program} {n : Nat} {S : List (Nat × Value)} {H : List Ent} {A : Array Oper} {Q : Exit → Act → World → Prop}
theorem Tri.ret0 {fn : Func} {R : Value → List Ent → Prop} {H' : List Ent} (hres : fn.results = #[]) (hq : ∀ a w, bodyPost P fn (Post R) .ret a w → Q .ret a w)
    (hl : Le H H') (hR : R (.tuple #[]) H') : Tri P n S H .ret Q :=
  Tri.ret fun a w hS hM => hq a w ⟨hS.df, _, by rw [results_eq, hres]; simp, _, H', hR, rfl, hl w hM⟩
theorem Nrm.ret0 {fn : Func} {R : Value → List Ent → Prop} {H' : List Ent} (hres : fn.results = #[]) (hl : Le H H') (hR : R (.tuple #[]) H') : Nrm n S H (bodyPost P fn (Post R)) :=
  fun a w hS hM => ⟨hS.df, _, by rw [results_eq, hres]; simp, _, H', hR, rfl, hl w hM⟩
theorem TOps.callB {d x f ts U p e rest} {args : List Operand} {fs vs caps : List Value} {R : Value → List Ent → Prop} (hx : opv S x = some (.func (.func f) fs.toArray caps.toArray)) (hc : ∀ as w, (callFunc f as).run P w = .ok (.enter f as) w)
    (ha : ArgsAre S args vs) (hg : Gives P f (fs ++ vs ++ caps) H R) (hn : Nat.blt d n = true)
    (h : ∀ v H', R v H' → TOps P n ((d, v) :: S) H' rest A Q) : TOps P n S H (⟨some d, .call ⟨.value x, args.toArray, ts⟩, U, p, e, none⟩ :: rest) A Q := by
  intro a w hS hM
  refine wpList_plain rfl fun K hK => ?_
  have he := ha.eval hS
  have hr : (execOp a.eval ⟨some d, .call ⟨.value x, args.toArray, ts⟩, U, p, e, none⟩).run P w = .ok (.enter f (fs ++ vs ++ caps).toArray) w := by
    simp [execOp, resolve, hS.eval hx, Deferred.ofValue, invoke, hc, he]
  unfold Oper.wp
  rw [hr, Oper.upon_enter]
  refine (hg w hM).mono fun en w' h' => ?_
  obtain ⟨v, H', hR, rfl, hM'⟩ := h'
  exact hK _ _ (h v H' hR _ _ (hS.put v (by simpa [Nat.blt_eq] using hn)) hM')
theorem TOps.makeFuncB {d f U p e rest} {fs caps : List Operand} {us vs : List Value} (hf : ArgsAre S fs us) (ha : ArgsAre S caps vs) (hn : Nat.blt d n = true)
    (h : TOps P n ((d, .func (.func f) us.toArray vs.toArray) :: S) H rest A Q) : TOps P n S H (⟨some d, .makeFunc (.func f) fs.toArray caps.toArray, U, p, e, none⟩ :: rest) A Q :=
  TOps.pure rfl rfl hn (fun a w hS _ => by
    have he := ha.eval hS
    have hg := hf.eval hS
    simp [execOp, Instr.makeFunc, he, hg]) h
end
structure OpR (D : TS) (t t' : Tb) (r : Nat) (f : (Nat → Bool) → Bool) (K : Nat) : Prop where
  ext : Tb.Ext t t'
  ok : TbOk D t'
  ref : r < 2 + t'.sz
  val : ∀ s, t'.val s r = f s
  size : t'.sz ≤ t.sz + K
def OpG (D : TS) (t : Tb) (f : (Nat → Bool) → Bool) (K : Nat) (H : List Ent) : Value → List Ent → Prop := fun u H' => ∃ t' r, u = natV r ∧ OpR D t t' r f K ∧ tabE D t' :: H = H'
variable {D : TS} {t t' t1 t2 t3 : Tb} {q a b r K : Nat} {f : (Nat → Bool) → Bool}
theorem pow8 (h : D.n ≤ 8) (k : Nat) : 2 ^ (D.n - k) ≤ 256 := by
  have := Nat.pow_le_pow_right (n := 2) (by decide) (show D.n - k ≤ 8 by omega)
  exact this
theorem ChR.op (h8 : D.n ≤ 8) (h : ChR D t t' q a b r) : OpR D t t' r (fun s => bif t.val s q then t.val s a else t.val s b) 256 :=
  ⟨h.ext, h.ok, h.ref, h.val, by have := h.size; have := pow8 h8 (min (min (D.lv t q) (D.lv t a)) (D.lv t b)); omega⟩
theorem OpR.mono (h : OpR D t t' r f K) {g : (Nat → Bool) → Bool} {L : Nat} (hf : ∀ s, f s = g s) (hK : K ≤ L) : OpR D t t' r g L := ⟨h.ext, h.ok, h.ref, fun s => by rw [h.val s, hf s], by have := h.size; omega⟩
theorem OpR.self (h : TbOk D t) (hr : r < 2 + t.sz) (hf : ∀ s, t.val s r = f s) : OpR D t t r f K := ⟨Tb.Ext.refl _, h, hr, hf, by omega⟩
theorem OpR.step (h : OpR D t t1 a f K) {g : (Nat → Bool) → Bool} {L : Nat} (h1 : OpR D t1 t2 r g L) : OpR D t t2 r g (K + L) := ⟨h.ext.trans h1.ext, h1.ok, h1.ref, h1.val, by have := h.size; have := h1.size; omega⟩
theorem MkOk.event (h : MkOk D t t' q 0 1 r) : OpR D t t' r (fun s => s q) 1 :=
  ⟨h.ext, h.ok, h.ref, fun s => by rw [h.val s, show t.val s 1 = true from dval_one _ _, show t.val s 0 = false from dval_zero _ _]; cases s q <;> rfl, h.size⟩
def foldV (g : Bool → Bool → Bool) (t : Tb) (s : Nat → Bool) (z : Bool) (xs : List Nat) : Bool := xs.foldl (fun acc x => g acc (t.val s x)) z
theorem foldV_snoc (g : Bool → Bool → Bool) (t : Tb) (s : Nat → Bool) (z : Bool) {xs : List Nat} {k : Nat} (hk : k < xs.length) : foldV g t s z (xs.take (k + 1)) = g (foldV g t s z (xs.take k)) (t.val s xs[k]) := by
  unfold foldV
  rw [List.take_succ_eq_append_getElem hk, List.foldl_append]
  rfl
def cntV (t : Tb) (s : Nat → Bool) (xs : List Nat) : Nat := xs.countP (fun x => t.val s x)
theorem cntV_succ (t : Tb) (s : Nat → Bool) {xs : List Nat} {k : Nat} (hk : k < xs.length) : cntV t s (xs.take (k + 1)) = cntV t s (xs.take k) + (bif t.val s xs[k] then 1 else 0) := by
  unfold cntV
  rw [List.take_succ_eq_append_getElem hk, List.countP_append, List.countP_singleton]
  cases t.val s xs[k] <;> rfl
theorem cntV_le (t : Tb) (s : Nat → Bool) (xs : List Nat) : cntV t s xs ≤ xs.length := List.countP_le_length
theorem foldV_and (t : Tb) (s : Nat → Bool) (xs : List Nat) : foldV (· && ·) t s true xs = decide (cntV t s xs = xs.length) := by
  have key : ∀ (xs : List Nat) (z : Bool), foldV (· && ·) t s z xs = (z && decide (cntV t s xs = xs.length)) := by
    intro xs
    induction xs with
    | nil => intro z; simp [foldV, cntV]
    | cons x r ih =>
      intro z
      show foldV (· && ·) t s (z && t.val s x) r = _
      rw [ih]
      have hl := cntV_le t s r
      unfold cntV at hl ⊢
      rw [List.countP_cons]
      cases t.val s x
      · simp; intro _; omega
      · simp
  rw [key, Bool.true_and]
theorem foldV_or (t : Tb) (s : Nat → Bool) (xs : List Nat) : foldV (· || ·) t s false xs = decide (0 < cntV t s xs) := by
  have key : ∀ (xs : List Nat) (z : Bool), foldV (· || ·) t s z xs = (z || decide (0 < cntV t s xs)) := by
    intro xs
    induction xs with
    | nil => intro z; simp [foldV, cntV]
    | cons x r ih =>
      intro z
      show foldV (· || ·) t s (z || t.val s x) r = _
      rw [ih]
      unfold cntV
      rw [List.countP_cons]
      cases t.val s x <;> simp
  rw [key, Bool.false_or]
theorem foldV_xor (t : Tb) (s : Nat → Bool) (xs : List Nat) : foldV (· != ·) t s false xs = decide (cntV t s xs % 2 = 1) := by
  have key : ∀ (xs : List Nat) (z : Bool), foldV (· != ·) t s z xs = (z != decide (cntV t s xs % 2 = 1)) := by
    intro xs
    induction xs with
    | nil => intro z; simp [foldV, cntV]
    | cons x r ih =>
      intro z
      show foldV (· != ·) t s (z != t.val s x) r = _
      rw [ih]
      unfold cntV
      rw [List.countP_cons]
      cases t.val s x
      · simp
      · simp only [if_true]
        have : decide ((List.countP (fun x => t.val s x) r + 1) % 2 = 1) = !decide (List.countP (fun x => t.val s x) r % 2 = 1) := by
          rw [← decide_not]
          exact decide_eq_decide.2 (by omega)
        rw [this]
        cases z <;> cases decide (List.countP (fun x => t.val s x) r % 2 = 1) <;> rfl
  rw [key, Bool.false_bne]
def OpSpec (P : Program) (D : TS) (f : FuncId) (g : Bool → Bool → Bool) : Prop := ∀ {H : List Ent} {t : Tb} {a b : Nat}, TbOk D t → a < 2 + t.sz → b < 2 + t.sz → t.sz + 512 ≤ 1099511627776 →
  Gives P f [.pointer (some ⟨D.bt, 0, none⟩), natV a, natV b] (tabE D t :: H) (OpG D t (fun s => g (t.val s a) (t.val s b)) 512 H)
theorem nodeVal_const {d : Nd} {c : Int} (h : d.kind = 0) : nodeVal d c = decide (d.k = 1) := by simp [nodeVal, h]
theorem nodeVal_not {d : Nd} {c : Int} (h : d.kind = 1) : nodeVal d c = decide (c = 0) := by simp [nodeVal, h]
theorem nodeVal_and {d : Nd} {c : Int} (h : d.kind = 2) : nodeVal d c = decide (c = d.args.length) := by simp [nodeVal, h]
theorem nodeVal_or {d : Nd} {c : Int} (h : d.kind = 3) : nodeVal d c = decide (0 < c) := by simp [nodeVal, h]
theorem nodeVal_vote {d : Nd} {c : Int} (h : d.kind = 4) : nodeVal d c = decide (d.k ≤ c) := by simp [nodeVal, h]
theorem nodeVal_xor {d : Nd} {c : Nat} (h : d.kind = 5) : nodeVal d c = decide (c % 2 = 1) := by
  have : nodeVal d c = decide ((c : Int).tmod 2 = 1) := by simp [nodeVal, h]
  rw [this]
  exact decide_eq_decide.2 (by rw [Int.tmod_eq_emod_of_nonneg (by omega)]; omega)
structure Need (D : TS) (t : Tb) (zs : List Nat) (k : Nat) (lo hi : (Nat → Bool) → Nat) (j : Nat) : Prop where
  len : zs.length = k + 1
  ref : ∀ m, m ≤ k → zs.getD m 0 < 2 + t.sz
  old : ∀ m, m ≤ k → m ≤ j → ∀ s, t.val s (zs.getD m 0) = decide (m ≤ lo s)
  new : ∀ m, m ≤ k → j < m → ∀ s, t.val s (zs.getD m 0) = decide (m ≤ hi s)
theorem Need.ext {zs : List Nat} {k j : Nat} {lo hi : (Nat → Bool) → Nat} (h : Need D t zs k lo hi j) (he : Tb.Ext t t') : Need D t' zs k lo hi j :=
  ⟨h.len, fun m hm => he.ref (h.ref m hm), fun m hm hj s => by rw [he.val (h.ref m hm)]; exact h.old m hm hj s, fun m hm hj s => by rw [he.val (h.ref m hm)]; exact h.new m hm hj s⟩
theorem Need.start (k : Nat) (lo : (Nat → Bool) → Nat) (h0 : ∀ s, lo s = 0) : Need D t ((List.replicate (k + 1) 0).set 0 1) k lo lo k := by
  have g : ∀ m, ((List.replicate (k + 1) 0).set 0 1).getD m 0 = if m = 0 then 1 else 0 := fun m => by
    cases m with
    | zero => simp
    | succ m =>
      simp [List.getD_eq_getElem?_getD, List.getElem?_set, List.getElem?_replicate]
      split <;> rfl
  refine ⟨by simp, fun m hm => by rw [g]; split <;> omega, fun m hm hj s => ?_, fun m hm hj s => by omega⟩
  rw [g, h0]
  cases m with
  | zero => simp; exact dval_one _ _
  | succ m => simp; exact dval_zero _ _
theorem Need.step {zs : List Nat} {k j : Nat} {lo hi : (Nat → Bool) → Nat} {x : Nat} (h : Need D t zs k lo hi (j + 1)) (hj : j + 1 ≤ k) (hx : ∀ s, hi s = lo s + (bif t.val s x then 1 else 0)) (hr : OpR D t t' r (fun s => bif t.val s x then t.val s (zs.getD j 0) else t.val s (zs.getD (j + 1) 0)) K) :
    Need D t' (zs.set (j + 1) r) k lo hi j := by
  have he := hr.ext
  have h' := h.ext he
  have hl := h.len
  have g : ∀ m, (zs.set (j + 1) r).getD m 0 = if m = j + 1 then r else zs.getD m 0 := fun m => by
    by_cases e : m = j + 1
    · subst e
      have hlt : j + 1 < zs.length := by omega
      rw [if_pos rfl, List.getD_eq_getElem?_getD, List.getElem?_set_self hlt]
      rfl
    · rw [if_neg e]; simp [List.getD_eq_getElem?_getD, List.getElem?_set, Ne.symm e]
  refine ⟨by simpa using hl, fun m hm => ?_, fun m hm hmj s => ?_, fun m hm hmj s => ?_⟩
  · rw [g]; split
    · exact hr.ref
    · exact h'.ref m hm
  · rw [g, if_neg (by omega)]; exact h'.old m hm (by omega) s
  · rw [g]; split
    · rename_i e
      subst e
      rw [hr.val s]
      rw [h.old j (by omega) (by omega) s, h.old (j + 1) hm (Nat.le_refl _) s, hx s]
      cases t.val s x
      · simp
      · simp only [cond_true]; exact decide_eq_decide.2 (by omega)
    · exact h'.new m hm (by omega) s
theorem Need.turn {zs : List Nat} {k : Nat} {lo hi hi2 : (Nat → Bool) → Nat} (h : Need D t zs k lo hi 0) : Need D t zs k hi hi2 k :=
  ⟨h.len, h.ref, fun m hm _ s => by
    by_cases e : m = 0
    · subst e; rw [h.old 0 hm (Nat.le_refl _) s]; simp
    · exact h.new m hm (by omega) s, fun m hm hj s => by omega⟩
theorem Need.turn0 {zs : List Nat} {k : Nat} {lo lo2 hi : (Nat → Bool) → Nat} (h : Need D t zs k lo lo2 k) : Need D t zs k lo hi k :=
  ⟨h.len, h.ref, h.old, fun m hm hj s => by omega⟩
structure NodePow (D : TS) (t : Tb) (i : Nat) (h : i < t.ns.length) : Prop where
  v : t.ns[i].v < D.n
  lo : t.ns[i].lo < 2 + t.sz
  hi : t.ns[i].hi < 2 + t.sz
  lt : D.lv t (2 + i) < D.n
  pl : D.lv t (2 + i) = D.pl.getD t.ns[i].v 0
  llo : D.lv t (2 + i) < D.lv t t.ns[i].lo
  lhi : D.lv t (2 + i) < D.lv t t.ns[i].hi
  plo : 2 ^ (D.n - D.lv t t.ns[i].lo) ≤ 2 ^ (D.n - (D.lv t (2 + i) + 1))
  phi : 2 ^ (D.n - D.lv t t.ns[i].hi) ≤ 2 ^ (D.n - (D.lv t (2 + i) + 1))
  p : 2 ^ (D.n - D.lv t (2 + i)) = 2 ^ (D.n - (D.lv t (2 + i) + 1)) + 2 ^ (D.n - (D.lv t (2 + i) + 1))
  val : ∀ s, t.val s (2 + i) = bif s t.ns[i].v then t.val s t.ns[i].hi else t.val s t.ns[i].lo
  olo : t.ns[i].lo < 2 + i
  ohi : t.ns[i].hi < 2 + i
theorem node_pow (hD : TSOk D) (h : TbOk D t) {i : Nat} (hi : i < t.ns.length) : NodePow D t i hi := by
  have d := h.dok.dg i hi
  have a := d.lo; have b := d.hi; have la := d.llo; have lb := d.lhi
  have e : D.lv t (2 + i) = D.pl.getD t.ns[i].v 0 := lvl_node _ _ _ hi
  have hlt : D.lv t (2 + i) < D.n := by rw [e]; exact (hD.op.po _ d.v).1
  have l0 : D.lv t (2 + i) < D.lv t t.ns[i].lo := by rw [e]; exact la
  have l1 : D.lv t (2 + i) < D.lv t t.ns[i].hi := by rw [e]; exact lb
  exact ⟨d.v, by unfold Tb.sz; omega, by unfold Tb.sz; omega, hlt, e, l0, l1, Nat.pow_le_pow_right (by decide) (by omega), Nat.pow_le_pow_right (by decide) (by omega),
    by rw [show D.n - D.lv t (2 + i) = (D.n - (D.lv t (2 + i) + 1)) + 1 by omega, Nat.pow_succ]; omega, fun s => dval_node _ _ hi a b, a, b⟩
theorem lookB {k : Nat} {m : List (Nat × Bool)} : ((lookT k m).map Value.bool).getD (.bool false) = .bool ((lookT k m).getD false) := by cases lookT k m <;> rfl
def SmR (D : TS) (t : Tb) (r : Nat) (md : Nat) (m : List (Nat × Bool)) (H : List Ent) : Value → List Ent → Prop := fun u H' =>
  ∃ m', u = .tuple (List.toArray []) ∧ KeysOk ok63 m' ∧ m'.length + 1 ≤ m.length + 2 ^ (D.n - D.lv t r) ∧ tmap natV Value.bool md m' :: H = H'
theorem zeroAny {P : Program} {T : TypeId} {v : Value} (h : (P.info? T).bind (fun i => i.zero) = some v) (w : World) : (zeroValue T).run P w = .ok v w := by
  cases hi : P.info? T with
  | none => rw [hi] at h; cases h
  | some i =>
    rw [hi] at h
    simp only [Option.bind_some] at h
    simp [zeroValue, typeInfo, hi, h]
end Go.GL
namespace Go.GL
set_option linter.unusedVariables false
set_option linter.unusedSimpArgs false
def cr : Nat → ((Nat → Bool) → Bool) → (Nat → Bool) → Nat
  | 0, f, s => bif f s then 1 else 0
  | k + 1, f, s => cr k f (upS s k false) + cr k f (upS s k true)
theorem cr_congr {f g : (Nat → Bool) → Bool} : ∀ (k : Nat) (s : Nat → Bool), (∀ s', (∀ i, k ≤ i → s' i = s i) → f s' = g s') → cr k f s = cr k g s
  | 0, s, h => by unfold cr; rw [h s (fun _ _ => rfl)]
  | k + 1, s, h => by
    unfold cr
    rw [cr_congr k _ (fun s' hs => h s' (fun i hi => by rw [hs i (by omega), upS_ne (by omega)])), cr_congr k _ (fun s' hs => h s' (fun i hi => by rw [hs i (by omega), upS_ne (by omega)]))]
def Ign (f : (Nat → Bool) → Bool) (v : Nat) : Prop := ∀ s b, f (upS s v b) = f s
theorem upS_comm {s : Nat → Bool} {v j : Nat} {b c : Bool} (h : j ≠ v) : upS (upS s v b) j c = upS (upS s j c) v b := by
  funext i
  unfold upS
  by_cases e : i = j
  · subst e; simp [h]
  · simp [e]
theorem cr_ign {f : (Nat → Bool) → Bool} {v : Nat} (hf : Ign f v) (b : Bool) : ∀ (k : Nat) (s : Nat → Bool), k ≤ v → cr k f (upS s v b) = cr k f s
  | 0, s, _ => by unfold cr; rw [hf]
  | k + 1, s, h => by
    unfold cr
    have hne : k ≠ v := by omega
    rw [upS_comm (s := s) (b := b) (c := false) hne, upS_comm (s := s) (b := b) (c := true) hne, cr_ign hf b k _ (by omega), cr_ign hf b k _ (by omega)]
theorem cr_node {h l : (Nat → Bool) → Bool} {v : Nat} (hh : Ign h v) (hl : Ign l v) : ∀ (n : Nat) (s : Nat → Bool), v < n → cr n h s + cr n l s = 2 * cr n (fun s => bif s v then h s else l s) s
  | 0, s, hv => by omega
  | k + 1, s, hv => by
    by_cases e : v = k
    · subst e
      unfold cr
      rw [cr_ign hh true v s (Nat.le_refl _), cr_ign hh false v s (Nat.le_refl _), cr_ign hl true v s (Nat.le_refl _), cr_ign hl false v s (Nat.le_refl _)]
      have e0 : cr v (fun s => bif s v then h s else l s) (upS s v false) = cr v l s := by
        rw [← cr_ign hl false v s (Nat.le_refl _)]
        exact cr_congr v _ fun s' hs => by rw [show s' v = false by rw [hs v (Nat.le_refl _), upS_same]]; rfl
      have e1 : cr v (fun s => bif s v then h s else l s) (upS s v true) = cr v h s := by
        rw [← cr_ign hh true v s (Nat.le_refl _)]
        exact cr_congr v _ fun s' hs => by rw [show s' v = true by rw [hs v (Nat.le_refl _), upS_same]]; rfl
      rw [e0, e1]
      omega
    · have i0 := cr_node hh hl k (upS s k false) (by omega)
      have i1 := cr_node hh hl k (upS s k true) (by omega)
      unfold cr
      omega
theorem cr_le (f : (Nat → Bool) → Bool) : ∀ (k : Nat) (s : Nat → Bool), cr k f s ≤ 2 ^ k
  | 0, s => by unfold cr; cases f s <;> simp
  | k + 1, s => by
    have a := cr_le f k (upS s k false); have b := cr_le f k (upS s k true)
    unfold cr
    rw [Nat.pow_succ]
    omega
theorem cr_false : ∀ (k : Nat) (s : Nat → Bool), cr k (fun _ => false) s = 0
  | 0, s => rfl
  | k + 1, s => by unfold cr; rw [cr_false k, cr_false k]
theorem cr_true : ∀ (k : Nat) (s : Nat → Bool), cr k (fun _ => true) s = 2 ^ k
  | 0, s => rfl
  | k + 1, s => by unfold cr; rw [cr_true k, cr_true k, Nat.pow_succ]; omega
def bitsN (n z : Nat) (s : Nat → Bool) : Nat → Bool := fun i => if i < n then z.testBit i else s i
theorem cr_range (f : (Nat → Bool) → Bool) : ∀ (k : Nat) (s : Nat → Bool), cr k f s = (List.range (2 ^ k)).countP (fun z => f (bitsN k z s))
  | 0, s => by
    have : bitsN 0 0 s = s := by funext i; simp [bitsN]
    simp only [Nat.pow_zero, List.range_one, List.countP_singleton, this]
    unfold cr
    cases f s <;> rfl
  | k + 1, s => by
    unfold cr
    rw [cr_range f k, cr_range f k, Nat.pow_succ, Nat.mul_two, List.range_add, List.countP_append, List.countP_map]
    congr 1
    · refine List.countP_congr fun z hz => ?_
      have hz' : z < 2 ^ k := List.mem_range.1 hz
      have e : bitsN k z (upS s k false) = bitsN (k + 1) z s := by
        funext i
        unfold bitsN
        by_cases h1 : i < k
        · simp [h1, Nat.lt_succ_of_lt h1]
        · by_cases h2 : i = k
          · subst h2; simp [upS_same, Nat.testBit_lt_two_pow hz']
          · have h3 : ¬ i < k + 1 := by omega
            simp [h1, h3, upS_ne h2]
      rw [e]
    · refine List.countP_congr fun z hz => ?_
      have hz' : z < 2 ^ k := List.mem_range.1 hz
      have e : bitsN k z (upS s k true) = bitsN (k + 1) (2 ^ k + z) s := by
        funext i
        unfold bitsN
        by_cases h1 : i < k
        · simp [h1, Nat.lt_succ_of_lt h1, Nat.testBit_two_pow_add_gt h1]
        · by_cases h2 : i = k
          · subst h2; simp [upS_same, Nat.testBit_two_pow_add_eq, Nat.testBit_lt_two_pow hz']
          · have h3 : ¬ i < k + 1 := by omega
            simp [h1, h3, upS_ne h2]
      simp only [Function.comp, e]
abbrev nb (z : Nat) : Nat → Bool := fun i => z.testBit i
theorem bitsN_nb {n z : Nat} (hz : z < 2 ^ n) : bitsN n z (fun _ => false) = nb z := by
  funext i
  unfold bitsN
  by_cases h : i < n
  · simp [h]
  · rw [if_neg h]
    exact (Nat.testBit_lt_two_pow (Nat.lt_of_lt_of_le hz (Nat.pow_le_pow_right (by decide) (by omega)))).symm
def cnS (n : Nat) (f : (Nat → Bool) → Bool) : Nat := cr n f (fun _ => false)
theorem cnS_eq (n : Nat) (f : (Nat → Bool) → Bool) : cnS n f = (List.range (2 ^ n)).countP (fun z => f (nb z)) := by
  unfold cnS
  rw [cr_range]
  refine List.countP_congr fun z hz => ?_
  rw [bitsN_nb (List.mem_range.1 hz)]
variable {D : TS} {t t' t1 t2 t3 : Tb} {q a b r K : Nat} {f : (Nat → Bool) → Bool}
def TS.cn (D : TS) (t : Tb) (r : Nat) : Nat := cnS D.n (fun s => t.val s r)
theorem TS.cn_le (D : TS) (t : Tb) (r : Nat) : D.cn t r ≤ 2 ^ D.n := cr_le _ _ _
theorem TS.cn_zero (D : TS) (t : Tb) : D.cn t 0 = 0 := by
  unfold TS.cn cnS
  rw [show (fun s => t.val s 0) = fun _ => false from funext fun s => dval_zero _ _, cr_false]
theorem TS.cn_one (D : TS) (t : Tb) : D.cn t 1 = 2 ^ D.n := by
  unfold TS.cn cnS
  rw [show (fun s => t.val s 1) = fun _ => true from funext fun s => dval_one _ _, cr_true]
theorem ign_val (hD : TSOk D) (h : TbOk D t) {v r : Nat} (hv : v < D.n) (hr : r < 2 + t.sz) (hl : D.pl.getD v 0 < D.lv t r) : Ign (fun s => t.val s r) v := fun s b => dval_up hD.op h.dok.dg hr hv hl s b
theorem cn_node (hD : TSOk D) (h : TbOk D t) {i : Nat} (hi : i < t.ns.length) : D.cn t t.ns[i].lo + D.cn t t.ns[i].hi = 2 * D.cn t (2 + i) := by
  have NP := node_pow hD h hi
  have l0 := NP.llo; have l1 := NP.lhi; have e := NP.pl
  have := cr_node (ign_val hD h NP.v NP.hi (by omega)) (ign_val hD h NP.v NP.lo (by omega)) D.n (fun _ => false) NP.v
  have e2 : cr D.n (fun s => bif s t.ns[i].v then t.val s t.ns[i].hi else t.val s t.ns[i].lo) (fun _ => false) = cr D.n (fun s => t.val s (2 + i)) (fun _ => false) := congrArg (fun g => cr D.n g _) (funext fun s => (NP.val s).symm)
  unfold TS.cn cnS
  omega
structure CtOk (D : TS) (t : Tb) (m : List (Nat × Nat)) : Prop where
  keys : KeysOk ok63 m
  val : ∀ q ∈ m, q.2 = D.cn t q.1
  has : ∀ k, k < 2 → lookT k m ≠ none
theorem CtOk.get {m : List (Nat × Nat)} (h : CtOk D t m) {r x : Nat} (hx : lookT r m = some x) : x = D.cn t r := h.val _ (lookT_some hx)
theorem CtOk.put {m : List (Nat × Nat)} (h : CtOk D t m) {r : Nat} (hr : ok63 r) : CtOk D t (putT r (D.cn t r) m) :=
  ⟨h.keys.put hr _, fun q hq => by
    rcases mem_putT hq with rfl | hq
    · rfl
    · exact h.val q hq, fun k hk e => by
    have h1 := lookT_none.1 e
    have h2 : ∃ q ∈ m, q.1 = k := by
      cases hx : lookT k m with
      | none => exact absurd hx (h.has k hk)
      | some x => exact ⟨_, lookT_some hx, rfl⟩
    obtain ⟨q, hq, rfl⟩ := h2
    have : q.1 ∈ (putT r (D.cn t r) m).map (·.1) := putT_keys.2 (.inr (List.mem_map.2 ⟨q, hq, rfl⟩))
    obtain ⟨p, hp, hpe⟩ := List.mem_map.1 this
    exact h1 p hp hpe⟩
theorem CtOk.start (D : TS) (t : Tb) : CtOk D t [(0, 0), (1, 2 ^ D.n)] :=
  ⟨⟨by simp [Uniq], fun q hq => by simp at hq; rcases hq with rfl | rfl <;> simp [ok63]⟩, fun q hq => by
    simp only [List.mem_cons, List.not_mem_nil, or_false] at hq; rcases hq with rfl | rfl
    · exact (TS.cn_zero D t).symm
    · exact (TS.cn_one D t).symm, fun k hk => by
    obtain rfl | rfl : k = 0 ∨ k = 1 := by omega
    · simp [lookT]
    · simp [lookT]⟩
def CtR (D : TS) (t : Tb) (r : Nat) (md : Nat) (H : List Ent) : Value → List Ent → Prop := fun u H' =>
  ∃ m', u = natV (D.cn t r) ∧ CtOk D t m' ∧ tmap natV natV md m' :: H = H'
end Go.GL
namespace Go.GL
set_option linter.unusedVariables false
set_option linter.unusedSimpArgs false
variable {D : TS} {t t' t0 t1 t2 t3 t4 : Tb} {q a b r x K ev : Nat} {bb : Bool} {f : (Nat → Bool) → Bool} {m m' : List (Nat × Nat)}
structure CmR (D : TS) (ev : Nat) (bb : Bool) (t t' : Tb) (r x : Nat) : Prop where
  ext : Tb.Ext t t'
  ok : TbOk D t'
  ref : x < 2 + t'.sz
  val : ∀ s, t'.val s x = t.val (upS s ev bb) r
  lev : D.lv t r ≤ D.lv t' x
  size : t'.sz ≤ t.sz + 2 * 4 ^ (D.n - D.lv t r)
structure CoOk (D : TS) (ev : Nat) (bb : Bool) (t : Tb) (m : List (Nat × Nat)) : Prop where
  keys : KeysOk ok63 m
  k : ∀ q ∈ m, q.1 < 2 + t.sz
  v : ∀ q ∈ m, q.2 < 2 + t.sz
  val : ∀ q ∈ m, ∀ s, t.val s q.2 = t.val (upS s ev bb) q.1
  lev : ∀ q ∈ m, D.lv t q.1 ≤ D.lv t q.2
theorem CoOk.nil : CoOk D ev bb t [] := ⟨KeysOk.nil, fun _ h => (by cases h), fun _ h => (by cases h), fun _ h => (by cases h), fun _ h => (by cases h)⟩
theorem CoOk.ext (h : CoOk D ev bb t m) (he : Tb.Ext t t') : CoOk D ev bb t' m :=
  ⟨h.keys, fun q hq => he.ref (h.k q hq), fun q hq => he.ref (h.v q hq), fun q hq s => by rw [he.val (h.v q hq), he.val (h.k q hq)]; exact h.val q hq s, fun q hq => by rw [he.lv D (h.v q hq), he.lv D (h.k q hq)]; exact h.lev q hq⟩
theorem CoOk.put (h : CoOk D ev bb t' m) (hr : r < 2 + t.sz) (h63 : ok63 r) (hx : CmR D ev bb t t' r x) : CoOk D ev bb t' (putT r x m) := by
  refine ⟨h.keys.put h63 _, fun q hq => ?_, fun q hq => ?_, fun q hq s => ?_, fun q hq => ?_⟩ <;> rcases mem_putT hq with rfl | hq
  · exact hx.ext.ref hr
  · exact h.k q hq
  · exact hx.ref
  · exact h.v q hq
  · simp only; rw [hx.val, hx.ext.val hr]
  · exact h.val q hq s
  · simp only; rw [hx.ext.lv D hr]; exact hx.lev
  · exact h.lev q hq
theorem pow4 (k : Nat) : 1 ≤ 4 ^ k ∧ 2 ^ k ≤ 4 ^ k := ⟨Nat.pow_pos (by decide), Nat.pow_le_pow_left (by decide) k⟩
theorem pow42 {k : Nat} (hk : 1 ≤ k) : 4 * 4 ^ (k - 1) = 4 ^ k := by
  obtain ⟨j, rfl⟩ : ∃ j, k = j + 1 := ⟨k - 1, by omega⟩
  rw [Nat.add_sub_cancel, Nat.pow_succ]; omega
theorem CmR.same (hD : TSOk D) (h : TbOk D t) (hev : ev < D.n) (hr : r < 2 + t.sz) (hl : D.pl.getD ev 0 < D.lv t r) : CmR D ev bb t t r r :=
  ⟨Tb.Ext.refl _, h, hr, fun s => (ign_val hD h hev hr hl s bb).symm, Nat.le_refl _, by omega⟩
theorem CmR.old (h : TbOk D t) (hm : CoOk D ev bb t m) (hx : lookT r m = some x) : CmR D ev bb t t r x :=
  ⟨Tb.Ext.refl _, h, hm.v _ (lookT_some hx), hm.val _ (lookT_some hx), hm.lev _ (lookT_some hx), by omega⟩
def byN (bb : Bool) : Nat := bif bb then 1 else 0
theorem byN_lt (bb : Bool) : byN bb < 2 := by cases bb <;> decide
theorem val_byN (t : Tb) (s : Nat → Bool) : t.val s (byN bb) = bb := by
  cases bb
  · exact dval_zero _ _
  · exact dval_one _ _
theorem CmR.here (hD : TSOk D) (h : TbOk D t) (hev : ev < D.n) {i : Nat} (hi : i < t.ns.length) (hv : t.ns[i].v = ev) (hc : ChR D t t' (byN bb) t.ns[i].hi t.ns[i].lo x) : CmR D ev bb t t' (2 + i) x := by
  have NP := node_pow hD h hi
  have l0 := NP.llo; have l1 := NP.lhi; have l2 := NP.lt; have e := NP.pl
  have hlc : D.lv t (byN bb) = D.n := lvl_const _ _ _ (byN_lt bb)
  have hlev := hc.lev
  have hsz := hc.size
  have hml : D.lv t (2 + i) < min (min (D.lv t (byN bb)) (D.lv t t.ns[i].hi)) (D.lv t t.ns[i].lo) := by omega
  have hp := Nat.pow_le_pow_right (n := 2) (by decide) (show D.n - min (min (D.lv t (byN bb)) (D.lv t t.ns[i].hi)) (D.lv t t.ns[i].lo) ≤ D.n - D.lv t (2 + i) by omega)
  have hp4 := (pow4 (D.n - D.lv t (2 + i))).2
  rw [hv] at e
  refine ⟨hc.ext, hc.ok, hc.ref, fun s => ?_, by omega, by omega⟩
  have i1 : t.val (upS s ev bb) t.ns[i].hi = t.val s t.ns[i].hi := ign_val hD h hev NP.hi (by omega) s bb
  have i0 : t.val (upS s ev bb) t.ns[i].lo = t.val s t.ns[i].lo := ign_val hD h hev NP.lo (by omega) s bb
  rw [hc.val s, val_byN, NP.val, hv, upS_same, i1, i0]
theorem CmR.step (hD : TSOk D) (h : TbOk D t) (hev : ev < D.n) {i : Nat} (hi : i < t.ns.length) (hv : t.ns[i].v ≠ ev) {e x1 x0 : Nat}
    (h1 : MkOk D t t1 t.ns[i].v 0 1 e) (h2 : CmR D ev bb t1 t2 t.ns[i].hi x1) (h3 : CmR D ev bb t2 t3 t.ns[i].lo x0) (h4 : ChR D t3 t4 e x1 x0 x) : CmR D ev bb t t4 (2 + i) x := by
  have NP := node_pow hD h hi
  have l0 := NP.llo; have l1 := NP.lhi; have l2 := NP.lt; have ep := NP.pl
  have s1 := h1.size; have s2 := h2.size; have s3 := h3.size; have s4 := h4.size
  have e1 := h1.ext.lv D NP.hi
  have e2 := (h1.ext.trans h2.ext).lv D NP.lo
  have e3 := (h2.ext.trans h3.ext).lv D h1.ref
  have e4 := h3.ext.lv D h2.ref
  have v1 := h1.lev; have v2 := h2.lev; have v3 := h3.lev; have v4 := h4.lev
  have hml : D.lv t (2 + i) ≤ min (min (D.lv t3 e) (D.lv t3 x1)) (D.lv t3 x0) := by omega
  have hp := Nat.pow_le_pow_right (n := 2) (by decide) (show D.n - min (min (D.lv t3 e) (D.lv t3 x1)) (D.lv t3 x0) ≤ D.n - D.lv t (2 + i) by omega)
  have hp4 := (pow4 (D.n - D.lv t (2 + i))).2
  have hp42 := pow42 (k := D.n - D.lv t (2 + i)) (by omega)
  have q1 := Nat.pow_le_pow_right (n := 4) (by decide) (show D.n - D.lv t1 t.ns[i].hi ≤ D.n - D.lv t (2 + i) - 1 by omega)
  have q0 := Nat.pow_le_pow_right (n := 4) (by decide) (show D.n - D.lv t2 t.ns[i].lo ≤ D.n - D.lv t (2 + i) - 1 by omega)
  refine ⟨((h1.ext.trans h2.ext).trans h3.ext).trans h4.ext, h4.ok, h4.ref, fun s => ?_, by omega, by omega⟩
  rw [h4.val s, (h2.ext.trans h3.ext).val h1.ref, h1.val s, h3.ext.val h2.ref, h2.val s, h3.val s, h1.ext.val NP.hi, (h1.ext.trans h2.ext).val NP.lo, NP.val, upS_ne hv, show t.val s 1 = true from dval_one _ _, show t.val s 0 = false from dval_zero _ _]
  cases s t.ns[i].v <;> rfl
def CmG (D : TS) (ev : Nat) (bb : Bool) (t : Tb) (r : Nat) (md : Nat) (H : List Ent) : Value → List Ent → Prop := fun u H' =>
  ∃ t' m' x, u = natV x ∧ CmR D ev bb t t' r x ∧ CoOk D ev bb t' m' ∧ tabE D t' :: tmap natV natV md m' :: H = H'
def CpG (D : TS) (ev : Nat) (bb : Bool) (t : Tb) (r : Nat) (H : List Ent) : Value → List Ent → Prop := fun u H' =>
  ∃ t' x, u = natV x ∧ CmR D ev bb t t' r x ∧ tabE D t' :: H = H'
theorem Le.mid1 {e f g : Ent} {H : List Ent} : Le (e :: f :: g :: H) (f :: g :: e :: H) := Le.perm ((List.Perm.swap f e (g :: H)).trans (List.Perm.cons f (List.Perm.swap g e H)))
end Go.GL
namespace Go.GL
set_option linter.unusedVariables false
set_option linter.unusedSimpArgs false
variable {D : TS} {t t' t0 t1 t2 t3 t4 : Tb} {q a b r r' x y K ev j w : Nat} {bb : Bool}
def hiC (j c : Nat) (s : Nat → Bool) : Nat → Bool := fun i => if j ≤ i then c.testBit (i - j) else s i
theorem hiC_step (j c : Nat) (b : Bool) (s : Nat → Bool) : hiC j (2 * c + b.toNat) s = hiC (j + 1) c (upS s j b) := by
  funext i
  unfold hiC
  by_cases h1 : j + 1 ≤ i
  · rw [if_pos (by omega), if_pos h1, show i - j = (i - (j + 1)) + 1 by omega, Nat.testBit_succ]
    congr 1
    cases b <;> simp <;> omega
  · by_cases h2 : j ≤ i
    · obtain rfl : i = j := by omega
      rw [if_pos h2, if_neg h1, upS_same, Nat.sub_self, Nat.testBit_zero]
      cases b <;> simp <;> omega
    · rw [if_neg h2, if_neg h1, upS_ne (by omega)]
theorem hiC_nb (j z : Nat) : hiC j (z / 2 ^ j) (nb z) = nb z := by
  funext i
  unfold hiC
  split
  · rename_i h
    rw [Nat.testBit_div_two_pow, Nat.sub_add_cancel h]
  · rfl
theorem val_ne (hD : TSOk D) (h : TbOk D t) (hr : r < 2 + t.sz) (hne : r ≠ 0) : ∃ s, t.val s r = true := by
  apply Classical.byContradiction
  intro hn
  refine hne (canon' hD.op h.dok hr (by omega) fun s => ?_)
  rw [dval_zero]
  cases e : dval t.ns s r
  · rfl
  · exact absurd ⟨s, e⟩ hn
structure LsInv (D : TS) (t : Tb) (r : Nat) (t' : Tb) (r' j c : Nat) : Prop where
  ext : Tb.Ext t t'
  ok : TbOk D t'
  ref : r' < 2 + t'.sz
  ne : r' ≠ 0
  val : ∀ s, t'.val s r' = t.val (hiC j c s) r
  min : ∀ z, z < 2 ^ D.n → z / 2 ^ j < c → t.val (nb z) r = false
  lt : c < 2 ^ (D.n - j)
theorem LsInv.start (hD : TSOk D) (h : TbOk D t) (hr : r < 2 + t.sz) (hne : r ≠ 0) : LsInv D t r t r D.n 0 := by
  refine ⟨Tb.Ext.refl _, h, hr, hne, fun s => ?_, fun z _ hz => absurd hz (Nat.not_lt_zero _), by simp⟩
  refine dval_agree hD.op h.dok.dg r hr _ _ fun v hv _ => ?_
  unfold hiC
  rw [if_neg (Nat.not_le.2 hv)]
theorem LsInv.zero (h : LsInv D t r t' r' (j + 1) w) (hj : j < D.n) (hc : CmR D j false t' t1 r' x) (hx : x ≠ 0) : LsInv D t r t1 x j (2 * w) := by
  refine ⟨h.ext.trans hc.ext, hc.ok, hc.ref, hx, fun s => ?_, fun z hz hl => ?_, ?_⟩
  · have := hiC_step j w false s
    simp only [Bool.toNat_false, Nat.add_zero] at this
    rw [hc.val, h.val, this]
  · refine h.min z hz ?_
    rw [Nat.pow_succ, ← Nat.div_div_eq_div_mul]
    omega
  · have := h.lt
    rw [show D.n - j = (D.n - (j + 1)) + 1 by omega, Nat.pow_succ]
    omega
theorem LsInv.one (hD : TSOk D) (h : LsInv D t r t' r' (j + 1) w) (hj : j < D.n) (hc : CmR D j false t' t1 r' 0) (hc2 : CmR D j true t1 t2 r' y) : LsInv D t r t2 y j (2 * w + 1) := by
  have hz0 : ∀ s, t'.val (upS s j false) r' = false := fun s => by rw [← hc.val]; exact dval_zero _ _
  have v2 : ∀ s, t2.val s y = t'.val (upS s j true) r' := fun s => by rw [hc2.val, hc.ext.val h.ref]
  refine ⟨(h.ext.trans hc.ext).trans hc2.ext, hc2.ok, hc2.ref, fun e => ?_, fun s => ?_, fun z hz hl => ?_, ?_⟩
  · subst e
    obtain ⟨s, hs⟩ := val_ne hD h.ok h.ref h.ne
    have hsplit : s = upS s j (s j) := by funext i; unfold upS; split
                                          · rename_i e; rw [e]
                                          · rfl
    cases hb : s j
    · rw [hb] at hsplit; rw [hsplit, hz0] at hs; cases hs
    · rw [hb] at hsplit
      have := v2 s
      rw [← hsplit, hs] at this
      rw [show t2.val s 0 = false from dval_zero _ _] at this; cases this
  · have := hiC_step j w true s
    simp only [Bool.toNat_true] at this
    rw [v2, h.val, this]
  · have e1 : z / 2 ^ (j + 1) = z / 2 ^ j / 2 := by rw [Nat.pow_succ, ← Nat.div_div_eq_div_mul]
    by_cases hlt : z / 2 ^ (j + 1) < w
    · exact h.min z hz hlt
    · have e2 : z / 2 ^ (j + 1) = w := by omega
      have e3 : z / 2 ^ j = 2 * w + Bool.toNat false := by simp; omega
      have e4 := hiC_nb j z
      rw [e3, hiC_step] at e4
      rw [← e4, ← h.val]
      exact hz0 _
  · have := h.lt
    rw [show D.n - j = (D.n - (j + 1)) + 1 by omega, Nat.pow_succ]
    omega
structure LsOk (D : TS) (t : Tb) (r z : Nat) : Prop where
  lt : z < 2 ^ D.n
  val : t.val (nb z) r = true
  min : ∀ y, y < z → t.val (nb y) r = false
theorem LsInv.fin (hD : TSOk D) (h : LsInv D t r t' r' 0 w) : LsOk D t r w := by
  obtain ⟨s, hs⟩ := val_ne hD h.ok h.ref h.ne
  have hl := h.lt
  rw [Nat.sub_zero] at hl
  refine ⟨hl, ?_, fun y hy => h.min y (by omega) (by simpa using hy)⟩
  rw [h.val] at hs
  have : hiC 0 w s = nb w := by funext i; simp [hiC]
  rw [this] at hs
  exact hs
end Go.GL
namespace Go.GL
set_option linter.unusedVariables false
set_option linter.unusedSimpArgs false
variable {D : TS} {t t' t0 t1 t2 t3 t4 : Tb} {q a b r r' x y K ev j w : Nat} {bb : Bool}
theorem szB {a k N : Nat} (h : a ≤ N - k) (hk : k ≤ N) : a + k ≤ N := by omega
structure ExOk (D : TS) (t : Tb) (dn : List DN) (m : List (Nat × Nat)) : Prop where
  keys : KeysOk ok63 m
  k : ∀ q ∈ m, q.1 < 2 + t.sz
  v : ∀ q ∈ m, q.2 < 2 + dn.length
  val : ∀ q ∈ m, ∀ s, dval dn s q.2 = t.val s q.1
  lev : ∀ q ∈ m, lvl D.n D.pl dn q.2 = D.lv t q.1
  has : ∀ k, k < 2 → lookT k m ≠ none
structure ExR (D : TS) (t : Tb) (dn dn' : List DN) (r x : Nat) : Prop where
  ext : ∃ l, dn' = dn ++ l
  ok : DgOk D.n D.pl dn'
  ref : x < 2 + dn'.length
  val : ∀ s, dval dn' s x = t.val s r
  lev : lvl D.n D.pl dn' x = D.lv t r
  size : dn'.length + 1 ≤ dn.length + 2 ^ (D.n - D.lv t r)
theorem ExOk.start (h : TbOk D t) : ExOk D t [] [(0, 0), (1, 1)] := by
  refine ⟨⟨by simp [Uniq], fun q hq => ?_⟩, fun q hq => ?_, fun q hq => ?_, fun q hq s => ?_, fun q hq => ?_, fun k hk => ?_⟩
  case refine_6 =>
    obtain rfl | rfl : k = 0 ∨ k = 1 := by omega
    · simp [lookT]
    · simp [lookT]
  all_goals
    simp only [List.mem_cons, List.not_mem_nil, or_false] at hq
    rcases hq with rfl | rfl
  · simp [ok63]
  · simp [ok63]
  · simp only; omega
  · simp only; omega
  · simp
  · simp
  · rw [dval_zero]; exact (dval_zero _ _).symm
  · rw [dval_one]; exact (dval_one _ _).symm
  · rfl
  · rfl
theorem ExOk.ext {dn dn' : List DN} {m : List (Nat × Nat)} (h : ExOk D t dn m) (he : ∃ l, dn' = dn ++ l) : ExOk D t dn' m := by
  obtain ⟨l, rfl⟩ := he
  exact ⟨h.keys, h.k, fun q hq => by have := h.v q hq; simp; omega, fun q hq s => by rw [dval_ext _ _ _ (h.v q hq)]; exact h.val q hq s, fun q hq => by rw [lvl_ext _ _ _ _ (h.v q hq)]; exact h.lev q hq, h.has⟩
theorem has_putT {κ ν : Type} [DecidableEq κ] {m : List (κ × ν)} {k k' : κ} {v : ν} (h : lookT k m ≠ none) : lookT k (putT k' v m) ≠ none := fun e => by
  have h1 := lookT_none.1 e
  have h2 : ∃ q ∈ m, q.1 = k := by
    cases hx : lookT k m with
    | none => exact absurd hx h
    | some x => exact ⟨_, lookT_some hx, rfl⟩
  obtain ⟨q, hq, rfl⟩ := h2
  have : q.1 ∈ (putT k' v m).map (·.1) := putT_keys.2 (.inr (List.mem_map.2 ⟨q, hq, rfl⟩))
  obtain ⟨p, hp, hpe⟩ := List.mem_map.1 this
  exact h1 p hp hpe
theorem ExOk.put {dn dn' : List DN} {m : List (Nat × Nat)} (h : ExOk D t dn' m) (hr : r < 2 + t.sz) (h63 : ok63 r) (hx : ExR D t dn dn' r x) : ExOk D t dn' (putT r x m) := by
  refine ⟨h.keys.put h63 _, fun q hq => ?_, fun q hq => ?_, fun q hq s => ?_, fun q hq => ?_, fun k hk => has_putT (h.has k hk)⟩ <;> rcases mem_putT hq with rfl | hq
  · exact hr
  · exact h.k q hq
  · exact hx.ref
  · exact h.v q hq
  · exact hx.val s
  · exact h.val q hq s
  · exact hx.lev
  · exact h.lev q hq
theorem ExR.old {dn : List DN} {m : List (Nat × Nat)} (hd : DgOk D.n D.pl dn) (h : ExOk D t dn m) (hx : lookT r m = some x) : ExR D t dn dn r x :=
  ⟨⟨[], by simp⟩, hd, h.v _ (lookT_some hx), h.val _ (lookT_some hx), h.lev _ (lookT_some hx), by have := Nat.two_pow_pos (D.n - D.lv t r); omega⟩
theorem ExR.step (hD : TSOk D) (h : TbOk D t) {i : Nat} (hi : i < t.ns.length) {dn d1 d2 : List DN} {x0 x1 : Nat} (h0 : ExR D t dn d1 t.ns[i].lo x0) (h1 : ExR D t d1 d2 t.ns[i].hi x1) : ExR D t dn (d2 ++ [⟨t.ns[i].v, x0, x1⟩]) (2 + i) (2 + d2.length) := by
  have NP := node_pow hD h hi
  have l0 := NP.llo; have l1 := NP.lhi; have l2 := NP.lt; have ep := NP.pl
  have q0 := NP.plo; have q1 := NP.phi; have q2 := NP.p
  have s0 := h0.size; have s1 := h1.size
  obtain ⟨e0, h0e⟩ := h0.ext
  obtain ⟨e1, h1e⟩ := h1.ext
  have r0 : x0 < 2 + d2.length := by have := h0.ref; rw [h1e]; simp; omega
  have v0 : ∀ s, dval d2 s x0 = t.val s t.ns[i].lo := fun s => by rw [h1e, dval_ext _ _ _ h0.ref]; exact h0.val s
  have lv0 : lvl D.n D.pl d2 x0 = D.lv t t.ns[i].lo := by rw [h1e, lvl_ext _ _ _ _ h0.ref]; exact h0.lev
  refine ⟨⟨e0 ++ e1 ++ [⟨t.ns[i].v, x0, x1⟩], by rw [h1e, h0e]; simp⟩, h1.ok.snoc ⟨NP.v, r0, h1.ref, by simp only; rw [lv0]; omega, by simp only; rw [h1.lev]; omega⟩, by simp, fun s => ?_, ?_, by simp; omega⟩
  · rw [dval_snoc, NP.val, v0, h1.val]
  · rw [lvl_node _ _ _ (by simp), ep]
    simp
def exE (D : TS) (bo mr tD tN : Nat) (oa : Option Nat) (oc : Nat) (dn : List DN) (na : Option Nat) (nc : Nat) (m : List (Nat × Nat)) (H : List Ent) : List Ent :=
  tmap natV natV mr m :: row (some bo) tD 3 1 [slV oa 0 D.n oc, slV na 0 dn.length nc, natV 0] :: row na tN 3 nc (dnsV dn) :: H
def ExG (D : TS) (t : Tb) (bo mr tD tN : Nat) (oa : Option Nat) (oc : Nat) (dn : List DN) (r : Nat) (H : List Ent) : Value → List Ent → Prop := fun u H' =>
  ∃ dn' na nc m x, u = natV x ∧ ExR D t dn dn' r x ∧ ExOk D t dn' m ∧ (dn' ≠ [] → ∃ b, na = some b) ∧ exE D bo mr tD tN oa oc dn' na nc m H = H'
structure DgR (n : Nat) (pl : List Nat) (dn : List DN) (rt : Nat) (f : (Nat → Bool) → Bool) : Prop where
  ok : DgOk n pl dn
  ref : rt < 2 + dn.length
  val : ∀ s, dval dn s rt = f s
  size : dn.length ≤ 256
def DgG (n : Nat) (ord pl : List Nat) (tI tN : Nat) (f : (Nat → Bool) → Bool) (H : List Ent) : Value → List Ent → Prop := fun u H' =>
  ∃ dn rt oa oc na nc, u = .agg (List.toArray [slV oa 0 n oc, slV na 0 dn.length nc, natV rt]) ∧ DgR n pl dn rt f ∧ (dn ≠ [] → ∃ b, na = some b) ∧ row na tN 3 nc (dnsV dn) :: row oa tI 1 oc (nats ord) :: H = H'
structure ImOk (D : TS) (t t' : Tb) (dn : List DN) (rs : List Nat) (k : Nat) : Prop where
  len : rs.length = 2 + dn.length
  ext : Tb.Ext t t'
  ok : TbOk D t'
  size : t'.sz ≤ t.sz + k
  ref : ∀ j, j < 2 + k → rs.getD j 0 < 2 + t'.sz
  val : ∀ j, j < 2 + k → ∀ s, t'.val s (rs.getD j 0) = dval dn s j
  lev : ∀ j, j < 2 + k → lvl D.n D.pl dn j ≤ D.lv t' (rs.getD j 0)
theorem ImOk.start (hD : TSOk D) (h : TbOk D t) (dn : List DN) : ImOk D t t dn ((List.replicate (2 + dn.length) 0).set 1 1) 0 := by
  have g0 : ((List.replicate (2 + dn.length) 0).set 1 1).getD 0 0 = 0 := by rw [Nat.add_comm 2]; rfl
  have g1 : ((List.replicate (2 + dn.length) 0).set 1 1).getD 1 0 = 1 := by rw [Nat.add_comm 2]; rfl
  refine ⟨by simp, Tb.Ext.refl _, h, by omega, fun j hj => ?_, fun j hj s => ?_, fun j hj => ?_⟩ <;> obtain rfl | rfl : j = 0 ∨ j = 1 := by omega
  · rw [g0]; omega
  · rw [g1]; omega
  · rw [g0, dval_zero]; exact dval_zero _ _
  · rw [g1, dval_one]; exact dval_one _ _
  · rw [g0]; exact Nat.le_refl _
  · rw [g1]; exact Nat.le_refl _
theorem ImOk.step {dn : List DN} {rs : List Nat} {k : Nat} (hd : DgOk D.n D.pl dn) (h : ImOk D t t1 dn rs k) (hk : k < dn.length) (hm : MkOk D t1 t2 dn[k].v (rs.getD dn[k].lo 0) (rs.getD dn[k].hi 0) x) : ImOk D t t2 dn (rs.set (2 + k) x) (k + 1) := by
  have d := hd k hk
  have a := d.lo; have b := d.hi
  have hl := h.len
  have g : ∀ j, (rs.set (2 + k) x).getD j 0 = if j = 2 + k then x else rs.getD j 0 := fun j => by
    by_cases e : j = 2 + k
    · subst e
      rw [if_pos rfl, List.getD_eq_getElem?_getD, List.getElem?_set_self (by omega)]
      rfl
    · rw [if_neg e]; simp [List.getD_eq_getElem?_getD, List.getElem?_set, Ne.symm e]
  refine ⟨by simpa using hl, h.ext.trans hm.ext, hm.ok, by have := h.size; have := hm.size; omega, fun j hj => ?_, fun j hj s => ?_, fun j hj => ?_⟩ <;> rw [g] <;> split
  · exact hm.ref
  · exact hm.ext.ref (h.ref j (by omega))
  · rename_i e; subst e
    rw [hm.val, h.val _ a, h.val _ b, dval_node _ _ hk a b]
  · rw [hm.ext.val (h.ref j (by omega))]; exact h.val j (by omega) s
  · rename_i e; subst e
    rw [lvl_node _ _ _ hk]; exact hm.lev
  · rw [hm.ext.lv D (h.ref j (by omega))]; exact h.lev j (by omega)
structure TX (o : List Nat) where
  oa : OA (nats o)
  oc : Nat
  pa : Nat
  bu : Nat
  bm : Nat
  bt : Nat
def PlOk (n : Nat) (ord zs : List Nat) (k : Nat) : Prop := zs.length = n ∧ ∀ j, j < k → zs.getD (ord.getD j 0) 0 = j
theorem PlOk.step {n : Nat} {ord pl zs : List Nat} (ho : OP n ord pl) {k : Nat} (hk : k < n) (h : PlOk n ord zs k) : PlOk n ord (zs.set (ord.getD k 0) k) (k + 1) := by
  refine ⟨by simpa using h.1, fun j hj => ?_⟩
  have a := ho.op k hk
  by_cases e : j = k
  · subst e
    rw [List.getD_eq_getElem?_getD, List.getElem?_set_self (by rw [h.1]; exact a.1)]
    rfl
  · have b := ho.op j (by omega)
    have hne : ord.getD k 0 ≠ ord.getD j 0 := fun e2 => e (by rw [← b.2, ← e2, a.2])
    have := h.2 j (by omega)
    rw [List.getD_eq_getElem?_getD, List.getElem?_set_ne hne, ← List.getD_eq_getElem?_getD]
    exact this
theorem PlOk.all {n : Nat} {ord pl zs : List Nat} (ho : OP n ord pl) (h : PlOk n ord zs n) : zs = pl := by
  apply List.ext_getElem (by rw [h.1, ho.lp])
  intro i h1 h2
  have hi : i < n := by rw [← h.1]; exact h1
  have a := ho.po i hi
  have b := h.2 _ a.1
  rw [a.2] at b
  have e1 : pl.getD i 0 = pl[i] := by simp [h2]
  have e2 : zs.getD i 0 = zs[i] := by simp [h1]
  rw [← e1, ← e2, b]
end Go.GL
namespace Go.GL
set_option linter.unusedVariables false
set_option linter.unusedSimpArgs false
theorem nats_snoc (l : List Nat) (a : Nat) : nats (l ++ [a]) = nats l ++ [natV a] := by simp
structure VOk (v N : Nat) (ev : List Nat) (sn : List Bool) : Prop where
  len : sn.length = N
  nd : ev.Nodup
  mem : ∀ i ∈ ev, i < v ∧ sn.getD i false = true
  all : ∀ i, i < v → sn.getD i false = true → i ∈ ev
  cnt : ev.length ≤ sn.countP id
theorem VOk.start {v N : Nat} (h : v ≤ N) : VOk v N [] (List.replicate N false) :=
  ⟨by simp, List.nodup_nil, fun i hi => (by cases hi), fun i hi hs => by simp [List.getD_eq_getElem?_getD, List.getElem?_replicate] at hs; split at hs <;> simp at hs, by simp⟩
theorem VOk.le {v N : Nat} {ev sn} (h : VOk v N ev sn) : ev.length ≤ N := by
  have := h.cnt; have := List.countP_le_length (p := id) (l := sn); have := h.len; omega
theorem getD_set {sn : List Bool} {a i : Nat} (ha : a < sn.length) : (sn.set a true).getD i false = (decide (i = a) || sn.getD i false) := by
  by_cases e : i = a
  · subst e; simp [List.getD_eq_getElem?_getD, ha]
  · simp [List.getD_eq_getElem?_getD, List.getElem?_set, Ne.symm e, e]
theorem cnt_set {sn : List Bool} {a : Nat} (ha : a < sn.length) (hf : sn.getD a false = false) : (sn.set a true).countP id = sn.countP id + 1 := by
  have hf' : sn[a] = false := by simpa [ha] using hf
  rw [List.countP_set ha]
  simp [hf']
theorem VOk.event {v N : Nat} {ev sn} (h : VOk v N ev sn) (hv : v ≤ N) {a : Nat} (ha : a < v) (hf : sn.getD a false = false) : VOk v N (ev ++ [a]) (sn.set a true) := by
  have hl := h.len
  have ha' : a < sn.length := by omega
  refine ⟨by simpa using hl, ?_, fun i hi => ?_, fun i hi hs => ?_, ?_⟩
  · rw [List.nodup_append]
    exact ⟨h.nd, by simp, fun x hx y hy => by simp at hy; subst hy; exact fun e => by subst e; have := (h.mem _ hx).2; rw [hf] at this; cases this⟩
  · rcases List.mem_append.1 hi with hi | hi
    · have := h.mem i hi
      exact ⟨this.1, by rw [getD_set ha', this.2]; simp⟩
    · simp at hi; subst hi; exact ⟨ha, by rw [getD_set ha']; simp⟩
  · rw [getD_set ha'] at hs
    by_cases e : i = a
    · subst e; simp
    · simp [e] at hs; exact List.mem_append_left _ (h.all i hi (by simpa using hs))
  · rw [cnt_set ha' hf, List.length_append]; have := h.cnt; simp; omega
theorem VOk.node {v N : Nat} {ev sn} (h : VOk v N ev sn) {a : Nat} (ha : v ≤ a) (haN : a < N) (hf : sn.getD a false = false) : VOk v N ev (sn.set a true) := by
  have hl := h.len
  have ha' : a < sn.length := by omega
  refine ⟨by simpa using hl, h.nd, fun i hi => ?_, fun i hi hs => ?_, ?_⟩
  · have := h.mem i hi
    exact ⟨this.1, by rw [getD_set ha', this.2]; simp⟩
  · rw [getD_set ha'] at hs
    exact h.all i hi (by simpa [show i ≠ a by omega] using hs)
  · rw [cnt_set ha' hf]; have := h.cnt; omega
def plOf (n : Nat) (o : List Nat) : List Nat := (List.range n).map (fun i => o.idxOf i)
theorem OP.of {n : Nat} {o : List Nat} (nd : o.Nodup) (lt : ∀ i ∈ o, i < n) (all : ∀ i, i < n → i ∈ o) : OP n o (plOf n o) := by
  have hp : o.Perm (List.range n) := (List.perm_ext_iff_of_nodup nd List.nodup_range).2 fun a => ⟨fun h => List.mem_range.2 (lt a h), fun h => all a (List.mem_range.1 h)⟩
  have hl : o.length = n := by simpa using hp.length_eq
  have g : ∀ i, i < n → (plOf n o).getD i 0 = o.idxOf i := fun i hi => by simp [plOf, hi]
  refine ⟨hl, by simp [plOf], fun k hk => ?_, fun i hi => ?_⟩
  · have hk' : k < o.length := by omega
    have e : o.getD k 0 = o[k] := by simp [hk']
    have hlt := lt _ (List.getElem_mem hk')
    rw [e, g _ hlt]
    exact ⟨hlt, nd.idxOf_getElem k hk'⟩
  · have hx : o.idxOf i < o.length := List.idxOf_lt_length_iff.2 (all i hi)
    rw [g i hi]
    refine ⟨by omega, ?_⟩
    have : o.getD (o.idxOf i) 0 = o[o.idxOf i] := by simp [hx]
    rw [this]
    exact List.getElem_idxOf hx
def SnOk (n : Nat) (o : List Nat) (sn : List Bool) (k : Nat) : Prop := sn.length = n ∧ ∀ j, k ≤ j → j < n → sn.getD (o.getD j 0) false = false
theorem SnOk.step {n : Nat} {o pl : List Nat} (ho : OP n o pl) {sn : List Bool} {k : Nat} (hk : k < n) (h : SnOk n o sn k) : SnOk n o (sn.set (o.getD k 0) true) (k + 1) := by
  have a := ho.op k hk
  refine ⟨by simpa using h.1, fun j hj hjn => ?_⟩
  have b := ho.op j hjn
  have hne : o.getD j 0 ≠ o.getD k 0 := fun e => by rw [e, a.2] at b; omega
  rw [getD_set (by rw [h.1]; exact a.1), h.2 j (by omega) hjn, Bool.or_false]
  exact decide_eq_false hne
def evAll (ev : List Nat) (sn : List Bool) (k : Nat) : List Nat := ev ++ (List.range k).filter (fun i => !sn.getD i false)
theorem evAll_zero (ev : List Nat) (sn : List Bool) : evAll ev sn 0 = ev := by simp [evAll]
theorem evAll_seen {ev : List Nat} {sn : List Bool} {k : Nat} (h : sn.getD k false = true) : evAll ev sn (k + 1) = evAll ev sn k := by
  unfold evAll; rw [List.range_succ, List.filter_append]; simp only [List.filter_cons, h]; simp
theorem evAll_new {ev : List Nat} {sn : List Bool} {k : Nat} (h : sn.getD k false = false) : evAll ev sn (k + 1) = evAll ev sn k ++ [k] := by
  unfold evAll; rw [List.range_succ, List.filter_append]; simp only [List.filter_cons, h]; simp
theorem evAll_le {v N : Nat} {ev sn} (h : VOk v N ev sn) (k : Nat) : (evAll ev sn k).length ≤ N + k := by
  unfold evAll
  have := h.le
  have h2 := List.length_filter_le (fun i => !sn.getD i false) (List.range k)
  simp at h2 ⊢
  omega
theorem evAll_op {v N : Nat} {ev sn} (h : VOk v N ev sn) : OP v (evAll ev sn v) (plOf v (evAll ev sn v)) := by
  refine OP.of ?_ (fun i hi => ?_) (fun i hi => ?_)
  · unfold evAll
    rw [List.nodup_append]
    refine ⟨h.nd, List.Pairwise.filter _ List.nodup_range, fun a ha b hb e => ?_⟩
    subst e
    have := (List.mem_filter.1 hb).2
    rw [(h.mem a ha).2] at this
    cases this
  · rcases List.mem_append.1 hi with hi | hi
    · exact (h.mem i hi).1
    · exact List.mem_range.1 (List.mem_filter.1 hi).1
  · unfold evAll
    cases hs : sn.getD i false
    · exact List.mem_append_right _ (List.mem_filter.2 ⟨List.mem_range.2 hi, by rw [hs]; rfl⟩)
    · exact List.mem_append_left _ (h.all i hi hs)
def NewT (T : TypeId) (F : Fm) (e : Option Int) (H : List Ent) : Value → List Ent → Prop := fun u H' =>
  ∃ a c N, u = .tuple (List.toArray [.agg (List.toArray [.int .i64 F.vars, slV a 0 F.nodes.length c, .int .i64 F.top]), errV T e]) ∧ RNodes N a 0 F.nodes ∧ N ++ H = H'
end Go.GL
namespace Go.GL
set_option linter.unusedVariables false
set_option linter.unusedSimpArgs false
variable {D : TS} {t t' t0 t1 t2 t3 t4 : Tb} {q a b r r' x y K ev j w : Nat} {bb : Bool}
def zOf (v : Nat) (s : Nat → Bool) : Nat := setOf ((List.range v).map s) v
theorem zOf_lt (v : Nat) (s : Nat → Bool) : zOf v s < 2 ^ v := setOf_lt _ _
theorem zOf_bit {v i : Nat} (s : Nat → Bool) (h : i < v) : (zOf v s).testBit i = s i := by
  unfold zOf
  rw [setOf_testBit]
  simp [h]
theorem zOf_nb {v z : Nat} (h : z < 2 ^ v) : zOf v (nb z) = z := by
  apply Nat.eq_of_testBit_eq
  intro i
  by_cases hi : i < v
  · exact zOf_bit _ hi
  · have p := Nat.pow_le_pow_right (n := 2) (by decide) (show v ≤ i by omega)
    rw [Nat.testBit_lt_two_pow (Nat.lt_of_lt_of_le (zOf_lt v _) p), Nat.testBit_lt_two_pow (Nat.lt_of_lt_of_le h p)]
def Fm.valS (F : Fm) (v : Nat) (s : Nat → Bool) (j : Nat) : Bool := F.val (zOf v s : Nat) j
theorem Fm.valS_event {F : Fm} {v : Nat} (hv : F.vars = v) (h24 : v ≤ 24) (s : Nat → Bool) {j : Nat} (hj : j < v) : F.valS v s j = s j := by
  unfold Fm.valS
  rw [Fm.val_event F _ (by rw [hv]; exact hj), bitB_nat (pow_lt63 h24 (zOf_lt v s)) (by omega), zOf_bit s hj]
structure BdOk (D : TS) (F : Fm) (t : Tb) (rs : List Nat) (M k : Nat) : Prop where
  len : rs.length = M
  ok : TbOk D t
  size : t.sz ≤ 65536 * k
  ref : ∀ j, j < k → rs.getD j 0 < 2 + t.sz
  val : ∀ j, j < k → ∀ s, t.val s (rs.getD j 0) = F.valS D.n s j
theorem BdOk.start (D : TS) (F : Fm) (M : Nat) : BdOk D F Tb.new (List.replicate M 0) M 0 := ⟨by simp, TbOk.new D, by simp [Tb.sz], fun j hj => by omega, fun j hj => by omega⟩
theorem BdOk.step {F : Fm} {rs : List Nat} {M k : Nat} (h : BdOk D F t rs M k) (hk : k < M) {K : Nat} (hK : K ≤ 65536) (hr : OpR D t t' x (fun s => F.valS D.n s k) K) : BdOk D F t' (rs.set k x) M (k + 1) := by
  have hl := h.len
  have g : ∀ j, (rs.set k x).getD j 0 = if j = k then x else rs.getD j 0 := fun j => by
    by_cases e : j = k
    · subst e
      rw [if_pos rfl, List.getD_eq_getElem?_getD, List.getElem?_set_self (by omega)]
      rfl
    · rw [if_neg e]; simp [List.getD_eq_getElem?_getD, List.getElem?_set, Ne.symm e]
  refine ⟨by simpa using hl, hr.ok, by have := h.size; have := hr.size; omega, fun j hj => ?_, fun j hj s => ?_⟩ <;> rw [g] <;> split
  · exact hr.ref
  · exact hr.ext.ref (h.ref j (by omega))
  · rename_i e; subst e; exact hr.val s
  · rw [hr.ext.val (h.ref j (by omega))]; exact h.val j (by omega) s
def argR (rs : List Nat) (args : List Int) : List Nat := args.map (fun a => rs.getD a.toNat 0)
theorem argR_succ {rs : List Nat} {args : List Int} {k : Nat} (hk : k < args.length) : argR rs (args.take (k + 1)) = argR rs (args.take k) ++ [rs.getD args[k].toNat 0] := by
  unfold argR; rw [List.take_succ_eq_append_getElem hk, List.map_append]; rfl
theorem BdOk.node {F : Fm} (hg : F.Good) (hv : F.vars = D.n) {rs : List Nat} {M i : Nat} (h : BdOk D F t rs M (D.n + i)) (hi : i < F.nodes.length) : (∀ x ∈ argR rs F.nodes[i].args, x < 2 + t.sz) ∧ ∀ s, F.valS D.n s (D.n + i) = nodeVal F.nodes[i] (cntV t s (argR rs F.nodes[i].args) : Nat) := by
  have hfi := hg.fits i hi
  have hin : ∀ a ∈ F.nodes[i].args, a.toNat < D.n + i := fun a ha => by have := hfi.args a ha; omega
  refine ⟨fun x hx => ?_, fun s => ?_⟩
  · obtain ⟨a, ha, rfl⟩ := List.mem_map.1 hx
    exact h.ref _ (hin a ha)
  · have hvn : F.vars.toNat = D.n := by omega
    have e := Fm.val_node hg (zOf D.n s : Nat) hi
    rw [hvn] at e
    unfold Fm.valS
    rw [e]
    congr 2
    unfold cntOf cntV argR
    rw [List.countP_map]
    exact List.countP_congr fun a ha => by simp only [Function.comp]; rw [h.val _ (hin a ha) s]; rfl
theorem Fm.trim_none {F : Fm} (hg : F.Good) (h : F.sizeN = 0) : F.trim.nodes = [] ∧ F.trim.top = F.top := by
  have h1 := (Fm.trim_sizeN hg).2
  rw [(Fm.trim_sizeN hg).1, h] at h1
  have hn : F.trim.nodes = [] := List.eq_nil_of_length_eq_zero h1.symm
  refine ⟨hn, ?_⟩
  have ht := (Fm.trim_good hg).topLt
  rw [hn, Fm.trim_top, Fm.trim_vars] at ht
  have htl := hg.topLt
  have hb := Fm.below_top hg
  have hg0 := hg.v0
  rw [Fm.trim_top]
  by_cases hlt : F.top.toNat < F.vars.toNat
  · rw [F.ro_event hlt]; omega
  · obtain ⟨i, hi⟩ : ∃ i, F.top.toNat = F.vars.toNat + i := ⟨F.top.toNat - F.vars.toNat, by omega⟩
    rw [hi] at hb
    have := F.ro_node (k := i) (by omega) hb
    rw [hi, this] at ht
    simp at ht
    omega
theorem Fm.trim_len_le {F : Fm} : F.trim.nodes.length ≤ F.nodes.length := by rw [Fm.trim_nodes]; exact trS_le _
theorem Fm.trim_valS {F : Fm} (hg : F.Good) (v : Nat) (s : Nat → Bool) : F.trim.valS v s F.trim.top.toNat = F.value (zOf v s : Nat) := by
  unfold Fm.valS
  rw [← Fm.value_eq, Fm.trim_value hg]
theorem RNodes.nil {H : List Ent} {a sp : Option Nat} {off : Nat} : RNodes H a off [] sp := .inl rfl
end Go.GL
namespace Go.GL
set_option linter.unusedVariables false
set_option linter.unusedSimpArgs false
variable {D : TS} {t t' t0 t1 t2 t3 t4 : Tb}
abbrev fc3 (F : Fm) (na : Option Nat) (no cap : Nat) (sp : Option Nat) : List Value := [.int .i64 F.vars, slV na no F.nodes.length cap sp, .int .i64 F.top]
def pk {α : Type} (k : Nat) (a b : α) : α := if k = 0 then a else b
theorem pick_two {H : List Ent} {F G : Fm} {na nb sa sb : Option Nat} {no cap mo cbp : Nat} (hF : RF H (.agg (List.toArray (fc3 F na no cap sa))) F) (hG : RF H (.agg (List.toArray (fc3 G nb mo cbp sb))) G) {b E : Nat} {k : Nat} (hk : k < 2) :
    ∃ X xa xo xc xs, X = pk k F G ∧ RF H (.agg (List.toArray (fc3 X xa xo xc xs))) X ∧ ∀ {H' : List Ent}, Rd H' b 0 [.int .i64 F.vars, slV na no F.nodes.length cap sa, .int .i64 F.top, .int .i64 G.vars, slV nb mo G.nodes.length cbp sb, .int .i64 G.top] → Rd H' b (k * 3) (fc3 X xa xo xc xs) := by
  obtain rfl | rfl : k = 0 ∨ k = 1 := by omega
  · refine ⟨F, na, no, cap, sa, rfl, hF, fun {H'} h w hM j v hj => h w hM j v ?_⟩
    match j, hj with
    | 0, hj => exact hj
    | 1, hj => exact hj
    | 2, hj => exact hj
  · refine ⟨G, nb, mo, cbp, sb, rfl, hG, fun {H'} h w hM j v hj => ?_⟩
    have := h w hM (3 + j) v (by match j, hj with
      | 0, hj => exact hj
      | 1, hj => exact hj
      | 2, hj => exact hj)
    rwa [Nat.zero_add] at this
theorem pk_all {α : Type} {p : α → Prop} {k : Nat} {a b : α} (ha : p a) (hb : p b) : p (pk k a b) := by unfold pk; split <;> assumption
def difB (F G : Fm) (z : Nat) : Bool := F.value (z : Nat) != G.value (z : Nat)
def cntZ (n : Nat) (p : Nat → Bool) : Nat := (List.range (2 ^ n)).countP p
structure DfOk (F G : Fm) (n : Nat) (eq : Bool) (st ct gn ls : Nat) : Prop where
  eq1 : eq = true → (∀ z, z < 2 ^ n → F.value (z : Nat) = G.value (z : Nat)) ∧ ct = 0 ∧ gn = 0 ∧ ls = 0
  st1 : eq = false → st < 2 ^ n ∧ difB F G st = true ∧ ∀ y, y < st → difB F G y = false
  ct1 : eq = false → ct = cntZ n (difB F G)
  gn1 : eq = false → gn = cntZ n (fun z => G.value (z : Nat) && !F.value (z : Nat))
  ls1 : eq = false → ls = cntZ n (fun z => F.value (z : Nat) && !G.value (z : Nat))
abbrev dfV (eq : Bool) (st ct gn ls : Nat) : Value := .agg (List.toArray [.bool eq, natV st, natV ct, natV gn, natV ls])
theorem cnS_cntZ {n : Nat} {f : (Nat → Bool) → Bool} {p : Nat → Bool} (h : ∀ z, z < 2 ^ n → f (nb z) = p z) : cnS n f = cntZ n p := by
  rw [cnS_eq]
  exact List.countP_congr fun z hz => by rw [h z (List.mem_range.1 hz)]
theorem dif_zero (hD : TSOk D) (h : TbOk D t) {r : Nat} (hr : r < 2 + t.sz) {F G : Fm} (hv : ∀ s, t.val s r = (F.value (zOf D.n s : Nat) != G.value (zOf D.n s : Nat))) : r = 0 ↔ ∀ z, z < 2 ^ D.n → F.value (z : Nat) = G.value (z : Nat) := by
  constructor
  · intro e z hz
    subst e
    have := hv (nb z)
    rw [show t.val (nb z) 0 = false from dval_zero _ _, zOf_nb hz] at this
    simpa using this.symm
  · intro e
    apply Classical.byContradiction
    intro hne
    obtain ⟨s, hs⟩ := val_ne hD h hr hne
    rw [hv, e _ (zOf_lt _ _)] at hs
    simp at hs
theorem dif_ok (hD : TSOk D) (h : TbOk D t) {r x0 x1 z : Nat} {F G : Fm} (hx0 : ∀ s, t.val s x0 = F.value (zOf D.n s : Nat)) (hx1 : ∀ s, t.val s x1 = G.value (zOf D.n s : Nat)) (hv : ∀ s, t.val s r = (F.value (zOf D.n s : Nat) != G.value (zOf D.n s : Nat))) (hz : LsOk D t r z) :
    DfOk F G D.n false z (cnS D.n (fun s => t.val s r)) (cnS D.n (fun s => t.val s r && t.val s x1)) (cnS D.n (fun s => t.val s r && t.val s x0)) := by
  have e : ∀ y, y < 2 ^ D.n → t.val (nb y) r = difB F G y := fun y hy => by rw [hv, zOf_nb hy]; rfl
  refine ⟨fun h => (by cases h), fun _ => ⟨hz.lt, by rw [← e z hz.lt]; exact hz.val, fun y hy => by rw [← e y (Nat.lt_trans hy hz.lt)]; exact hz.min y hy⟩, fun _ => cnS_cntZ e, fun _ => cnS_cntZ fun y hy => ?_, fun _ => cnS_cntZ fun y hy => ?_⟩
  · rw [e y hy, hx1, zOf_nb hy]; unfold difB; cases F.value (y : Nat) <;> cases G.value (y : Nat) <;> rfl
  · rw [e y hy, hx0, zOf_nb hy]; unfold difB; cases F.value (y : Nat) <;> cases G.value (y : Nat) <;> rfl
theorem dif_eq {F G : Fm} {n : Nat} (h : ∀ z, z < 2 ^ n → F.value (z : Nat) = G.value (z : Nat)) : DfOk F G n true 0 0 0 0 :=
  ⟨fun _ => ⟨h, rfl, rfl, rfl⟩, fun h => (by cases h), fun h => (by cases h), fun h => (by cases h), fun h => (by cases h)⟩
theorem set_pk {x0 x1 r k : Nat} (hk : k < 2) : [natV x0, natV x1].set k (natV r) = [natV (pk k r x0), natV (pk k x1 r)] := by
  obtain rfl | rfl : k = 0 ∨ k = 1 := by omega
  · rfl
  · rfl
end Go.GL
