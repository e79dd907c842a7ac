import Derived.Test.YtffghipagnjggaaGL10
namespace Go.GL
set_option linter.unusedVariables false
def szN (m : List Bool) (v : Nat) : Nat → Nat
  | 0 => 0
  | k + 1 => bif m.getD (v + k) false then szN m v k + 1 else szN m v k
def szA (m : List Bool) (v : Nat) (nodes : List Nd) : Nat → Nat
  | 0 => 0
  | k + 1 => bif m.getD (v + k) false then szA m v nodes k + (nodes.getD k ⟨0, 0, []⟩).args.length else szA m v nodes k
theorem szN_le (m : List Bool) (v : Nat) : ∀ k, szN m v k ≤ k
  | 0 => Nat.le_refl _
  | k + 1 => by
    have := szN_le m v k
    unfold szN
    cases m.getD (v + k) false <;> simp <;> omega
theorem szA_le {m : List Bool} {v : Nat} {nodes : List Nd} (h : ∀ i (hi : i < nodes.length), nodes[i].args.length ≤ 16) : ∀ k, k ≤ nodes.length → szA m v nodes k ≤ 16 * k
  | 0, _ => Nat.le_refl _
  | k + 1, hk => by
    have ih := szA_le (m := m) (v := v) h k (by omega)
    have h1 := h k (by omega)
    have hn : nodes.getD k ⟨0, 0, []⟩ = nodes[k] := by simp [show k < nodes.length by omega]
    unfold szA
    rw [hn]
    cases m.getD (v + k) false <;> simp <;> omega
def Fm.sizeN (F : Fm) : Nat := szN F.below F.vars.toNat F.nodes.length
def Fm.sizeA (F : Fm) : Nat := szA F.below F.vars.toNat F.nodes F.nodes.length
theorem setOf_min (m : List Bool) (v k : Nat) : setOf m (min (k + 1) v) = bif (m.getD k false && decide ((k : Int) < (v : Int))) then setOf m (min k v) ||| 2 ^ k else setOf m (min k v) := by
  rcases Nat.lt_or_ge k v with h | h
  · rw [show min (k + 1) v = k + 1 by omega, show min k v = k by omega, decide_eq_true (show (k : Int) < (v : Int) by omega), Bool.and_true]
    rfl
  · rw [show min (k + 1) v = v by omega, show min k v = v by omega, decide_eq_false (show ¬ (k : Int) < (v : Int) by omega), Bool.and_false]
    rfl
def maxD (ds : List Nat) (args : List Int) : Nat := args.foldl (fun m a => max m (ds.getD a.toNat 0)) 0
def depFrom : List Nat → List Nd → List Nat
  | ds, [] => ds
  | ds, d :: r => depFrom (ds ++ [maxD ds d.args + 1]) r
def Fm.depths (F : Fm) : List Nat := depFrom (List.replicate F.vars.toNat 0) F.nodes
def Fm.depth (F : Fm) : Nat := F.depths.getD F.top.toNat 0
theorem depFrom_append (l1 l2 : List Nd) : ∀ ds, depFrom ds (l1 ++ l2) = depFrom (depFrom ds l1) l2 := by
  induction l1 with
  | nil => intro ds; rfl
  | cons d r ih => intro ds; exact ih _
theorem depFrom_length (l : List Nd) : ∀ ds, (depFrom ds l).length = ds.length + l.length := by
  induction l with
  | nil => intro ds; rfl
  | cons d r ih => intro ds; simp [depFrom, ih]; omega
theorem depFrom_take_succ {ds : List Nat} {l : List Nd} {k : Nat} (hk : k < l.length) :
    depFrom ds (l.take (k + 1)) = depFrom ds (l.take k) ++ [maxD (depFrom ds (l.take k)) l[k].args + 1] := by
  rw [List.take_succ_eq_append_getElem hk, depFrom_append]
  rfl
theorem maxD_take_succ {ds : List Nat} {l : List Int} {k : Nat} (hk : k < l.length) : maxD ds (l.take (k + 1)) = max (maxD ds (l.take k)) (ds.getD l[k].toNat 0) := by
  unfold maxD
  rw [List.take_succ_eq_append_getElem hk, List.foldl_append]
  rfl
theorem maxD_le {ds : List Nat} {b : Nat} (h : ∀ j, ds.getD j 0 ≤ b) (args : List Int) : maxD ds args ≤ b := by
  unfold maxD
  suffices ∀ m, m ≤ b → args.foldl (fun m a => max m (ds.getD a.toNat 0)) m ≤ b from this 0 (Nat.zero_le _)
  induction args with
  | nil => intro m hm; exact hm
  | cons a r ih => intro m hm; exact ih _ (Nat.max_le.2 ⟨hm, h _⟩)
theorem depFrom_le (v : Nat) (l : List Nd) : ∀ (ds : List Nat) (b : Nat), (∀ j, ds.getD j 0 ≤ b) → ∀ j, (depFrom ds l).getD j 0 ≤ b + l.length := by
  induction l with
  | nil => intro ds b h j; exact h j
  | cons d r ih =>
    intro ds b h j
    have := ih (ds ++ [maxD ds d.args + 1]) (b + 1) (fun j => ?_) j
    · simp only [depFrom, List.length_cons]; omega
    · rw [List.getD_eq_getElem?_getD]
      rcases Nat.lt_trichotomy j ds.length with hlt | heq | hgt
      · rw [List.getElem?_append_left hlt, ← List.getD_eq_getElem?_getD]
        have := h j
        omega
      · subst heq
        rw [List.getElem?_append_right (Nat.le_refl _)]
        have := maxD_le h d.args
        simp; omega
      · rw [List.getElem?_eq_none (by simp; omega)]
        simp
theorem depFrom_getD_lt (l : List Nd) : ∀ (ds : List Nat) (j : Nat), j < ds.length → (depFrom ds l).getD j 0 = ds.getD j 0 := by
  induction l with
  | nil => intro ds j _; rfl
  | cons d r ih =>
    intro ds j hj
    rw [depFrom, ih _ j (by simp; omega)]
    simp [List.getD_eq_getElem?_getD, List.getElem?_append_left hj]
abbrev nats (l : List Nat) : List Value := l.map (fun (n : Nat) => Value.int .i64 (n : Int))
theorem nats_get {l : List Nat} {i : Nat} (hi : i < l.length) : (nats l)[i]? = some (.int .i64 (l.getD i 0 : Nat)) := by
  simp [hi]
theorem nats_set (l : List Nat) (k b : Nat) : nats (l.set k b) = (nats l).set k (.int .i64 b) := List.map_set
def refDep (v : Nat) (nodes : List Nd) (k : Nat) : List Nat := depFrom (List.replicate v 0) (nodes.take k) ++ List.replicate (nodes.length - k) 0
theorem refDep_length {v : Nat} {nodes : List Nd} {k : Nat} (hk : k ≤ nodes.length) : (refDep v nodes k).length = v + nodes.length := by
  unfold refDep
  rw [List.length_append, depFrom_length, List.length_take, List.length_replicate, List.length_replicate]; omega
theorem refDep_set {v : Nat} {nodes : List Nd} {k : Nat} (hk : k < nodes.length) : (refDep v nodes k).set (v + k) (maxD (depFrom (List.replicate v 0) (nodes.take k)) nodes[k].args + 1) = refDep v nodes (k + 1) := by
  have hl : (depFrom (List.replicate v 0) (nodes.take k)).length = v + k := by rw [depFrom_length, List.length_take, List.length_replicate]; omega
  unfold refDep
  rw [List.set_append_right _ _ (by omega), hl, Nat.sub_self, depFrom_take_succ hk, show nodes.length - k = (nodes.length - (k + 1)) + 1 by omega, List.replicate_succ]
  simp
theorem refDep_get {v : Nat} {nodes : List Nd} {k j : Nat} (hk : k ≤ nodes.length) (hj : j < v + k) : (refDep v nodes k).getD j 0 = (depFrom (List.replicate v 0) (nodes.take k)).getD j 0 := by
  have hl : (depFrom (List.replicate v 0) (nodes.take k)).length = v + k := by rw [depFrom_length, List.length_take, List.length_replicate]; omega
  unfold refDep
  rw [List.getD_eq_getElem?_getD, List.getElem?_append_left (by omega), ← List.getD_eq_getElem?_getD]
theorem refDep_all {v : Nat} {nodes : List Nd} : refDep v nodes nodes.length = depFrom (List.replicate v 0) nodes := by
  unfold refDep; simp
theorem refDep_zero {v : Nat} {nodes : List Nd} : refDep v nodes 0 = List.replicate (v + nodes.length) 0 := by
  unfold refDep; simp [depFrom]
end Go.GL
namespace Go.GL
set_option linter.unusedVariables false
set_option linter.unusedSimpArgs false
section
variable {P : Program} {n : Nat} {S : List (Nat × Value)} {H : List Ent} {A : Array Oper} {Q : Exit → Act → World → Prop}
theorem Tri.drawC {id : Nat} {l : List Oper} (hm : P.follows .mixedOrders = true) (S0 S1 : List (Nat × Value)) (vs : List Value) (H0 : List Ent) (sel : List Nat)
    (hok : drawOk n S0 l = true) (hs : Has S S0) (hs1 : Has S S1) (hl : Le H H0)
    (hob : Obs (X := Unit) P n S0 S1 l (fun _ i => vs.getD i undef) (fun _ _ => H0) [] Q 0 l)
    (hq : Nrm n (selS l (fun i => vs.getD i undef) S0 sel) H0 Q) : Tri P n S H (.region id l.toArray true) Q :=
  Tri.drawN (X := Unit) hm S0 S1 (fun _ i => vs.getD i undef) (fun _ _ => H0) [] () sel hok rfl hs hs1 hl hob (fun _ => hq)
theorem Tri.drawX {X : Type} {id : Nat} {l : List Oper} (hm : P.follows .mixedOrders = true) (S0 S1 : List (Nat × Value)) (vs : X → List Value) (Hs : X → Nat → List Ent) (isM : List Nat) (x0 : X) (sel : List Nat)
    (hok : drawOk n S0 l = true) (hMok : isMOk l isM = true) (hs : Has S S0) (hs1 : Has S S1) (hl : Le H (Hs x0 0))
    (hob : Obs P n S0 S1 l (fun x i => (vs x).getD i undef) Hs isM Q 0 l)
    (hq : ∀ x, Nrm n (selS l (fun i => (vs x).getD i undef) S0 sel) (Hs x isM.length) Q) : Tri P n S H (.region id l.toArray true) Q :=
  Tri.drawN hm S0 S1 (fun x i => (vs x).getD i undef) Hs isM x0 sel hok hMok hs hs1 hl hob hq
theorem TOps.eqlIr {d x y T T' U p e rest} {k : IntKind} {a b : Int} {r : Bool} (hx : opv S x = some (.int k a)) (hy : opv S y = some (.int k b)) (hr : decide (a = b) = r) (hn : Nat.blt d n = true)
    (h : TOps P n ((d, .bool r) :: S) H rest A Q) : TOps P n S H (⟨some d, .binOp .eql T x y T', U, p, e, none⟩ :: rest) A Q := by
  subst hr; exact TOps.eqlI hx hy hn h
theorem TOps.neqIr {d x y T T' U p e rest} {k : IntKind} {a b : Int} {r : Bool} (hx : opv S x = some (.int k a)) (hy : opv S y = some (.int k b)) (hr : decide (a ≠ b) = r) (hn : Nat.blt d n = true)
    (h : TOps P n ((d, .bool r) :: S) H rest A Q) : TOps P n S H (⟨some d, .binOp .neq T x y T', U, p, e, none⟩ :: rest) A Q := by
  subst hr; exact TOps.neqI hx hy hn h
theorem TOps.eqlBr {d T x y T' U p e rest} {a b r : Bool} (hx : opv S x = some (.bool a)) (hy : opv S y = some (.bool b)) (hr : (a == b) = r) (hT : P.underlying T = some .bool) (hn : Nat.blt d n = true)
    (h : TOps P n ((d, .bool r) :: S) H rest A Q) : TOps P n S H (⟨some d, .binOp .eql T x y T', U, p, e, none⟩ :: rest) A Q := by
  subst hr; exact TOps.eqlB hx hy hT hn h
theorem TOps.lssr {d x y T T' U p e rest} {k : IntKind} {a b : Int} {r : Bool} (hx : opv S x = some (.int k a)) (hy : opv S y = some (.int k b)) (hr : decide (a < b) = r) (hn : Nat.blt d n = true)
    (h : TOps P n ((d, .bool r) :: S) H rest A Q) : TOps P n S H (⟨some d, .binOp .lss T x y T', U, p, e, none⟩ :: rest) A Q := by
  subst hr; exact TOps.lss hx hy hn h
theorem TOps.notr {d x T U p e rest} {a r : Bool} (hx : opv S x = some (.bool a)) (hr : (!a) = r) (hn : Nat.blt d n = true)
    (h : TOps P n ((d, .bool r) :: S) H rest A Q) : TOps P n S H (⟨some d, .unOp .not T x, U, p, e, none⟩ :: rest) A Q := by
  subst hr; exact TOps.not hx hn h
theorem TOps.pickr {d c x y U p e rest} {t : Bool} {u v r : Value} (hc : opv S c = some (.bool t)) (hx : opv S x = some u) (hy : opv S y = some v) (hr : (bif t then u else v) = r) (hn : Nat.blt d n = true)
    (h : TOps P n ((d, r) :: S) H rest A Q) : TOps P n S H (⟨some d, .pick c x y, U, p, e, none⟩ :: rest) A Q := by
  subst hr; exact TOps.pick hc hx hy hn h
theorem three {a b c d : Int} : decide (a ≠ b) = true ∨ (decide (a ≠ b) = false ∧ decide (c ≠ d) = true) ∨ (decide (a ≠ b) = false ∧ decide (c ≠ d) = false) := by
  by_cases h : a = b <;> by_cases g : c = d <;> simp [h, g]
def fact (p : Prop) : Ent where
  foot := fun _ => False
  ok := fun _ => p
  st := fun _ _ _ h => h
theorem Le.addFact {p : Prop} (hp : p) : Le H (fact p :: H) := fun w h => Mem.cons h hp (fun _ hk => hk.elim) (fun _ _ _ hk => hk.elim)
theorem TOps.fact {p : Prop} {l : List Oper} (hm : GL.fact p ∈ H) (h : p → TOps P n S H l A Q) : TOps P n S H l A Q := fun a w hS hM => h (hM.ok _ hm) a w hS hM
theorem Tri.fact {p : Prop} {c} (hm : GL.fact p ∈ H) (h : p → Tri P n S H c Q) : Tri P n S H c Q := fun a w hS hM => h (hM.ok _ hm) a w hS hM
theorem Nrm.fact {p : Prop} (hm : GL.fact p ∈ H) (h : p → Nrm n S H Q) : Nrm n S H Q := fun a w hS hM => h (hM.ok _ hm) a w hS hM
end
instance : DecidableEq Nd := fun a b => match a, b with
  | ⟨k, l, m⟩, ⟨k', l', m'⟩ => if h : k = k' ∧ l = l' ∧ m = m' then isTrue (by rw [h.1, h.2.1, h.2.2]) else isFalse (fun e => h (by cases e; exact ⟨rfl, rfl, rfl⟩))
instance : DecidableEq Fm := fun a b => match a, b with
  | ⟨k, l, m⟩, ⟨k', l', m'⟩ => if h : k = k' ∧ l = l' ∧ m = m' then isTrue (by rw [h.1, h.2.1, h.2.2]) else isFalse (fun e => h (by cases e; exact ⟨rfl, rfl, rfl⟩))
theorem Nd.ext' {d e : Nd} (h1 : d.kind = e.kind) (h2 : d.k = e.k) (h3 : d.args = e.args) : d = e := by
  cases d; cases e; simp_all
theorem Nd.ne1 {d e : Nd} (h : decide (d.kind ≠ e.kind) = true) : decide (d ≠ e) = true := by
  simp only [ne_eq, decide_eq_true_eq] at *
  intro g; subst g; exact h rfl
theorem Nd.ne2 {d e : Nd} (h : decide (d.k ≠ e.k) = true) : decide (d ≠ e) = true := by
  simp only [ne_eq, decide_eq_true_eq] at *
  intro g; subst g; exact h rfl
theorem Nd.ne3 {d e : Nd} (h : decide (d.kind ≠ e.kind) = false) (h' : decide (d.k ≠ e.k) = false) : decide (d ≠ e) = !decide (d.args = e.args) := by
  simp only [ne_eq, decide_eq_false_iff_not, Decidable.not_not] at h h'
  by_cases g : d.args = e.args
  · have := Nd.ext' h h' g
    subst this; simp
  · have : d ≠ e := fun x => g (by rw [x])
    simp [g, this]
theorem Fm.ext' {d e : Fm} (h1 : d.vars = e.vars) (h2 : d.nodes = e.nodes) (h3 : d.top = e.top) : d = e := by
  cases d; cases e; simp_all
end Go.GL
namespace Go.GL
set_option linter.unusedVariables false
inductive Pick : List Ent → Ent → List Ent → Prop
  | here {e H} : Pick (e :: H) e H
  | row {a : Option Nat} {E sz cap : Nat} {xs xs' : List Value} {H} : xs = xs' → Pick (row a E sz cap xs :: H) (row a E sz cap xs') H
  | there {x e H R} : Pick H e R → Pick (x :: H) e (x :: R)
theorem Pick.perm {H e R} (p : Pick H e R) : H.Perm (e :: R) := by
  induction p with
  | here => exact List.Perm.refl _
  | row h => subst h; exact List.Perm.refl _
  | there _ ih => exact (List.Perm.cons _ ih).trans (List.Perm.swap _ _ _)
inductive Sp : List Ent → List Ent → Prop
  | sub {H H'} : H'.Sublist H → Sp H H'
  | cons {H e R H'} : Pick H e R → Sp R H' → Sp H (e :: H')
theorem Sp.refl (H : List Ent) : Sp H H := .sub (List.Sublist.refl _)
theorem Sp.nil {H : List Ent} : Sp H [] := .sub (List.nil_sublist _)
theorem Sp.mem {H H'} (s : Sp H H') : ∀ e ∈ H', e ∈ H := by
  induction s with
  | sub h => exact fun e he => h.subset he
  | cons p _ ih =>
    intro x hx
    cases hx with
    | head => exact p.perm.mem_iff.2 (List.mem_cons_self)
    | tail _ hx => exact p.perm.mem_iff.2 (List.mem_cons_of_mem _ (ih x hx))
theorem Sp.le {H H'} (s : Sp H H') : Le H H' := by
  induction s with
  | sub h => exact Le.sub h
  | cons p s ih =>
    intro w hw
    have h := Le.perm p.perm w hw
    exact ⟨h.1, h.2.1, fun x hx => h.2.2.1 x (s.mem x hx), ih w h.tail⟩
theorem Sp.skip {x H H'} (s : Sp H H') : Sp (x :: H) H' := by
  induction s with
  | sub h => exact .sub (List.Sublist.cons _ h)
  | cons p s ih => exact .cons (.there p) ih
section
variable {P : Program} {n : Nat} {S : List (Nat × Value)} {H : List Ent} {A : Array Oper} {Q : Exit → Act → World → Prop}
theorem Nrm.rowCap {b E sz cap : Nat} {xs : List Value} (hm : row (some b) E sz cap xs ∈ H) (h : xs.length ≤ cap * sz → Nrm n S H Q) : Nrm n S H Q := by
  intro a w hS hM
  refine h ?_ a w hS hM
  have := hM.ok _ hm
  unfold row at this
  obtain ⟨sp, _, h2, _⟩ := this
  omega
theorem TOps.hide2 {b E sz cap : Nat} {xs : List Value} {l : List Oper} {e : Ent} (h : ∀ H', Le H' H → H.Sublist H' → Rd H' b 0 xs → TOps P n S (e :: H') l A Q) : TOps P n S (row (some b) E sz cap xs :: e :: H) l A Q :=
  TOps.le Le.swap (h _ (Le.drop (Le.refl H)) (List.sublist_cons_self _ _) (Rd.all (E := E) (sz := sz) (cap := cap) (by simp)))
end
def trA (to : List Nat) (args : List Int) : List Int := args.map (fun a => ((to.getD a.toNat 0 : Nat) : Int))
def trN (to : List Nat) (d : Nd) : Nd := ⟨d.kind, d.k, trA to d.args⟩
def trS (m : List Bool) (v : Nat) (nodes : List Nd) : Nat → List Nat × List Nd
  | 0 => (List.range v ++ List.replicate nodes.length 0, [])
  | k + 1 => bif m.getD (v + k) false then ((trS m v nodes k).1.set (v + k) (v + (trS m v nodes k).2.length), (trS m v nodes k).2 ++ [trN (trS m v nodes k).1 (nodes.getD k ⟨0, 0, []⟩)]) else trS m v nodes k
def Fm.trS (F : Fm) (k : Nat) : List Nat × List Nd := GL.trS F.below F.vars.toNat F.nodes k
def Fm.trim (F : Fm) : Fm := ⟨F.vars, (F.trS F.nodes.length).2, (((F.trS F.nodes.length).1.getD F.top.toNat 0 : Nat) : Int)⟩
theorem trA_take_succ {to : List Nat} {l : List Int} {j : Nat} (hj : j < l.length) : trA to (l.take (j + 1)) = trA to (l.take j) ++ [((to.getD l[j].toNat 0 : Nat) : Int)] := by
  unfold trA
  rw [List.take_succ_eq_append_getElem hj, List.map_append]
  rfl
theorem trA_length (to : List Nat) (l : List Int) : (trA to l).length = l.length := by simp [trA]
section
variable {m : List Bool} {v : Nat} {nodes : List Nd}
theorem trS_length (k : Nat) : (trS m v nodes k).1.length = v + nodes.length := by
  induction k with
  | zero => simp [trS]
  | succ k ih => unfold trS; cases m.getD (v + k) false <;> simp [ih]
theorem trS_le (k : Nat) : (trS m v nodes k).2.length ≤ k := by
  induction k with
  | zero => simp [trS]
  | succ k ih => unfold trS; cases m.getD (v + k) false <;> simp <;> omega
theorem trS_bound (k j : Nat) : (trS m v nodes k).1.getD j 0 ≤ v + k := by
  induction k with
  | zero =>
    unfold trS
    rw [List.getD_eq_getElem?_getD, List.getElem?_append]
    split
    · rename_i h; simp at h; simp [h]; omega
    · rw [List.getElem?_replicate]; split <;> simp
  | succ k ih =>
    unfold trS
    cases m.getD (v + k) false with
    | false => simp only [cond_false]; omega
    | true =>
      simp only [cond_true, List.getD_eq_getElem?_getD, List.getElem?_set]
      have := trS_le (m := m) (v := v) (nodes := nodes) k
      rw [List.getD_eq_getElem?_getD] at ih
      split
      · split
        · simp; omega
        · simp
      · omega
theorem trS_args (h : ∀ i (hi : i < nodes.length), nodes[i].args.length ≤ 16) (k : Nat) (hk : k ≤ nodes.length) : ∀ d ∈ (trS m v nodes k).2, d.args.length ≤ 16 := by
  induction k with
  | zero => simp [trS]
  | succ k ih =>
    unfold trS
    cases m.getD (v + k) false with
    | false => exact ih (by omega)
    | true =>
      intro d hd
      simp only [cond_true, List.mem_append, List.mem_singleton] at hd
      rcases hd with hd | rfl
      · exact ih (by omega) d hd
      · have := h k (by omega)
        simp only [trN, trA_length]
        rw [show nodes.getD k ⟨0, 0, []⟩ = nodes[k] from by simp [show k < nodes.length by omega]]
        exact this
end
theorem setRange {v k m : Nat} (hk : k < v) : (List.range k ++ List.replicate (v + m - k) 0).set k k = List.range (k + 1) ++ List.replicate (v + m - (k + 1)) 0 := by
  rw [List.set_append_right _ _ (by simp), List.length_range, Nat.sub_self, show v + m - k = (v + m - (k + 1)) + 1 by omega, List.replicate_succ, List.range_succ]
  simp
def NewFE (T : TypeId) (F : Fm) (e : Option Int) (H : List Ent) : Value → List Ent → Prop := fun u H' => ∃ tv, u = .tuple (List.toArray [tv, errV T e]) ∧ NewF F H tv H'
def Fm.zero : Fm := ⟨0, [], 0⟩
theorem nsCells_snoc : ∀ (ns : List Nd) (qs : List SA) (d : Nd) (q : SA), qs.length = ns.length → nsCells (ns ++ [d]) (qs ++ [q]) = nsCells ns qs ++ ndCells d q
  | [], [], d, q, _ => by simp [nsCells]
  | [], q' :: s, d, q, h => by simp at h
  | d' :: r, [], d, q, h => by simp at h
  | d' :: r, q' :: s, d, q, h => by
    have := nsCells_snoc r s d q (by simpa using h)
    simp [nsCells, this]
theorem Le.rot3 {a b o n m : Ent} {H : List Ent} : Le (a :: b :: o :: n :: m :: H) (o :: n :: m :: a :: H) := by
  have h1 : Le (a :: b :: o :: n :: m :: H) (a :: o :: n :: m :: H) := Le.sub (List.Sublist.cons_cons _ (List.sublist_cons_self _ _))
  have h2 : (a :: o :: n :: m :: H).Perm (o :: n :: m :: a :: H) := (List.perm_middle (l₁ := [o, n, m]) (a := a) (l₂ := H)).symm
  exact h1.trans (Le.perm h2)
def ArgsIn (H : List Ent) (ns : List Nd) (qs : List SA) : Prop := qs.length = ns.length ∧ ∀ (i : Nat) (d : Nd) (q : SA), ns[i]? = some d → qs[i]? = some q → RInts H q.1 q.2.1 d.args q.2.2.2
theorem ArgsIn.nil {H : List Ent} : ArgsIn H [] [] := ⟨rfl, fun i d q h => by simp at h⟩
theorem ArgsIn.le {H H' : List Ent} {ns qs} (h : ArgsIn H ns qs) (hl : Le H' H) : ArgsIn H' ns qs := ⟨h.1, fun i d q h1 h2 => RdS.le (h.2 i d q h1 h2) hl⟩
theorem ArgsIn.snoc {H : List Ent} {ns qs} {d : Nd} {q : SA} (h : ArgsIn H ns qs) (hd : RInts H q.1 q.2.1 d.args q.2.2.2) : ArgsIn H (ns ++ [d]) (qs ++ [q]) := by
  refine ⟨by simp [h.1], fun i d' q' h1 h2 => ?_⟩
  have hl := h.1
  rcases Nat.lt_or_ge i ns.length with hi | hi
  · rw [List.getElem?_append_left hi] at h1
    rw [List.getElem?_append_left (by omega)] at h2
    exact h.2 i d' q' h1 h2
  · rw [List.getElem?_append_right hi] at h1
    rw [List.getElem?_append_right (by omega), hl] at h2
    have h0 : i - ns.length = 0 := by
      have := (List.getElem?_eq_some_iff.1 h1).1
      simp at this; omega
    rw [h0] at h1 h2
    simp at h1 h2
    subst h1 h2
    exact hd
theorem RNodes.ofA {H : List Ent} {a : Option Nat} {E sz cap : Nat} {ns : List Nd} {qs : List SA} (hm : row a E sz cap (nsCells ns qs) ∈ H) (h : ArgsIn H ns qs) (ha : ns ≠ [] → ∃ b, a = some b) : RNodes H a 0 ns := by
  by_cases hn : ns = []
  · exact .inl hn
  · obtain ⟨b, rfl⟩ := ha hn
    exact RNodes.ofRow hm h.1 h.2
end Go.GL
namespace Go.GL
set_option linter.unusedVariables false
theorem Fm.Good.ok {F : Fm} (hg : F.Good) : F.ok := by
  have g0 := hg.v0; have g1 := hg.v1; have g2 := hg.n1; have gt := hg.topLt
  refine ⟨⟨by omega, by omega⟩, ⟨by omega, by omega⟩, fun d hd => ?_, by omega⟩
  obtain ⟨i, hi, rfl⟩ := List.getElem_of_mem hd
  have f := hg.fits i hi
  have k0 := f.k0; have k1 := f.k1; have hl := f.len
  obtain ⟨a, b, c⟩ := f.kk
  refine ⟨⟨by omega, by omega⟩, ?_, fun a ha => ?_, by omega⟩
  · by_cases h0 : F.nodes[i].kind = 0
    · have := a h0; exact ⟨by omega, by omega⟩
    · by_cases h4 : F.nodes[i].kind = 4
      · have := b h4; exact ⟨by omega, by omega⟩
      · have := c h0 h4; exact ⟨by omega, by omega⟩
  · have := f.args a ha; exact ⟨by omega, by omega⟩
section
variable {F : Fm}
theorem Fm.trS_len (F : Fm) (k : Nat) : (F.trS k).1.length = F.vars.toNat + F.nodes.length := trS_length k
theorem Fm.trS_succ (F : Fm) {k : Nat} (hk : k < F.nodes.length) : F.trS (k + 1) = (bif F.below.getD (F.vars.toNat + k) false then ((F.trS k).1.set (F.vars.toNat + k) (F.vars.toNat + (F.trS k).2.length), (F.trS k).2 ++ [trN (F.trS k).1 F.nodes[k]]) else F.trS k) := by
  unfold Fm.trS
  rw [GL.trS, show F.nodes.getD k ⟨0, 0, []⟩ = F.nodes[k] from by simp [hk]]
theorem Fm.trS_succ1 (F : Fm) {k : Nat} (hk : k < F.nodes.length) (h : F.below.getD (F.vars.toNat + k) false = true) : F.trS (k + 1) = ((F.trS k).1.set (F.vars.toNat + k) (F.vars.toNat + (F.trS k).2.length), (F.trS k).2 ++ [trN (F.trS k).1 F.nodes[k]]) := by
  rw [F.trS_succ hk, h]; rfl
theorem Fm.trS_succ0 (F : Fm) {k : Nat} (hk : k < F.nodes.length) (h : F.below.getD (F.vars.toNat + k) false = false) : F.trS (k + 1) = F.trS k := by
  rw [F.trS_succ hk, h]; rfl
theorem Fm.trS_stab (F : Fm) {k K : Nat} (hkK : k ≤ K) (hK : K ≤ F.nodes.length) {j : Nat} (hj : j < F.vars.toNat + k) : (F.trS K).1.getD j 0 = (F.trS k).1.getD j 0 := by
  induction K with
  | zero => obtain rfl : k = 0 := by omega
            rfl
  | succ K ih =>
    rcases Nat.lt_or_ge K k with h | h
    · obtain rfl : k = K + 1 := by omega
      rfl
    · rw [← ih h (by omega), F.trS_succ (by omega)]
      cases F.below.getD (F.vars.toNat + K) false with
      | false => rfl
      | true =>
        simp only [cond_true, List.getD_eq_getElem?_getD]
        rw [List.getElem?_set_ne (by omega)]
def Fm.ro (F : Fm) (j : Nat) : Nat := (F.trS F.nodes.length).1.getD j 0
def Fm.ix (F : Fm) (k : Nat) : Nat := (F.trS k).2.length
theorem Fm.ro_event (F : Fm) {j : Nat} (hj : j < F.vars.toNat) : F.ro j = j := by
  unfold Fm.ro
  rw [F.trS_stab (Nat.zero_le _) (Nat.le_refl _) (by omega)]
  unfold Fm.trS GL.trS
  rw [List.getD_eq_getElem?_getD, List.getElem?_append_left (by simpa using hj)]
  simp [hj]
theorem Fm.ro_node (F : Fm) {k : Nat} (hk : k < F.nodes.length) (h : F.below.getD (F.vars.toNat + k) false = true) : F.ro (F.vars.toNat + k) = F.vars.toNat + F.ix k := by
  unfold Fm.ro
  rw [F.trS_stab (k := k + 1) (by omega) (Nat.le_refl _) (by omega), F.trS_succ1 hk h]
  simp only [List.getD_eq_getElem?_getD]
  rw [List.getElem?_set_self (by rw [F.trS_len]; omega)]
  rfl
theorem Fm.ix_mono (F : Fm) {k K : Nat} (hkK : k ≤ K) (hK : K ≤ F.nodes.length) : F.ix k ≤ F.ix K := by
  induction K with
  | zero => obtain rfl : k = 0 := by omega
            exact Nat.le_refl _
  | succ K ih =>
    rcases Nat.lt_or_ge K k with h | h
    · obtain rfl : k = K + 1 := by omega
      exact Nat.le_refl _
    · refine Nat.le_trans (ih h (by omega)) ?_
      unfold Fm.ix
      rw [F.trS_succ (by omega)]
      cases F.below.getD (F.vars.toNat + K) false <;> simp
theorem Fm.ix_lt (F : Fm) {k K : Nat} (hkK : k < K) (hK : K ≤ F.nodes.length) (h : F.below.getD (F.vars.toNat + k) false = true) : F.ix k < F.ix K := by
  refine Nat.lt_of_lt_of_le ?_ (F.ix_mono (show k + 1 ≤ K by omega) hK)
  unfold Fm.ix
  rw [F.trS_succ1 (by omega) h]
  simp
theorem Fm.trS_pre (F : Fm) {k K : Nat} (hkK : k ≤ K) (hK : K ≤ F.nodes.length) : ∃ r, (F.trS K).2 = (F.trS k).2 ++ r := by
  induction K with
  | zero => obtain rfl : k = 0 := by omega
            exact ⟨[], by simp⟩
  | succ K ih =>
    rcases Nat.lt_or_ge K k with h | h
    · obtain rfl : k = K + 1 := by omega
      exact ⟨[], by simp⟩
    · obtain ⟨r, hr⟩ := ih h (by omega)
      rw [F.trS_succ (by omega)]
      cases F.below.getD (F.vars.toNat + K) false with
      | false => exact ⟨r, hr⟩
      | true => exact ⟨r ++ [trN (F.trS K).1 F.nodes[K]], by simp [hr]⟩
def Fm.ren (F : Fm) (d : Nd) : Nd := ⟨d.kind, d.k, d.args.map (fun a => ((F.ro a.toNat : Nat) : Int))⟩
theorem Fm.trS_node (hg : F.Good) {k : Nat} (hk : k < F.nodes.length) : trN (F.trS k).1 F.nodes[k] = F.ren F.nodes[k] := by
  unfold trN Fm.ren trA
  congr 1
  refine List.map_congr_left fun a ha => ?_
  rw [← F.trS_stab (k := k) (by omega) (Nat.le_refl _) (hg.argLt hk a ha)]
  rfl
theorem Fm.trim_nodes (F : Fm) : F.trim.nodes = (F.trS F.nodes.length).2 := rfl
theorem Fm.trim_len (F : Fm) : F.trim.nodes.length = F.ix F.nodes.length := rfl
theorem Fm.trim_top (F : Fm) : F.trim.top = ((F.ro F.top.toNat : Nat) : Int) := rfl
theorem Fm.trim_vars (F : Fm) : F.trim.vars = F.vars := rfl
theorem Fm.trim_at (hg : F.Good) {k : Nat} (hk : k < F.nodes.length) (h : F.below.getD (F.vars.toNat + k) false = true) : F.trim.nodes[F.ix k]? = some (F.ren F.nodes[k]) := by
  obtain ⟨r, hr⟩ := F.trS_pre (show k + 1 ≤ F.nodes.length by omega) (Nat.le_refl _)
  rw [F.trim_nodes, hr, F.trS_succ1 hk h, Fm.trS_node hg hk]
  unfold Fm.ix
  rw [List.getElem?_append_left (by simp), List.getElem?_append_right (Nat.le_refl _)]
  simp
theorem Fm.ix_surj (F : Fm) {K : Nat} (hK : K ≤ F.nodes.length) : ∀ i, i < F.ix K → ∃ k, k < K ∧ F.below.getD (F.vars.toNat + k) false = true ∧ F.ix k = i := by
  induction K with
  | zero => intro i hi; simp [Fm.ix, Fm.trS, GL.trS] at hi
  | succ K ih =>
    intro i hi
    cases hb : F.below.getD (F.vars.toNat + K) false with
    | false =>
      unfold Fm.ix at hi
      rw [F.trS_succ0 (by omega) hb] at hi
      obtain ⟨k, h1, h2, h3⟩ := ih (by omega) i hi
      exact ⟨k, by omega, h2, h3⟩
    | true =>
      unfold Fm.ix at hi
      rw [F.trS_succ1 (by omega) hb] at hi
      simp only [List.length_append, List.length_singleton] at hi
      rcases Nat.lt_or_ge i (F.ix K) with h | h
      · obtain ⟨k, h1, h2, h3⟩ := ih (by omega) i h
        exact ⟨k, by omega, h2, h3⟩
      · exact ⟨K, by omega, hb, by unfold Fm.ix at *; omega⟩
theorem Fm.ro_lt (hg : F.Good) {k j : Nat} (hk : k ≤ F.nodes.length) (hj : j < F.vars.toNat + k) (h : F.below.getD j false = true) : F.ro j < F.vars.toNat + F.ix k := by
  rcases Nat.lt_or_ge j F.vars.toNat with hv | hv
  · rw [F.ro_event hv]; omega
  · obtain ⟨i, rfl⟩ : ∃ i, j = F.vars.toNat + i := ⟨j - F.vars.toNat, by omega⟩
    rw [F.ro_node (by omega) h]
    have := F.ix_lt (show i < k by omega) hk h
    omega
theorem Fm.trim_fits (hg : F.Good) {i : Nat} (hi : i < F.trim.nodes.length) : ∃ k, ∃ hk : k < F.nodes.length, F.below.getD (F.vars.toNat + k) false = true ∧ F.ix k = i ∧ F.trim.nodes[i] = F.ren F.nodes[k] := by
  obtain ⟨k, h1, h2, h3⟩ := F.ix_surj (Nat.le_refl _) i (by rw [← F.trim_len]; exact hi)
  refine ⟨k, h1, h2, h3, ?_⟩
  have := Fm.trim_at hg h1 h2
  rw [h3] at this
  exact (List.getElem?_eq_some_iff.1 this).2
theorem Fm.trim_good (hg : F.Good) : F.trim.Good := by
  have g0 := hg.v0; have g1 := hg.v1; have g2 := hg.n1; have gt := hg.topLt
  have hix : F.ix F.nodes.length ≤ F.nodes.length := trS_le _
  refine ⟨g0, g1, by rw [F.trim_len]; omega, fun i hi => ?_, ?_⟩
  · obtain ⟨k, hk, h2, h3, h4⟩ := Fm.trim_fits hg hi
    rw [h4, F.trim_vars]
    have f := hg.fits k hk
    refine nodeErr_none.2 ⟨f.k0, f.k1, by simpa [Fm.ren] using f.ar, ?_, by simpa [Fm.ren] using f.kk⟩
    intro a ha
    simp only [Fm.ren, List.mem_map] at ha
    obtain ⟨b, hb, rfl⟩ := ha
    have := Fm.ro_lt hg (k := k) (by omega) (hg.argLt hk b hb) (Fm.below_closed hg hk h2 b hb)
    rw [h3] at this
    omega
  · have := Fm.ro_lt hg (k := F.nodes.length) (Nat.le_refl _) (show F.top.toNat < _ by omega) (Fm.below_top hg)
    unfold Fm.valid
    rw [F.trim_top, F.trim_vars, F.trim_len]
    simp
    omega
theorem Fm.trim_val (hg : F.Good) (z : Int) : ∀ j, F.below.getD j false = true → F.trim.val z (F.ro j) = F.val z j := by
  have hg' := Fm.trim_good hg
  intro j
  induction j using Nat.strongRecOn with
  | _ j ih =>
    intro hj
    have hlt := Fm.below_lt hj
    rcases Nat.lt_or_ge j F.vars.toNat with hv | hv
    · rw [F.ro_event hv, F.val_event z hv, F.trim.val_event z (by rw [F.trim_vars]; exact hv)]
    · obtain ⟨k, rfl⟩ : ∃ k, j = F.vars.toNat + k := ⟨j - F.vars.toNat, by omega⟩
      have hk : k < F.nodes.length := by omega
      rw [F.ro_node hk hj, Fm.val_node hg z hk]
      have hat := Fm.trim_at hg hk hj
      obtain ⟨hi, he⟩ := List.getElem?_eq_some_iff.1 hat
      have := Fm.val_node hg' z hi
      rw [F.trim_vars] at this
      rw [this, he]
      have hc : cntOf (F.trim.val z) (F.ren F.nodes[k]).args = cntOf (F.val z) F.nodes[k].args := by
        unfold cntOf Fm.ren
        simp only [List.countP_map]
        refine List.countP_congr fun a ha => ?_
        simp only [Function.comp, Int.toNat_natCast]
        rw [ih a.toNat (hg.argLt hk a ha) (Fm.below_closed hg hk hj a ha)]
      rw [hc]
      unfold nodeVal Fm.ren
      simp
theorem Fm.trim_value (hg : F.Good) (z : Int) : F.trim.value z = F.value z := by
  rw [Fm.value_eq, Fm.value_eq, F.trim_top, Int.toNat_natCast]
  exact Fm.trim_val hg z _ (Fm.below_top hg)
end
theorem belowL_inv (v : Nat) (nodes : List Nd) (ha : ∀ (i : Nat) (h : i < nodes.length), ∀ a ∈ nodes[i].args, a.toNat < v + i) : ∀ (i : Nat), i ≤ nodes.length → ∀ (m : List Bool) (j : Nat), m.length = v + nodes.length → (belowL v nodes i m).getD j false = true →
    m.getD j false = true ∨ ∃ k, ∃ hk : k < nodes.length, (belowL v nodes i m).getD (v + k) false = true ∧ ∃ a ∈ nodes[k].args, a.toNat = j := by
  intro i
  induction i with
  | zero => intro _ m j _ h; exact .inl h
  | succ i ih =>
    intro hi m j hm h
    unfold belowL at h ⊢
    have hlen : (bif m.getD (v + i) false then markArgs m (nodes.getD i ⟨0, 0, []⟩).args else m).length = v + nodes.length := by
      cases m.getD (v + i) false <;> simp [markArgs_length, hm]
    rcases ih (by omega) _ j hlen h with h1 | h1
    · cases hc : m.getD (v + i) false with
      | false => rw [hc] at h1; exact .inl h1
      | true =>
        rw [hc] at h1
        simp only [cond_true, markArgs_getD, Bool.or_eq_true, Bool.and_eq_true] at h1
        rcases h1 with h1 | ⟨_, h1⟩
        · exact .inl h1
        · rw [List.any_eq_true] at h1
          obtain ⟨a, haa, hae⟩ := h1
          have hn : nodes.getD i ⟨0, 0, []⟩ = nodes[i] := by simp [show i < nodes.length by omega]
          rw [hn] at haa
          refine .inr ⟨i, by omega, ?_, a, haa, by simpa using hae⟩
          refine belowL_mono v nodes i _ _ ?_
          simp only [cond_true, markArgs_getD, hc, Bool.true_or]
    · exact .inr h1
section
variable {F : Fm}
theorem Fm.below_inv (hg : F.Good) {j : Nat} (h : F.below.getD j false = true) : j = F.top.toNat ∨ ∃ k, ∃ hk : k < F.nodes.length, F.below.getD (F.vars.toNat + k) false = true ∧ ∃ a ∈ F.nodes[k].args, a.toNat = j := by
  rcases belowL_inv F.vars.toNat F.nodes (fun i h => hg.argLt h) F.nodes.length (Nat.le_refl _) _ j (by simp) h with h1 | h1
  · left
    rw [List.getD_eq_getElem?_getD, List.getElem?_set] at h1
    split at h1
    · rename_i e; exact e.symm
    · rw [List.getElem?_replicate] at h1
      split at h1 <;> simp at h1
  · exact .inr h1
theorem Fm.trim_below (hg : F.Good) : ∀ (c j : Nat), j + c = F.vars.toNat + F.nodes.length → F.below.getD j false = true → F.trim.below.getD (F.ro j) false = true := by
  have hg' := Fm.trim_good hg
  intro c
  induction c using Nat.strongRecOn with
  | _ c ih =>
    intro j hjc hj
    rcases Fm.below_inv hg hj with rfl | ⟨k, hk, hm, a, ha, rfl⟩
    · have := Fm.below_top hg'
      rwa [F.trim_top, Int.toNat_natCast] at this
    · have hlt := hg.argLt hk a ha
      have h1 := ih (F.nodes.length - k) (by omega) (F.vars.toNat + k) (by omega) hm
      rw [F.ro_node hk hm] at h1
      have hat := Fm.trim_at hg hk hm
      obtain ⟨hi, he⟩ := List.getElem?_eq_some_iff.1 hat
      have h2 := Fm.below_closed hg' hi (by rw [F.trim_vars]; exact h1) ((F.ro a.toNat : Nat) : Int) (by
        rw [he]; exact List.mem_map.2 ⟨a, ha, rfl⟩)
      rwa [Int.toNat_natCast] at h2
theorem Fm.trim_marked (hg : F.Good) {i : Nat} (hi : i < F.trim.nodes.length) : F.trim.below.getD (F.vars.toNat + i) false = true := by
  obtain ⟨k, hk, h2, h3, h4⟩ := Fm.trim_fits hg hi
  have := Fm.trim_below hg (F.nodes.length - k) (F.vars.toNat + k) (by omega) h2
  rwa [F.ro_node hk h2, h3] at this
theorem Fm.trim_event (hg : F.Good) {j : Nat} (hj : j < F.vars.toNat) : F.trim.below.getD j false = F.below.getD j false := by
  have hg' := Fm.trim_good hg
  cases hb : F.below.getD j false with
  | true =>
    have := Fm.trim_below hg (F.vars.toNat + F.nodes.length - j) j (by omega) hb
    rwa [F.ro_event hj] at this
  | false =>
    cases hc : F.trim.below.getD j false with
    | false => rfl
    | true =>
      exfalso
      have key : ∀ q, F.below.getD q false = true → F.ro q = j → False := by
        intro q hq he
        rcases Nat.lt_or_ge q F.vars.toNat with hv | hv
        · rw [F.ro_event hv] at he
          subst he
          rw [hb] at hq; cases hq
        · obtain ⟨k, rfl⟩ : ∃ k, q = F.vars.toNat + k := ⟨q - F.vars.toNat, by omega⟩
          have := Fm.below_lt hq
          rw [F.ro_node (by omega) hq] at he
          omega
      rcases Fm.below_inv hg' hc with h1 | ⟨i, hi, hm, a, ha, h1⟩
      · rw [F.trim_top, Int.toNat_natCast] at h1
        exact key _ (Fm.below_top hg) h1.symm
      · obtain ⟨k, hk, h2, h3, h4⟩ := Fm.trim_fits hg hi
        rw [h4] at ha
        simp only [Fm.ren, List.mem_map] at ha
        obtain ⟨b, hb2, rfl⟩ := ha
        rw [Int.toNat_natCast] at h1
        exact key b.toNat (Fm.below_closed hg hk h2 b hb2) h1
end
theorem setOf_congr {m m' : List Bool} : ∀ (v : Nat), (∀ i, i < v → m.getD i false = m'.getD i false) → setOf m v = setOf m' v
  | 0, _ => rfl
  | v + 1, h => by
    unfold setOf
    rw [setOf_congr v (fun i hi => h i (by omega)), h v (by omega)]
theorem Fm.trim_support {F : Fm} (hg : F.Good) : F.trim.support = F.support := by
  unfold Fm.support
  exact setOf_congr _ (fun i hi => Fm.trim_event hg hi)
theorem szN_ix (F : Fm) {k : Nat} (hk : k ≤ F.nodes.length) : szN F.below F.vars.toNat k = F.ix k := by
  induction k with
  | zero => rfl
  | succ k ih =>
    unfold szN Fm.ix
    rw [ih (by omega), F.trS_succ (by omega)]
    cases F.below.getD (F.vars.toNat + k) false <;> simp [Fm.ix]
theorem szN_all {m : List Bool} {v n : Nat} (h : ∀ i, i < n → m.getD (v + i) false = true) : ∀ k, k ≤ n → szN m v k = k
  | 0, _ => rfl
  | k + 1, hk => by unfold szN; rw [h k (by omega), szN_all h k (by omega)]; rfl
def argSum (ns : List Nd) : Nat := (ns.map (fun d => d.args.length)).sum
theorem argSum_snoc (ns : List Nd) (d : Nd) : argSum (ns ++ [d]) = argSum ns + d.args.length := by simp [argSum]
theorem szA_ix (F : Fm) {k : Nat} (hk : k ≤ F.nodes.length) : szA F.below F.vars.toNat F.nodes k = argSum (F.trS k).2 := by
  induction k with
  | zero => rfl
  | succ k ih =>
    unfold szA
    rw [ih (by omega), F.trS_succ (by omega)]
    have hn : F.nodes.getD k ⟨0, 0, []⟩ = F.nodes[k] := by simp [show k < F.nodes.length by omega]
    rw [hn]
    cases F.below.getD (F.vars.toNat + k) false with
    | false => rfl
    | true => simp only [cond_true, argSum_snoc, trN, trA_length]
theorem szA_all {m : List Bool} {v : Nat} {nodes : List Nd} (h : ∀ i, i < nodes.length → m.getD (v + i) false = true) : ∀ k, k ≤ nodes.length → szA m v nodes k = argSum (nodes.take k)
  | 0, _ => by simp [szA, argSum]
  | k + 1, hk => by
    unfold szA
    have hn : nodes.getD k ⟨0, 0, []⟩ = nodes[k] := by simp [show k < nodes.length by omega]
    rw [h k (by omega), szA_all h k (by omega), hn, List.take_succ_eq_append_getElem (by omega), argSum_snoc]
    rfl
theorem Fm.trim_sizeN {F : Fm} (hg : F.Good) : F.trim.sizeN = F.sizeN ∧ F.trim.sizeN = F.trim.nodes.length := by
  have h1 : F.trim.sizeN = F.trim.nodes.length := szN_all (n := F.trim.nodes.length) (fun i hi => by rw [F.trim_vars]; exact Fm.trim_marked hg hi) _ (Nat.le_refl _)
  refine ⟨?_, h1⟩
  rw [h1, F.trim_len]
  exact (szN_ix F (Nat.le_refl _)).symm
theorem Fm.trim_sizeA {F : Fm} (hg : F.Good) : F.trim.sizeA = F.sizeA := by
  unfold Fm.sizeA
  rw [szA_all (fun i hi => by rw [F.trim_vars]; exact Fm.trim_marked hg hi) _ (Nat.le_refl _), List.take_length, szA_ix F (Nat.le_refl _)]
  rfl
theorem trS_all {F : Fm} (hg : F.Good) (h : ∀ i, i < F.nodes.length → F.below.getD (F.vars.toNat + i) false = true) : ∀ k, k ≤ F.nodes.length → F.trS k = (List.range (F.vars.toNat + k) ++ List.replicate (F.nodes.length - k) 0, F.nodes.take k) := by
  intro k
  induction k with
  | zero => intro _; simp [Fm.trS, GL.trS]
  | succ k ih =>
    intro hk
    have ih := ih (by omega)
    have hx : F.ix k = k := by unfold Fm.ix; rw [ih]; simp; omega
    rw [F.trS_succ1 (by omega) (h k (by omega))]
    have hset : (F.trS k).1.set (F.vars.toNat + k) (F.vars.toNat + (F.trS k).2.length) = List.range (F.vars.toNat + (k + 1)) ++ List.replicate (F.nodes.length - (k + 1)) 0 := by
      have h2 : (F.trS k).2.length = k := hx
      rw [h2, ih]
      simp only
      rw [List.set_append_right _ _ (by simp), List.length_range, Nat.sub_self, show F.nodes.length - k = (F.nodes.length - (k + 1)) + 1 by omega, List.replicate_succ, show F.vars.toNat + (k + 1) = F.vars.toNat + k + 1 by omega, List.range_succ]
      simp
    have hnode : trN (F.trS k).1 F.nodes[k] = F.nodes[k] := by
      refine Nd.ext' rfl rfl ?_
      unfold trN trA
      simp only
      have : ∀ a ∈ F.nodes[k].args, (((F.trS k).1.getD a.toNat 0 : Nat) : Int) = a := by
        intro a ha
        have h3 := hg.argLt (by omega) a ha
        have h4 := (hg.fits k (by omega)).args a ha
        rw [ih, List.getD_eq_getElem?_getD, List.getElem?_append_left (by simpa using h3)]
        simp [h3]
        omega
      calc _ = F.nodes[k].args.map id := List.map_congr_left this
        _ = _ := List.map_id _
    rw [hset, hnode, ih, List.take_succ_eq_append_getElem (by omega)]
theorem Fm.trim_trim {F : Fm} (hg : F.Good) : F.trim.trim = F.trim := by
  have hg' := Fm.trim_good hg
  have h := trS_all hg' (fun i hi => by rw [F.trim_vars]; exact Fm.trim_marked hg hi) F.trim.nodes.length (Nat.le_refl _)
  have gt := hg'.topLt; have g0 := hg'.v0
  refine Fm.ext' rfl ?_ ?_
  · show (F.trim.trS F.trim.nodes.length).2 = _
    rw [h]; simp
  · show (((F.trim.trS F.trim.nodes.length).1.getD F.trim.top.toNat 0 : Nat) : Int) = _
    rw [h, List.getD_eq_getElem?_getD, List.getElem?_append_left (by simp; omega)]
    simp [show F.trim.top.toNat < F.trim.vars.toNat + F.trim.nodes.length by omega]
    omega
theorem depFrom_node (l : List Nd) (v0 : List Nat) (i : Nat) (hi : i < l.length) (ha : ∀ a ∈ l[i].args, a.toNat < v0.length + i) :
    (depFrom v0 l).getD (v0.length + i) 0 = maxD (depFrom v0 l) l[i].args + 1 := by
  have hsplit : l = l.take i ++ l[i] :: l.drop (i + 1) := by
    rw [List.getElem_cons_drop]
    simp
  have hlen : (depFrom v0 (l.take i)).length = v0.length + i := by
    rw [depFrom_length, List.length_take]
    omega
  have h1 : depFrom v0 l = depFrom (depFrom v0 (l.take i) ++ [maxD (depFrom v0 (l.take i)) l[i].args + 1]) (l.drop (i + 1)) := by
    conv => lhs; rw [hsplit]
    rw [depFrom_append]
    rfl
  have hm : ∀ (args : List Int) (ds es : List Nat), (∀ a ∈ args, ds.getD a.toNat 0 = es.getD a.toNat 0) → maxD ds args = maxD es args := by
    intro args ds es h
    unfold maxD
    suffices ∀ m, args.foldl (fun m a => max m (ds.getD a.toNat 0)) m = args.foldl (fun m a => max m (es.getD a.toNat 0)) m from this 0
    induction args with
    | nil => intro m; rfl
    | cons a r ih =>
      intro m
      simp only [List.foldl_cons]
      rw [h a (by simp), ih (fun b hb => h b (List.mem_cons_of_mem _ hb))]
  have h2 : maxD (depFrom v0 (l.take i)) l[i].args = maxD (depFrom v0 l) l[i].args := by
    refine hm _ _ _ fun a haa => ?_
    have hlt := ha a haa
    rw [h1, depFrom_getD_lt (l.drop (i + 1)) _ a.toNat (by rw [List.length_append, hlen, List.length_singleton]; omega)]
    rw [List.getD_eq_getElem?_getD, List.getD_eq_getElem?_getD, List.getElem?_append_left (show a.toNat < (depFrom v0 (l.take i)).length by omega)]
  rw [← h2, h1, depFrom_getD_lt (l.drop (i + 1)) _ (v0.length + i) (by rw [List.length_append, hlen, List.length_singleton]; omega), ← hlen]
  simp [List.getD_eq_getElem?_getD]
theorem Fm.dep_event (F : Fm) {j : Nat} (hj : j < F.vars.toNat) : F.depths.getD j 0 = 0 := by
  unfold Fm.depths
  rw [depFrom_getD_lt _ _ _ (by simpa using hj)]
  simp [List.getD_eq_getElem?_getD, List.getElem?_replicate, hj]
theorem Fm.dep_node {F : Fm} (hg : F.Good) {i : Nat} (hi : i < F.nodes.length) : F.depths.getD (F.vars.toNat + i) 0 = maxD F.depths F.nodes[i].args + 1 := by
  have := depFrom_node F.nodes (List.replicate F.vars.toNat 0) i hi (by rw [List.length_replicate]; exact hg.argLt hi)
  rw [List.length_replicate] at this
  exact this
theorem Fm.trim_dep {F : Fm} (hg : F.Good) : ∀ j, F.below.getD j false = true → F.trim.depths.getD (F.ro j) 0 = F.depths.getD j 0 := by
  have hg' := Fm.trim_good hg
  intro j
  induction j using Nat.strongRecOn with
  | _ j ih =>
    intro hj
    have hlt := Fm.below_lt hj
    rcases Nat.lt_or_ge j F.vars.toNat with hv | hv
    · rw [F.ro_event hv, F.dep_event hv, F.trim.dep_event (by rw [F.trim_vars]; exact hv)]
    · obtain ⟨k, rfl⟩ : ∃ k, j = F.vars.toNat + k := ⟨j - F.vars.toNat, by omega⟩
      have hk : k < F.nodes.length := by omega
      rw [F.ro_node hk hj, Fm.dep_node hg hk]
      obtain ⟨hi, he⟩ := List.getElem?_eq_some_iff.1 (Fm.trim_at hg hk hj)
      have := Fm.dep_node hg' hi
      rw [F.trim_vars] at this
      rw [this, he]
      congr 1
      unfold maxD Fm.ren
      simp only [List.foldl_map, Int.toNat_natCast]
      suffices ∀ (l : List Int) (m : Nat), (∀ a ∈ l, a ∈ F.nodes[k].args) → l.foldl (fun m a => max m (F.trim.depths.getD (F.ro a.toNat) 0)) m = l.foldl (fun m a => max m (F.depths.getD a.toNat 0)) m from this _ 0 (fun a h => h)
      intro l
      induction l with
      | nil => intro m _; rfl
      | cons a r ihl =>
        intro m hs
        simp only [List.foldl_cons]
        have ha := hs a (by simp)
        rw [ih a.toNat (hg.argLt hk a ha) (Fm.below_closed hg hk hj a ha), ihl _ (fun b hb => hs b (List.mem_cons_of_mem _ hb))]
theorem Fm.trim_depth {F : Fm} (hg : F.Good) : F.trim.depth = F.depth := by
  unfold Fm.depth
  rw [F.trim_top, Int.toNat_natCast]
  exact Fm.trim_dep hg _ (Fm.below_top hg)
end Go.GL
namespace Go.GL
set_option linter.unusedVariables false
set_option linter.unusedSimpArgs false
def inD : List Nat → Nat → Bool
  | [], _ => false
  | a :: r, k => match Nat.beq a k with | true => true | false => inD r k
theorem inD_iff {D : List Nat} {k : Nat} : inD D k = true ↔ k ∈ D := by
  induction D with
  | nil => simp [inD]
  | cons a r ih =>
    unfold inD
    cases hb : Nat.beq a k with
    | true => simp [Nat.eq_of_beq_eq_true hb]
    | false =>
      have : a ≠ k := fun e => by subst e; simp at hb
      simp only [ih, List.mem_cons]
      exact ⟨.inr, fun h => h.resolve_left (fun e => this e.symm)⟩
def subs : List Nat → List (List Nat)
  | [] => [[]]
  | m :: r => subs r ++ (subs r).map (m :: ·)
theorem filter_mem_subs : ∀ (l : List Nat) (p : Nat → Bool), l.filter p ∈ subs l
  | [], p => by simp [subs]
  | m :: r, p => by
    have ih := filter_mem_subs r p
    unfold subs
    rw [List.filter_cons, List.mem_append]
    split
    · exact .inr (List.mem_map.2 ⟨_, ih, rfl⟩)
    · exact .inl ih
def bitM (MS : List Nat) (j i : Nat) : Bool := (MS.getD j 0).testBit i
def closedSubs (MS isM : List Nat) : List (List Nat) := (subs isM).filter fun D => isM.all fun m => !inD D m || isM.all fun m' => !bitM MS m m' || inD D m'
def subsOk (MS isM : List Nat) (CS : List (List Nat)) (i : Nat) : List (List Nat) :=
  CS.filter fun D => isM.all fun m => (!bitM MS i m || inD D m) && ((!(bitM MS m i) && !Nat.beq m i) || !inD D m)
theorem mem_of_eq {D : List Nat} {L L' : List (List Nat)} (h : D ∈ L) (e : L = L') : D ∈ L' := e ▸ h
def insD (isM : List Nat) (i : Nat) (D : List Nat) : List Nat := isM.filter fun m => Nat.beq m i || inD D m
def isMOk' (l : List Oper) (isM : List Nat) : Bool := decide isM.Nodup && isM.all (fun m => Nat.blt m l.length)
def on (D yes no : List Nat) (e : List Ent) : List Ent := match yes.all (inD D) && no.all (fun k => !inD D k) with | true => e | false => []
section
variable {P : Program} {n : Nat} {S : List (Nat × Value)} {H : List Ent} {A : Array Oper} {Q : Exit → Act → World → Prop}
def DM {X : Type} (n : Nat) (S : List (Nat × Value)) (l : List Oper) (V : X → Nat → Value) (Hs : X → List Nat → List Ent) (i : Nat) (D' : List Nat) (x : X) (Q : Exit → Act → World → Prop) : Exit → Act → World → Prop :=
  Exit.then (fun a w => ∃ x', (∀ j, j ≠ i → clo l j i = false → V x' j = V x j) ∧
    Sl n (match dstOf l i with | some d => (d, V x' i) :: S | none => S) a ∧ Mem (Hs x' D') w) Q
def ObM {X : Type} (P : Program) (n : Nat) (S0 S1 : List (Nat × Value)) (l : List Oper) (V : X → Nat → Value) (Hs : X → List Nat → List Ent) (isM MS : List Nat) (CS : List (List Nat)) (Q : Exit → Act → World → Prop) (i : Nat) (o : Oper) : Prop :=
  (∀ x S D, Ext S0 S → Ext (early l S1 i) S → DepsAre S l (V x) (afters o) → D ∈ subsOk MS isM CS i →
      (match o.guard with | none => True | some (j, b) => V x j = .bool b) →
      TOps P n S (Hs x D) [{ o with guard := none }] l.toArray (DM n S l V Hs i (bif isM.contains i then insD isM i D else D) x Q)) ∧
  (match o.guard with
    | none => True
    | some (j, b) => (∃ d, o.dst = some d) ∧ ((isM.contains i = false ∧ ∀ x, V x j = .bool b ∨ ((V x j = .bool (!b) ∨ ∃ vs, V x j = .tuple vs) ∧ V x i = undef)) ∨ ∀ x, V x j = .bool b))
def ObsM {X : Type} (P : Program) (n : Nat) (S0 S1 : List (Nat × Value)) (l : List Oper) (V : X → Nat → Value) (Hs : X → List Nat → List Ent) (isM MS : List Nat) (CS : List (List Nat)) (Q : Exit → Act → World → Prop) : Nat → List Oper → Prop
  | _, [] => True
  | i, o :: r => ObM P n S0 S1 l V Hs isM MS CS Q i o ∧ ObsM P n S0 S1 l V Hs isM MS CS Q (i + 1) r
theorem ObsM.at {X : Type} {S0 S1 : List (Nat × Value)} {l : List Oper} {V : X → Nat → Value} {Hs : X → List Nat → List Ent} {isM MS : List Nat} {CS : List (List Nat)} :
    ∀ (r : List Oper) (k : Nat), ObsM P n S0 S1 l V Hs isM MS CS Q k r → ∀ i o, r[i]? = some o → ObM P n S0 S1 l V Hs isM MS CS Q (k + i) o
  | [], k, _, i, o, h => by simp at h
  | o' :: r, k, ⟨h1, h2⟩, 0, o, h => by
    simp at h
    subst h
    exact h1
  | o' :: r, k, ⟨h1, h2⟩, i + 1, o, h => by
    have := ObsM.at r (k + 1) h2 i o (by simpa using h)
    rwa [show k + (i + 1) = k + 1 + i by omega]
theorem Tri.drawM0 {X : Type} {id : Nat} {l : List Oper} (hm : P.follows .mixedOrders = true) (S0 S1 : List (Nat × Value)) (V : X → Nat → Value) (Hs : X → List Nat → List Ent) (isM MS : List Nat) (CS : List (List Nat)) (x0 : X)
    (hok : drawOk n S0 l = true) (hMok : isMOk' l isM = true) (hMS : masksFrom [] l = MS) (hCS : closedSubs MS isM = CS) (hs : Has S S0) (hs1 : Has S S1) (hl : Le H (Hs x0 []))
    (hob : ObsM P n S0 S1 l V Hs isM MS CS Q 0 l)
    (hq : ∀ x a w, Sl n S0 a → (∀ j d, dstOf l j = some d → d < n ∧ a.tmps.getD d undef = V x j) → Mem (Hs x isM) w → Q .normal a w) : Tri P n S H (.region id l.toArray true) Q := by
  simp only [isMOk', Bool.and_eq_true, decide_eq_true_eq] at hMok
  obtain ⟨m1, m2⟩ := hMok
  have m2' : ∀ m ∈ isM, m < l.length := fun m hm => by simpa [Nat.blt_eq] using List.all_eq_true.1 m2 m hm
  intro a0 w0 hS hM
  refine wp_region_any hm ?_
  have full : ∀ (L : Array Bool) x a w, DInv n S0 S1 l V (fun _ _ => []) isM L x a w → Mem (Hs x (isM.filter (fun m => L[m]? == some true))) w → (∀ i, i < l.length → L[i]? = some true) → Q .normal a w := by
    intro L x a w h hme hall
    refine hq x a w h.s0 (fun j d hj => ?_) ?_
    · have hjl : j < l.length := by
        rcases Nat.lt_or_ge j l.length with h' | h'
        · exact h'
        · simp [dstOf, List.getElem?_eq_none h'] at hj
      exact h.vals j d (hall j hjl) hj
    · have hfil : (isM.filter (fun m => L[m]? == some true)) = isM := by
        rw [List.filter_eq_self]
        intro m hm
        simp [hall m (m2' m hm)]
      rwa [hfil] at hme
  have allL : ∀ (L : Array Bool), L.size = l.length → Region.ready .any l.toArray L = [] → ∀ i, i < l.length → L[i]? = some true := by
    intro L hsz hr i
    induction i using Nat.strongRecOn with
    | _ i ih =>
      intro hi
      by_cases hL : L[i]? = some true
      · exact hL
      · have ho : l[i]? = some l[i] := List.getElem?_eq_getElem hi
        have hmem : i ∈ Region.ready .any l.toArray L := (mem_ready hsz i).2 ⟨_, ho, hL, fun j hj => by
          have hji := (drawOk.at hok ho).1 j hj
          exact ih j hji (by omega)⟩
        rw [hr] at hmem
        cases hmem
  have main : ∀ (fuel : Nat) (U : List Nat) (L : Array Bool) x a w, U.Nodup → (∀ i, i < l.length → ¬ L[i]? = some true → i ∈ U) → U.length ≤ fuel → (DInv n S0 S1 l V (fun _ _ => []) isM L x a w ∧ Mem (Hs x (isM.filter (fun m => L[m]? == some true))) w) →
      wpAny P .any l.toArray Q fuel L a w := by
    intro fuel
    induction fuel with
    | zero =>
      intro U L x a w hU hm hf hh
      obtain ⟨h, hme⟩ := hh
      have hall : ∀ i, i < l.length → L[i]? = some true := by
        intro i hi
        by_cases hL : L[i]? = some true
        · exact hL
        · have := hm i hi hL
          have h0 : U = [] := List.eq_nil_of_length_eq_zero (by omega)
          rw [h0] at this
          cases this
      refine ⟨?_, full L x a w h hme hall⟩
      refine List.eq_nil_iff_forall_not_mem.2 fun i hi => ?_
      obtain ⟨o, ho, hn, _⟩ := (mem_ready h.size i).1 hi
      exact hn (hall i (List.getElem?_eq_some_iff.1 ho).1)
    | succ fuel ih =>
      intro U L x a w hU hm hf hh
      obtain ⟨h, hme⟩ := hh
      refine ⟨fun hr => full L x a w h hme (allL L h.size hr), fun i hi => ?_⟩
      obtain ⟨o, ho, hn, hL⟩ := (mem_ready h.size i).1 hi
      have hil : i < l.length := (List.getElem?_eq_some_iff.1 ho).1
      have hiL : i < L.size := by rw [h.size]; exact hil
      have hiU := hm i hil hn
      have next : ∀ x' a' w', (DInv n S0 S1 l V (fun _ _ => []) isM (L.setIfInBounds i true) x' a' w' ∧ Mem (Hs x' (isM.filter (fun m => (L.setIfInBounds i true)[m]? == some true))) w') → wpAny P .any l.toArray Q fuel (L.setIfInBounds i true) a' w' := by
        intro x' a' w' h'
        refine ih (U.erase i) _ x' a' w' (hU.erase i) (fun k hk hLk => ?_) ?_ h'
        · rw [setB _ hiL] at hLk
          exact (List.mem_erase_of_ne (fun e => hLk (.inl e))).2 (hm k hk (fun h => hLk (.inr h)))
        · rw [List.length_erase_of_mem hiU]
          omega
      obtain ⟨a1, a2, a3⟩ := drawOk.at hok ho
      have hO := ObsM.at l 0 hob i o ho
      rw [Nat.zero_add] at hO
      obtain ⟨hO1, hO2⟩ := hO
      have hclo : ∀ k, clo l i k = true → L[k]? = some true := by
        intro k hk
        obtain ⟨o', ho', j, hj, hjk⟩ := clo_spec hk
        rw [ho] at ho'
        cases ho'
        rcases hjk with rfl | hjk
        · exact hL k hj
        · exact h.closure hok j (hL j hj) k hjk
      have hearly : ∀ k v, get (early l S1 i) k = some v → get S1 k = some v ∧ k < n ∧ a.tmps.getD k undef = v := by
        intro k v hk
        obtain ⟨g1, g2⟩ := get_filter_early hk
        refine ⟨g1, h.s1 k v g1 (fun w hw hLw => ?_)⟩
        exact hn (h.closure hok w hLw i (g2 w hw))
      obtain ⟨D, hDe⟩ : ∃ D, D = isM.filter (fun m => L[m]? == some true) := ⟨_, rfl⟩
      have hDmem : ∀ m ∈ isM, (inD D m = true ↔ L[m]? = some true) := by
        intro m hm
        rw [inD_iff, hDe, List.mem_filter]
        simp [hm]
      have hD : D ∈ subsOk MS isM CS i := by
        have hbit : ∀ a b, bitM MS a b = clo l a b := fun a b => by rw [← hMS]; rfl
        unfold subsOk
        rw [List.mem_filter, ← hCS]
        unfold closedSubs
        rw [List.mem_filter]
        refine ⟨⟨by rw [hDe]; exact filter_mem_subs isM _, ?_⟩, ?_⟩
        · rw [List.all_eq_true]
          intro m hm
          cases hd : inD D m with
          | false => rfl
          | true =>
            simp only [Bool.not_true, Bool.false_or]
            rw [List.all_eq_true]
            intro m' hm'
            rw [hbit]
            cases hc : clo l m m' with
            | false => rfl
            | true => simp only [Bool.not_true, Bool.false_or]; exact (hDmem m' hm').2 (h.closure hok m ((hDmem m hm).1 hd) m' hc)
        · rw [List.all_eq_true]
          intro m hm
          rw [hbit, hbit]
          simp only [Bool.and_eq_true, Bool.or_eq_true, Bool.not_eq_true']
          refine ⟨?_, ?_⟩
          · cases hc : clo l i m with
            | false => exact .inl rfl
            | true => exact .inr ((hDmem m hm).2 (hclo m hc))
          · cases hd : inD D m with
            | false => exact .inr rfl
            | true =>
              left
              have hLm := (hDmem m hm).1 hd
              cases hc : clo l m i with
              | true => exact absurd (h.closure hok m hLm i hc) hn
              | false =>
                cases hb : Nat.beq m i with
                | false => exact ⟨rfl, rfl⟩
                | true => exact absurd (by rw [← Nat.eq_of_beq_eq_true hb]; exact hLm) hn
      have hins : isM.filter (fun m => (L.setIfInBounds i true)[m]? == some true) = insD isM i D := by
        unfold insD
        refine List.filter_congr fun m hm => ?_
        have h1 := hDmem m hm
        have h2 := setB (L := L) m hiL
        by_cases e : m = i
        · subst e
          have : (L.setIfInBounds m true)[m]? = some true := h2.2 (.inl rfl)
          simp [this]
        · have hb : Nat.beq m i = false := by
            cases hb : Nat.beq m i with
            | false => rfl
            | true => exact absurd (Nat.eq_of_beq_eq_true hb) e
          rw [hb, Bool.false_or]
          cases hd : inD D m with
          | true => simp [h2.2 (.inr (h1.1 hd))]
          | false =>
            have : ¬ (L.setIfInBounds i true)[m]? = some true := by
              intro hx
              have := h1.2 ((h2.1 hx).resolve_left e)
              rw [hd] at this; cases this
            simpa using this
      have hinsN : isM.contains i = false → isM.filter (fun m => (L.setIfInBounds i true)[m]? == some true) = D := by
        intro hc
        rw [hDe]
        refine List.filter_congr fun m hm => ?_
        have hne : i ≠ m := by
          intro e
          subst e
          have : isM.contains i = true := by simpa using hm
          rw [this] at hc
          cases hc
        rw [Array.getElem?_setIfInBounds_ne hne]
      have hafter : isM.filter (fun m => (L.setIfInBounds i true)[m]? == some true) = (bif isM.contains i then insD isM i D else D) := by
        cases hc : isM.contains i with
        | true => exact hins
        | false => exact hinsN hc
      rw [← hDe] at hme
      rw [wpOp_of ho]
      have hdeps : ∃ S9, Ext S0 S9 ∧ Ext (early l S1 i) S9 ∧ DepsAre S9 l (V x) (afters o) ∧ Sl n S9 a := by
        have build : ∀ (ds : List Nat), (∀ j ∈ ds, L[j]? = some true) → ∃ S9, Ext S0 S9 ∧ Ext (early l S1 i) S9 ∧ DepsAre S9 l (V x) ds ∧ Sl n S9 a := by
          intro ds
          induction ds with
          | nil =>
            intro _
            have hg : ∀ k v, get (early l S1 i ++ S0) k = some v → k < n ∧ a.tmps.getD k undef = v := by
              intro k v hk
              rw [get_append] at hk
              cases he : get (early l S1 i) k with
              | none => rw [he] at hk; exact h.s0.g k v hk
              | some v' => rw [he] at hk; cases hk; exact (hearly k v he).2
            refine ⟨early l S1 i ++ S0, fun k v hk => ?_, fun k v hk => ?_, trivial, ⟨h.s0.sz, h.s0.df, hg⟩⟩
            · rw [get_append]
              cases he : get (early l S1 i) k with
              | none => exact hk
              | some v' =>
                have h1 := (hearly k v' he).2.2
                have h2 := (h.s0.g k v hk).2
                rw [← h1, h2]; rfl
            · rw [get_append, hk]; rfl
          | cons j ds ihd =>
            intro hds
            obtain ⟨S9, e1, e5, e2, e3⟩ := ihd (fun k hk => hds k (List.mem_cons_of_mem _ hk))
            cases hd : dstOf l j with
            | none => exact ⟨S9, e1, e5, ⟨by simp [hd], e2⟩, e3⟩
            | some d =>
              obtain ⟨v1, v2⟩ := h.vals j d (hds j (by simp)) hd
              have key : ∀ k v, get ((d, V x j) :: S9) k = some v → k < n ∧ a.tmps.getD k undef = v := by
                intro k v hk
                by_cases e : d = k
                · subst e
                  rw [get_cons_same] at hk
                  cases hk
                  exact ⟨v1, v2⟩
                · rw [get_cons_ne e] at hk
                  exact e3.g k v hk
              have hext : ∀ k v, get S9 k = some v → get ((d, V x j) :: S9) k = some v := by
                intro k v hk
                by_cases e : d = k
                · subst e
                  rw [get_cons_same]
                  rw [← (e3.g d v hk).2, v2]
                · rw [get_cons_ne e]
                  exact hk
              refine ⟨(d, V x j) :: S9, fun k v hk => hext k v (e1 k v hk), fun k v hk => hext k v (e5 k v hk), ⟨by simp only [hd]; exact get_cons_same _ _ _, ?_⟩, ⟨e3.sz, e3.df, key⟩⟩
              have up : ∀ (ds' : List Nat), DepsAre S9 l (V x) ds' → DepsAre ((d, V x j) :: S9) l (V x) ds' := by
                intro ds'
                induction ds' with
                | nil => intro _; trivial
                | cons q ds' ihq =>
                  intro hq
                  refine ⟨?_, ihq hq.2⟩
                  have := hq.1
                  cases hdq : dstOf l q with
                  | none => trivial
                  | some dq =>
                    rw [hdq] at this
                    exact hext _ _ this
              exact up ds e2
        exact build (afters o) hL
      obtain ⟨S9, e1, e5, e2, e3⟩ := hdeps
      have run : (match o.guard with | none => True | some (j, b) => V x j = .bool b) →
          o.wp P a w (wpAny P .any l.toArray Q fuel (L.setIfInBounds i true)) Q ∨ (o.asks P a w ∧ LetsOut Q) := by
        intro hg
        have h1 := one_of_TOps (hO1 x S9 D e1 e5 e2 hD hg) e3 hme
        rcases h1 with h1 | h1
        · refine .inl ?_
          have hw : ∀ (r : Result Next), o.upon P a (fun a' w' => ∃ x', (∀ j, j ≠ i → clo l j i = false → V x' j = V x j) ∧
              Sl n (match dstOf l i with | some d => (d, V x' i) :: S9 | none => S9) a' ∧ Mem (Hs x' (bif isM.contains i then insD isM i D else D)) w') Q r →
              (∀ d, r ≠ .ok (.defer d) w → True) → o.upon P a (wpAny P .any l.toArray Q fuel (L.setIfInBounds i true)) Q r := by
            intro r hr _
            have put : ∀ v w', (∃ x', (∀ j, j ≠ i → clo l j i = false → V x' j = V x j) ∧
              Sl n (match dstOf l i with | some d => (d, V x' i) :: S9 | none => S9) (a.put o.dst v) ∧ Mem (Hs x' (bif isM.contains i then insD isM i D else D)) w') →
              wpAny P .any l.toArray Q fuel (L.setIfInBounds i true) (a.put o.dst v) w' := by
              rintro v w' ⟨x', hx', hS', hM'⟩
              refine next x' _ w' ⟨h.step hok ho hL hn hx' (fun d hd => ?_) trivial, by rw [hafter]; exact hM'⟩
              have hdi : dstOf l i = some d := by simp [dstOf, ho, hd]
              rw [hdi] at hS'
              have := (hS'.g d _ (get_cons_same _ _ _)).2
              rw [hd] at this
              have hdn := (a3 d hd).1
              simp [Act.put, e3.sz, hdn] at this
              exact this
            cases r with
            | ok y w' =>
              cases y <;> simp only [Oper.upon] at hr ⊢ <;>
                first
                  | exact put _ _ hr
                  | exact Calls.mono hr (fun e w'' he => by cases e <;> first | exact put _ _ he | exact he)
                  | exact Rows.mono hr (fun _ _ he => put _ _ he)
                  | (exfalso
                     obtain ⟨x', _, hS', _⟩ := hr
                     have := hS'.df
                     cases hdd : o.dst <;> simp [Act.put, hdd] at this)
            | halt y w' => cases y <;> simp only [Oper.upon] at hr ⊢ <;> exact hr
          exact hw _ h1 (fun _ _ => trivial)
        · exact .inr h1
      cases hgd : o.guard with
      | none =>
        have hw : Region.wanted o (yielded l.toArray a.tmps) = true := by simp [Region.wanted, hgd]
        rw [if_pos hw]
        exact run (by rw [hgd]; trivial)
      | some jb =>
        obtain ⟨j, b⟩ := jb
        rw [hgd] at hO2
        obtain ⟨⟨d, hd⟩, hO3⟩ := hO2
        have hjL := hL j (a2 j b hgd).1
        obtain ⟨dj, hdj⟩ := (a2 j b hgd).2
        have hyld : ∀ g, V x j = .bool g → dstOf l j = some dj → Region.wanted o (yielded l.toArray a.tmps) = (g == b) := by
          intro g hg hdj
          obtain ⟨v1, v2⟩ := h.vals j dj hjL hdj
          have : a.tmps[dj]? = some (.bool g) := by
            rw [Array.getElem?_eq_getElem (by rw [h.s0.sz]; exact v1)]
            rw [Array.getD_eq_getD_getElem?, Array.getElem?_eq_getElem (by rw [h.s0.sz]; exact v1), hg] at v2
            simpa using v2
          have hA : (l.toArray[j]?).bind (·.dst) = some dj := by simpa [dstOf] using hdj
          simp only [Region.wanted, hgd, Go.yielded, hA, Option.bind_some, this]
          cases g <;> cases b <;> rfl
        have hyldT : ∀ vs, V x j = .tuple vs → Region.wanted o (yielded l.toArray a.tmps) = false := by
          intro vs hg
          obtain ⟨v1, v2⟩ := h.vals j dj hjL hdj
          have : a.tmps[dj]? = some (.tuple vs) := by
            rw [Array.getElem?_eq_getElem (by rw [h.s0.sz]; exact v1)]
            rw [Array.getD_eq_getD_getElem?, Array.getElem?_eq_getElem (by rw [h.s0.sz]; exact v1), hg] at v2
            simpa using v2
          have hA : (l.toArray[j]?).bind (·.dst) = some dj := by simpa [dstOf] using hdj
          simp only [Region.wanted, hgd, Go.yielded, hA, Option.bind_some, this]
          rfl
        have skip : isM.contains i = false → V x i = undef → Region.wanted o (yielded l.toArray a.tmps) = false → (if Region.wanted o (yielded l.toArray a.tmps) then o.wp P a w (wpAny P .any l.toArray Q fuel (L.setIfInBounds i true)) Q ∨ (o.asks P a w ∧ LetsOut Q) else wpAny P .any l.toArray Q fuel (L.setIfInBounds i true) (a.put o.dst undef) w) := by
          intro hnm hu hw
          rw [hw]
          simp only [Bool.false_eq_true, if_false]
          refine next x _ w ⟨h.step hok ho hL hn (fun _ _ _ => rfl) (fun _ _ => hu.symm) trivial, ?_⟩
          rw [hinsN hnm]
          exact hme
        rcases hO3 with ⟨hnm, hv⟩ | hv
        · rcases hv x with hv | ⟨hv | ⟨vs, hv⟩, hu⟩
          · rw [if_pos (by rw [hyld b hv hdj]; simp)]
            exact run (by rw [hgd]; exact hv)
          · exact skip hnm hu (by rw [hyld _ hv hdj]; cases b <;> rfl)
          · exact skip hnm hu (hyldT vs hv)
        · rw [if_pos (by rw [hyld b (hv x) hdj]; simp)]
          exact run (by rw [hgd]; exact hv x)
  refine main l.toArray.size (List.range l.length) (Array.replicate l.toArray.size false) x0 a0 _ List.nodup_range (fun i hi _ => List.mem_range.2 hi) (by simp) ⟨⟨by simp, ?_, ⟨(hS.weak hs).sz, (hS.weak hs).df, (hS.weak hs).g⟩, fun k v hk _ => (hS.weak hs1).g k v hk, ?_, trivial⟩, ?_⟩
  · intro j o hj hLj
    simp [Array.getElem?_replicate] at hLj
  · intro j d hLj
    simp [Array.getElem?_replicate] at hLj
  · have hz : isM.filter (fun m => (Array.replicate l.toArray.size false)[m]? == some true) = [] := by
      rw [List.filter_eq_nil_iff]
      intro m _
      simp [Array.getElem?_replicate]
    rw [hz]
    exact (hl w0 hM).same (fun e _ => ⟨rfl, rfl, rfl, Nat.le_refl _, fun _ _ => rfl⟩)
theorem Tri.drawM {X : Type} {id : Nat} {l : List Oper} (hm : P.follows .mixedOrders = true) (S0 S1 : List (Nat × Value)) (vs : X → List Value) (Hs : X → List Nat → List Ent) (isM MS : List Nat) (CS : List (List Nat)) (x0 : X) (sel : List Nat)
    (hok : drawOk n S0 l = true) (hMok : isMOk' l isM = true) (hMS : masksFrom [] l = MS) (hCS : closedSubs MS isM = CS) (hs : Has S S0) (hs1 : Has S S1) (hl : Le H (Hs x0 []))
    (hob : ObsM P n S0 S1 l (fun x i => (vs x).getD i undef) Hs isM MS CS Q 0 l)
    (hq : ∀ x, Nrm n (selS l (fun i => (vs x).getD i undef) S0 sel) (Hs x isM) Q) : Tri P n S H (.region id l.toArray true) Q := by
  refine Tri.drawM0 hm S0 S1 (fun x i => (vs x).getD i undef) Hs isM MS CS x0 hok hMok hMS hCS hs hs1 hl hob (fun x a w hS hv hM => hq x a w ?_ hM)
  refine ⟨hS.sz, hS.df, ?_⟩
  clear hq
  induction sel with
  | nil => exact hS.g
  | cons j r ih =>
    intro k v hk
    unfold selS at hk
    cases hd : dstOf l j with
    | none => rw [hd] at hk; exact ih k v hk
    | some d =>
      rw [hd] at hk
      by_cases e : d = k
      · subst e
        rw [get_cons_same] at hk
        cases hk
        exact hv j d hd
      · rw [get_cons_ne e] at hk
        exact ih k v hk
theorem Nrm.drawM {X : Type} {l : List Oper} {V : X → Nat → Value} {Hs : X → List Nat → List Ent} {i : Nat} {D' : List Nat} {x : X} {S1 : List (Nat × Value)} {H1 : List Ent} (x' : X)
    (hx : ∀ j, j ≠ i → clo l j i = false → V x' j = V x j) (hS : S1 = (match dstOf l i with | some d => (d, V x' i) :: S | none => S)) (hl : Le H1 (Hs x' D')) :
    Nrm n S1 H1 (DM n S l V Hs i D' x Q) := by
  intro a w h1 h2
  refine ⟨x', hx, ?_, hl w h2⟩
  rw [← hS]
  exact h1
end
end Go.GL
namespace Go.GL
set_option linter.unusedVariables false
set_option linter.unusedSimpArgs false
section
variable {P : Program} {n : Nat} {S : List (Nat × Value)} {H : List Ent} {A : Array Oper} {Q : Exit → Act → World → Prop}
theorem TOps.indexAddrA {d s x i U p e rest} {E : TypeId} {b off m off' : Nat} {k : IntKind} {z : Int} (hx : opv S x = some (.pointer (some ⟨b, off, none⟩))) (hi : opv S i = some (.int k z))
    (hs : P.underlying s = some (.array m E)) {g : Bool} {zv : List Value} {sz y : Nat} (ht : TI P E g zv sz y) (h0 : 0 ≤ z) (h1 : z < m) (ho : off + z.toNat * sz = off') (hn : Nat.blt d n = true)
    (h : TOps P n ((d, .pointer (some ⟨b, off', none⟩)) :: S) H rest A Q) : TOps P n S H (⟨some d, .indexAddr s x i, U, p, e, none⟩ :: rest) A Q :=
  TOps.pure rfl rfl hn (fun a w hS _ => by
    subst ho
    have : (⟨b, off, none⟩ : Addr).add (z.toNat * sz) = ⟨b, off + z.toNat * sz, none⟩ := by
      by_cases h0 : z.toNat * sz = 0 <;> simp [Addr.add, h0]
    simp [execOp, hS.eval hx, hS.eval hi, Instr.indexAt, asIntOf, run_underlying hs, Instr.sureAddr, h0, h1, ht.size, this]) h
theorem TOps.geqr {d x y T T' U p e rest} {k : IntKind} {a b : Int} {r : Bool} (hx : opv S x = some (.int k a)) (hy : opv S y = some (.int k b)) (hr : decide (b ≤ a) = r) (hn : Nat.blt d n = true)
    (h : TOps P n ((d, .bool r) :: S) H rest A Q) : TOps P n S H (⟨some d, .binOp .geq T x y T', U, p, e, none⟩ :: rest) A Q := by
  subst hr; exact TOps.geq hx hy hn h
theorem TOps.gtrr {d x y T T' U p e rest} {k : IntKind} {a b : Int} {r : Bool} (hx : opv S x = some (.int k a)) (hy : opv S y = some (.int k b)) (hr : decide (b < a) = r) (hn : Nat.blt d n = true)
    (h : TOps P n ((d, .bool r) :: S) H rest A Q) : TOps P n S H (⟨some d, .binOp .gtr T x y T', U, p, e, none⟩ :: rest) A Q := by
  subst hr; exact TOps.gtr hx hy hn h
theorem four {a b t : Int} : decide (a < 0) = true ∨ (decide (a < 0) = false ∧ decide (t ≤ a) = true) ∨ (decide (a < 0) = false ∧ decide (t ≤ a) = false ∧ decide (b < 0) = true) ∨ (decide (a < 0) = false ∧ decide (t ≤ a) = false ∧ decide (b < 0) = false) := by
  by_cases h : a < 0 <;> by_cases g : t ≤ a <;> by_cases f : b < 0 <;> simp [h, g, f]
theorem TOps.convI {d src dst x U p e rest} {k' k : IntKind} {z r : Int} (hx : opv S x = some (.int k' z)) (hs : P.underlying src = some (.int k')) (hd : P.underlying dst = some (.int k)) (hr : k.wrap z = r) (hn : Nat.blt d n = true)
    (h : TOps P n ((d, .int k r) :: S) H rest A Q) : TOps P n S H (⟨some d, .convert src dst x, U, p, e, none⟩ :: rest) A Q :=
  TOps.pure rfl rfl hn (fun a w hS _ => by
    subst hr
    simp [execOp, hS.eval hx, convert, run_underlying hs, run_underlying hd, Conv.intToInt]) h
theorem TOps.makeFunc {d f U p e rest} {caps : List Operand} {vs : List Value} (ha : ArgsAre S caps vs) (hn : Nat.blt d n = true)
    (h : TOps P n ((d, .func (.func f) #[] vs.toArray) :: S) H rest A Q) : TOps P n S H (⟨some d, .makeFunc (.func f) (List.toArray []) caps.toArray, U, p, e, none⟩ :: rest) A Q :=
  TOps.pure rfl rfl hn (fun a w hS _ => by
    have he := ha.eval hS
    simp [execOp, Instr.makeFunc, he]) h
theorem TOps.callV {d x f ts U p e rest} {args : List Operand} {vs caps : List Value} {R : Value → List Ent → Prop} (hx : opv S x = some (.func (.func f) #[] caps.toArray)) (hc : ∀ as w, (callFunc f as).run P w = .ok (.enter f as) w)
    (ha : ArgsAre S args vs) (hg : Gives P f (vs ++ caps) H R) (hn : Nat.blt d n = true)
    (h : ∀ v H', R v H' → TOps P n ((d, v) :: S) H' rest A Q) : TOps P n S H (⟨some d, .call ⟨.value x, args.toArray, ts⟩, U, p, e, none⟩ :: rest) A Q := by
  intro a w hS hM
  refine wpList_plain rfl fun K hK => ?_
  have he := ha.eval hS
  have hr : (execOp a.eval ⟨some d, .call ⟨.value x, args.toArray, ts⟩, U, p, e, none⟩).run P w = .ok (.enter f (vs ++ caps).toArray) w := by
    simp [execOp, resolve, hS.eval hx, Deferred.ofValue, invoke, hc, he]
  unfold Oper.wp
  rw [hr, Oper.upon_enter]
  refine (hg w hM).mono fun en w' h' => ?_
  obtain ⟨v, H', hR, rfl, hM'⟩ := h'
  exact hK _ _ (h v H' hR _ _ (hS.put v (by simpa [Nat.blt_eq] using hn)) hM')
end
section
variable {α : Type} (f : List α → Nd → α)
def genFrom : List α → List Nd → List α
  | v, [] => v
  | v, d :: r => genFrom (v ++ [f v d]) r
theorem genFrom_append (l1 l2 : List Nd) : ∀ v, genFrom f v (l1 ++ l2) = genFrom f (genFrom f v l1) l2 := by
  induction l1 with
  | nil => intro v; rfl
  | cons d r ih => intro v; exact ih _
theorem genFrom_length (l : List Nd) : ∀ v, (genFrom f v l).length = v.length + l.length := by
  induction l with
  | nil => intro v; rfl
  | cons d r ih => intro v; simp [genFrom, ih]; omega
theorem genFrom_take_succ {v : List α} {l : List Nd} {k : Nat} (hk : k < l.length) :
    genFrom f v (l.take (k + 1)) = genFrom f v (l.take k) ++ [f (genFrom f v (l.take k)) l[k]] := by
  rw [List.take_succ_eq_append_getElem hk, genFrom_append]
  rfl
theorem genFrom_getD_lt (z : α) (l : List Nd) : ∀ (v0 : List α) (j : Nat), j < v0.length → (genFrom f v0 l).getD j z = v0.getD j z := by
  induction l with
  | nil => intro v0 j _; rfl
  | cons d r ih =>
    intro v0 j hj
    rw [genFrom, ih _ j (by simp; omega)]
    simp [List.getD_eq_getElem?_getD, List.getElem?_append_left hj]
theorem genFrom_node (z : α) (l : List Nd) (v0 : List α) (i : Nat) (hi : i < l.length) (ha : ∀ a ∈ l[i].args, a.toNat < v0.length + i)
    (hf : ∀ v w : List α, (∀ a ∈ l[i].args, v.getD a.toNat z = w.getD a.toNat z) → f v l[i] = f w l[i]) :
    (genFrom f v0 l).getD (v0.length + i) z = f (genFrom f v0 l) l[i] := by
  have hsplit : l = l.take i ++ l[i] :: l.drop (i + 1) := by
    rw [List.getElem_cons_drop]
    simp
  have hlen : (genFrom f v0 (l.take i)).length = v0.length + i := by
    rw [genFrom_length, List.length_take]
    omega
  have h1 : genFrom f v0 l = genFrom f (genFrom f v0 (l.take i) ++ [f (genFrom f v0 (l.take i)) l[i]]) (l.drop (i + 1)) := by
    conv => lhs; rw [hsplit]
    rw [genFrom_append]
    rfl
  have h2 : f (genFrom f v0 (l.take i)) l[i] = f (genFrom f v0 l) l[i] := by
    refine hf _ _ fun a haa => ?_
    have hlt := ha a haa
    rw [h1, genFrom_getD_lt f z (l.drop (i + 1)) _ a.toNat (by rw [List.length_append, hlen, List.length_singleton]; omega)]
    rw [List.getD_eq_getElem?_getD, List.getD_eq_getElem?_getD, List.getElem?_append_left (show a.toNat < (genFrom f v0 (l.take i)).length by omega)]
  rw [← h2, h1, genFrom_getD_lt f z (l.drop (i + 1)) _ (v0.length + i) (by rw [List.length_append, hlen, List.length_singleton]; omega), ← hlen]
  simp [List.getD_eq_getElem?_getD]
end
def firstI (q : Int → Bool) (xs : List Int) : Int := match xs.findIdx? q with | some i => (i : Int) | none => -1
theorem firstI_at {q : Int → Bool} {xs : List Int} {k : Nat} (hk : k < xs.length) (h : ∀ j (hj : j < xs.length), j < k → q xs[j] = false) (h1 : q xs[k] = true) : firstI q xs = k := by
  have : xs.findIdx? q = some k := by
    rw [List.findIdx?_eq_some_iff_getElem]
    exact ⟨hk, h1, fun j hj => by simp [h j (by omega) hj]⟩
  unfold firstI
  rw [this]
theorem firstI_none {q : Int → Bool} {xs : List Int} (h : ∀ j (hj : j < xs.length), q xs[j] = false) : firstI q xs = -1 := by
  have : xs.findIdx? q = none := by
    rw [List.findIdx?_eq_none_iff]
    intro x hx
    obtain ⟨j, hj, rfl⟩ := List.getElem_of_mem hx
    simp [h j hj]
  unfold firstI
  rw [this]
theorem firstI_some {q : Int → Bool} {xs : List Int} (h : ∃ x ∈ xs, q x = true) : ∃ k, ∃ hk : k < xs.length, firstI q xs = k ∧ q xs[k] = true := by
  cases hf : xs.findIdx? q with
  | none =>
    rw [List.findIdx?_eq_none_iff] at hf
    obtain ⟨x, hx, hq⟩ := h
    rw [hf x hx] at hq; cases hq
  | some k =>
    have h2 := hf
    rw [List.findIdx?_eq_some_iff_getElem] at h2
    obtain ⟨hk, h1, _⟩ := h2
    exact ⟨k, hk, by unfold firstI; rw [hf], h1⟩
end Go.GL
