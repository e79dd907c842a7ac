import Derived.Test.YtlgjmebebhpolaaGL19
namespace Go.GL
set_option linter.unusedVariables false
def szN (m : List Bool) (v : Nat) : Nat → Nat
  | 0 => 0
  | k + 1 => bif m.getD (v + k) false then szN m v k + 1 else szN m v k
def szA (m : List Bool) (v : Nat) (nodes : List Nd) : Nat → Nat
  | 0 => 0
  | k + 1 => bif m.getD (v + k) false then szA m v nodes k + (nodes.getD k ⟨0, 0, []⟩).args.length else szA m v nodes k
theorem szN_le (m : List Bool) (v : Nat) : ∀ k, szN m v k ≤ k
  | 0 => Nat.le_refl _
  | k + 1 => by
    have := szN_le m v k
    unfold szN
    cases m.getD (v + k) false <;> simp <;> omega
theorem szA_le {m : List Bool} {v : Nat} {nodes : List Nd} (h : ∀ i (hi : i < nodes.length), nodes[i].args.length ≤ 16) : ∀ k, k ≤ nodes.length → szA m v nodes k ≤ 16 * k
  | 0, _ => Nat.le_refl _
  | k + 1, hk => by
    have ih := szA_le (m := m) (v := v) h k (by omega)
    have h1 := h k (by omega)
    have hn : nodes.getD k ⟨0, 0, []⟩ = nodes[k] := by simp [show k < nodes.length by omega]
    unfold szA
    rw [hn]
    cases m.getD (v + k) false <;> simp <;> omega
def Fm.sizeN (F : Fm) : Nat := szN F.below F.vars.toNat F.nodes.length
def Fm.sizeA (F : Fm) : Nat := szA F.below F.vars.toNat F.nodes F.nodes.length
theorem setOf_min (m : List Bool) (v k : Nat) : setOf m (min (k + 1) v) = bif (m.getD k false && decide ((k : Int) < (v : Int))) then setOf m (min k v) ||| 2 ^ k else setOf m (min k v) := by
  rcases Nat.lt_or_ge k v with h | h
  · rw [show min (k + 1) v = k + 1 by omega, show min k v = k by omega, decide_eq_true (show (k : Int) < (v : Int) by omega), Bool.and_true]
    rfl
  · rw [show min (k + 1) v = v by omega, show min k v = v by omega, decide_eq_false (show ¬ (k : Int) < (v : Int) by omega), Bool.and_false]
    rfl
def maxD (ds : List Nat) (args : List Int) : Nat := args.foldl (fun m a => max m (ds.getD a.toNat 0)) 0
def depFrom : List Nat → List Nd → List Nat
  | ds, [] => ds
  | ds, d :: r => depFrom (ds ++ [maxD ds d.args + 1]) r
def Fm.depths (F : Fm) : List Nat := depFrom (List.replicate F.vars.toNat 0) F.nodes
def Fm.depth (F : Fm) : Nat := F.depths.getD F.top.toNat 0
theorem depFrom_append (l1 l2 : List Nd) : ∀ ds, depFrom ds (l1 ++ l2) = depFrom (depFrom ds l1) l2 := by
  induction l1 with
  | nil => intro ds; rfl
  | cons d r ih => intro ds; exact ih _
theorem depFrom_length (l : List Nd) : ∀ ds, (depFrom ds l).length = ds.length + l.length := by
  induction l with
  | nil => intro ds; rfl
  | cons d r ih => intro ds; simp [depFrom, ih]; omega
theorem depFrom_take_succ {ds : List Nat} {l : List Nd} {k : Nat} (hk : k < l.length) :
    depFrom ds (l.take (k + 1)) = depFrom ds (l.take k) ++ [maxD (depFrom ds (l.take k)) l[k].args + 1] := by
  rw [List.take_succ_eq_append_getElem hk, depFrom_append]
  rfl
theorem maxD_take_succ {ds : List Nat} {l : List Int} {k : Nat} (hk : k < l.length) : maxD ds (l.take (k + 1)) = max (maxD ds (l.take k)) (ds.getD l[k].toNat 0) := by
  unfold maxD
  rw [List.take_succ_eq_append_getElem hk, List.foldl_append]
  rfl
theorem maxD_le {ds : List Nat} {b : Nat} (h : ∀ j, ds.getD j 0 ≤ b) (args : List Int) : maxD ds args ≤ b := by
  unfold maxD
  suffices ∀ m, m ≤ b → args.foldl (fun m a => max m (ds.getD a.toNat 0)) m ≤ b from this 0 (Nat.zero_le _)
  induction args with
  | nil => intro m hm; exact hm
  | cons a r ih => intro m hm; exact ih _ (Nat.max_le.2 ⟨hm, h _⟩)
theorem depFrom_le (v : Nat) (l : List Nd) : ∀ (ds : List Nat) (b : Nat), (∀ j, ds.getD j 0 ≤ b) → ∀ j, (depFrom ds l).getD j 0 ≤ b + l.length := by
  induction l with
  | nil => intro ds b h j; exact h j
  | cons d r ih =>
    intro ds b h j
    have := ih (ds ++ [maxD ds d.args + 1]) (b + 1) (fun j => ?_) j
    · simp only [depFrom, List.length_cons]; omega
    · rw [List.getD_eq_getElem?_getD]
      rcases Nat.lt_trichotomy j ds.length with hlt | heq | hgt
      · rw [List.getElem?_append_left hlt, ← List.getD_eq_getElem?_getD]
        have := h j
        omega
      · subst heq
        rw [List.getElem?_append_right (Nat.le_refl _)]
        have := maxD_le h d.args
        simp; omega
      · rw [List.getElem?_eq_none (by simp; omega)]
        simp
theorem depFrom_getD_lt (l : List Nd) : ∀ (ds : List Nat) (j : Nat), j < ds.length → (depFrom ds l).getD j 0 = ds.getD j 0 := by
  induction l with
  | nil => intro ds j _; rfl
  | cons d r ih =>
    intro ds j hj
    rw [depFrom, ih _ j (by simp; omega)]
    simp [List.getD_eq_getElem?_getD, List.getElem?_append_left hj]
abbrev nats (l : List Nat) : List Value := l.map (fun (n : Nat) => Value.int .i64 (n : Int))
theorem nats_get {l : List Nat} {i : Nat} (hi : i < l.length) : (nats l)[i]? = some (.int .i64 (l.getD i 0 : Nat)) := by
  simp [hi]
theorem nats_set (l : List Nat) (k b : Nat) : nats (l.set k b) = (nats l).set k (.int .i64 b) := List.map_set
def refDep (v : Nat) (nodes : List Nd) (k : Nat) : List Nat := depFrom (List.replicate v 0) (nodes.take k) ++ List.replicate (nodes.length - k) 0
theorem refDep_length {v : Nat} {nodes : List Nd} {k : Nat} (hk : k ≤ nodes.length) : (refDep v nodes k).length = v + nodes.length := by
  unfold refDep
  rw [List.length_append, depFrom_length, List.length_take, List.length_replicate, List.length_replicate]; omega
theorem refDep_set {v : Nat} {nodes : List Nd} {k : Nat} (hk : k < nodes.length) : (refDep v nodes k).set (v + k) (maxD (depFrom (List.replicate v 0) (nodes.take k)) nodes[k].args + 1) = refDep v nodes (k + 1) := by
  have hl : (depFrom (List.replicate v 0) (nodes.take k)).length = v + k := by rw [depFrom_length, List.length_take, List.length_replicate]; omega
  unfold refDep
  rw [List.set_append_right _ _ (by omega), hl, Nat.sub_self, depFrom_take_succ hk, show nodes.length - k = (nodes.length - (k + 1)) + 1 by omega, List.replicate_succ]
  simp
theorem refDep_get {v : Nat} {nodes : List Nd} {k j : Nat} (hk : k ≤ nodes.length) (hj : j < v + k) : (refDep v nodes k).getD j 0 = (depFrom (List.replicate v 0) (nodes.take k)).getD j 0 := by
  have hl : (depFrom (List.replicate v 0) (nodes.take k)).length = v + k := by rw [depFrom_length, List.length_take, List.length_replicate]; omega
  unfold refDep
  rw [List.getD_eq_getElem?_getD, List.getElem?_append_left (by omega), ← List.getD_eq_getElem?_getD]
theorem refDep_all {v : Nat} {nodes : List Nd} : refDep v nodes nodes.length = depFrom (List.replicate v 0) nodes := by
  unfold refDep; simp
theorem refDep_zero {v : Nat} {nodes : List Nd} : refDep v nodes 0 = List.replicate (v + nodes.length) 0 := by
  unfold refDep; simp [depFrom]
end Go.GL
