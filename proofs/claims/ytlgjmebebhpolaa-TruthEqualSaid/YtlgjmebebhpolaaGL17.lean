import Derived.Test.YtlgjmebebhpolaaGL16
namespace Go.GL
set_option linter.unusedVariables false
theorem bools_set (l : List Bool) (k : Nat) (b : Bool) : bools (l.set k b) = (bools l).set k (.bool b) := List.map_set
def refVals (v : Nat) (ev : List Bool) (nodes : List Nd) (k : Nat) : List Bool := (valsFrom ev (nodes.take k)).drop v ++ List.replicate (nodes.length - k) false
theorem refVals_length {v : Nat} {ev : List Bool} {nodes : List Nd} {k : Nat} (he : ev.length = v) (hk : k ≤ nodes.length) : (refVals v ev nodes k).length = nodes.length := by
  unfold refVals
  rw [List.length_append, List.length_drop, valsFrom_length, List.length_take, List.length_replicate]
  omega
theorem refVals_set {v : Nat} {ev : List Bool} {nodes : List Nd} {k : Nat} (he : ev.length = v) (hk : k < nodes.length) :
    (refVals v ev nodes k).set k (nodeVal nodes[k] (cnt (valsFrom ev (nodes.take k)) nodes[k].args)) = refVals v ev nodes (k + 1) := by
  have hl : ((valsFrom ev (nodes.take k)).drop v).length = k := by rw [List.length_drop, valsFrom_length, List.length_take]; omega
  unfold refVals
  rw [List.set_append_right _ _ (by omega), hl, Nat.sub_self, values_take_succ hk, List.drop_append_of_le_length (by rw [valsFrom_length, List.length_take]; omega), show nodes.length - k = (nodes.length - (k + 1)) + 1 by omega, List.replicate_succ]
  simp
theorem refVals_get {v : Nat} {ev : List Bool} {nodes : List Nd} {k a : Nat} (he : ev.length = v) (hk : k ≤ nodes.length) (h1 : v ≤ a) (h2 : a < v + k) : (refVals v ev nodes k).getD (a - v) false = (valsFrom ev (nodes.take k)).getD a false := by
  have hl : ((valsFrom ev (nodes.take k)).drop v).length = k := by rw [List.length_drop, valsFrom_length, List.length_take]; omega
  unfold refVals
  rw [List.getD_eq_getElem?_getD, List.getElem?_append_left (by omega), List.getElem?_drop, List.getD_eq_getElem?_getD]
  congr 3
  omega
def ofVal (v : Int) (vs : List Bool) (z : Int) (a : Int) : Bool := if a < v then bitB z a.toNat else vs.getD (a - v).toNat false
theorem ofVal_eq {v : Nat} {z : Int} {nodes : List Nd} {k : Nat} {a : Int} (hk : k ≤ nodes.length) (h0 : 0 ≤ a) (h1 : a < (v : Int) + k) : ofVal v (refVals v (events v z) nodes k) z a = (valsFrom (events v z) (nodes.take k)).getD a.toNat false := by
  unfold ofVal
  split
  · rename_i h
    rw [valsFrom_getD_lt _ _ _ (by rw [events_length]; omega)]
    simp [events, show a.toNat < v by omega]
  · rw [← refVals_get (events_length v z) hk (a := a.toNat) (by omega) (by omega)]
    congr 1
    omega
theorem refVals_all {v : Nat} {ev : List Bool} {nodes : List Nd} : refVals v ev nodes nodes.length = (valsFrom ev nodes).drop v := by
  unfold refVals
  simp
theorem refVals_zero {v : Nat} {ev : List Bool} {nodes : List Nd} (he : ev.length = v) : refVals v ev nodes 0 = List.replicate nodes.length false := by
  unfold refVals
  simp [valsFrom, ← he]
end Go.GL
namespace Go.GL
theorem nodesErr_ne_zero {v e : Int} : ∀ (l : List Nd) (i : Nat), nodesErr v i l = some e → e ≠ 0
  | [], i, h => by cases h
  | d :: r, i, h => by
    unfold nodesErr at h
    cases hd : nodeErr v i d with
    | some e' => rw [hd] at h; cases h; exact nodeErr_ne_zero hd
    | none => rw [hd] at h; exact nodesErr_ne_zero r (i + 1) h
theorem Fm.err_ne_zero {F : Fm} {e : Int} (h : F.err = some e) : e ≠ 0 := by
  unfold Fm.err at h
  split at h
  · cases h; decide
  · split at h
    · cases h; decide
    · cases hn : nodesErr F.vars 0 F.nodes with
      | some e' => rw [hn] at h; cases h; exact nodesErr_ne_zero _ _ hn
      | none =>
        rw [hn] at h
        simp only at h
        split at h
        · cases h
        · cases h; decide
theorem Fm.err_of {F : Fm} (h : F.err.getD 0 = 0) : F.err = none := by
  cases he : F.err with
  | none => rfl
  | some e => rw [he] at h; exact absurd h (Fm.err_ne_zero he)
theorem Fm.setErr_good {F : Fm} (hg : F.Good) (z : Int) : F.setErr z = if 0 ≤ z ∧ z < ((2 ^ F.vars.toNat : Nat) : Int) then none else some 3 := by
  unfold Fm.setErr
  rw [(Fm.good_iff F).2 hg]
  simp only
  by_cases h : 0 ≤ z ∧ z < ((2 ^ F.vars.toNat : Nat) : Int)
  · rw [if_pos h, if_neg (by omega)]
  · rw [if_neg h, if_pos (by omega)]
end Go.GL
