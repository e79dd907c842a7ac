import Derived.Test.YtlgjmebebhpolaaGL36
namespace Go.GL
set_option linter.unusedVariables false
set_option linter.unusedSimpArgs false
def Fm.terr (F : Fm) : Option Int := match F.err with | some e => some e | none => if 12 < F.vars then some 4 else none
def Fm.table (F : Fm) : List Bool := (List.range (2 ^ F.vars.toNat)).map (fun (s : Nat) => F.value s)
theorem Fm.table_length (F : Fm) : F.table.length = 2 ^ F.vars.toNat := by unfold Fm.table; simp
theorem Fm.table_get (F : Fm) {s : Nat} (h : s < F.table.length) : F.table[s] = F.value (s : Nat) := by simp [Fm.table]
theorem Fm.terr_none {F : Fm} (h : F.terr = none) : F.Good ∧ F.vars ≤ 12 := by
  unfold Fm.terr at h
  cases he : F.err with
  | some e => rw [he] at h; cases h
  | none =>
    rw [he] at h
    simp only at h
    by_cases h12 : 12 < F.vars
    · rw [if_pos h12] at h; cases h
    · exact ⟨(Fm.good_iff F).1 he, by omega⟩
theorem pow12 {v : Nat} (h : v ≤ 12) : 2 ^ v ≤ 4096 := Nat.pow_le_pow_right (n := 2) (by decide) h
theorem pp_bound : ∀ f v s, s < 2 ^ v → pp f s ≤ v
  | 0, v, s, _ => Nat.zero_le _
  | f + 1, 0, s, h => by
    obtain rfl : s = 0 := by simpa using h
    have := pp_bound f 0 (0 / 2) (by decide)
    simp only [pp]; omega
  | f + 1, v + 1, s, h => by
    have := pp_bound f v (s / 2) (by rw [Nat.pow_succ] at h; omega)
    simp only [pp]; omega
def Fm.wTo (F : Fm) (k : Nat) : List Nat := (List.range (F.vars.toNat + 1)).map (fun w => (List.range k).countP (fun s => F.value (s : Nat) && decide (pp 24 s = w)))
theorem Fm.wTo_length (F : Fm) (k : Nat) : (F.wTo k).length = F.vars.toNat + 1 := by unfold Fm.wTo; simp
theorem Fm.wTo_get (F : Fm) (k : Nat) {w : Nat} (h : w < F.vars.toNat + 1) : (F.wTo k).getD w 0 = (List.range k).countP (fun s => F.value (s : Nat) && decide (pp 24 s = w)) := by
  unfold Fm.wTo
  simp [List.getD_eq_getElem?_getD, h]
theorem Fm.wTo_le (F : Fm) (k w : Nat) : (F.wTo k).getD w 0 ≤ k := by
  by_cases h : w < F.vars.toNat + 1
  · rw [F.wTo_get k h]
    exact Nat.le_trans List.countP_le_length (by simp)
  · rw [List.getD_eq_getElem?_getD, List.getElem?_eq_none (by rw [F.wTo_length]; omega)]
    exact Nat.zero_le _
theorem Fm.wTo_succ (F : Fm) (k : Nat) : F.wTo (k + 1) = bif F.value (k : Nat) then (F.wTo k).set (pp 24 k) ((F.wTo k).getD (pp 24 k) 0 + 1) else F.wTo k := by
  cases hv : F.value (k : Nat) with
  | false =>
    unfold Fm.wTo
    simp only [cond_false]
    refine List.map_congr_left fun w _ => ?_
    rw [List.range_succ, List.countP_append]
    simp [hv]
  | true =>
    simp only [cond_true]
    refine List.ext_getElem (by rw [List.length_set, F.wTo_length, F.wTo_length]) fun w h1 h2 => ?_
    have hw : w < F.vars.toNat + 1 := by rw [F.wTo_length] at h1; exact h1
    have g1 := F.wTo_get (k + 1) hw
    have g2 := F.wTo_get k hw
    rw [List.getD_eq_getElem?_getD, List.getElem?_eq_getElem h1, Option.getD_some] at g1
    rw [List.getD_eq_getElem?_getD, List.getElem?_eq_getElem (by rw [F.wTo_length]; exact hw), Option.getD_some] at g2
    rw [g1, List.getElem_set]
    rw [List.range_succ, List.countP_append]
    by_cases hp : pp 24 k = w
    · subst hp
      rw [if_pos rfl, F.wTo_get k hw]
      simp [hv]
    · rw [if_neg hp, g2]
      simp [hv, hp]
theorem Fm.wTo_zero (F : Fm) : F.wTo 0 = List.replicate (F.vars.toNat + 1) 0 := by
  unfold Fm.wTo
  refine List.ext_getElem (by simp) fun w h1 h2 => ?_
  simp
def Fm.weights (F : Fm) : List Nat := F.wTo (2 ^ F.vars.toNat)
def exF10 : Fm := ⟨3, [⟨4, 2, [0, 1, 2]⟩], 3⟩
theorem exF10_good : exF10.Good := (Fm.good_iff _).1 (by decide)
theorem exF10_table : exF10.table = [false, false, false, true, false, true, true, true] := by decide
theorem exF10_weights : exF10.weights = [0, 0, 3, 1] := by decide +kernel
theorem exF10_terr : exF10.terr = none := by decide
end Go.GL
