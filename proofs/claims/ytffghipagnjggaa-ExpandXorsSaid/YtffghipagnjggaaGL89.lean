import Derived.Test.YtffghipagnjggaaGL88
namespace Go.GL
set_option linter.unusedVariables false
set_option linter.unusedSimpArgs false
section
variable {what v : Nat} {nodes : List Nd}
theorem mapS_ev {j : Nat} (hj : j < v) : ∀ k, (mapS what v nodes k).1.getD j 0 = (j : Int)
  | 0 => evI_getD hj
  | k + 1 => by
    have ih := mapS_ev hj k
    have hl := mapS_len (what := what) (v := v) (nodes := nodes) k
    show ((mapS what v nodes k).1 ++ _).getD j 0 = _
    rw [List.getD_eq_getElem?_getD, List.getElem?_append_left (by omega), ← List.getD_eq_getElem?_getD]
    exact ih
theorem mapS_img {k : Nat} {a : Int} (h0 : 0 ≤ a) : (if a < v then a else ((mapS what v nodes k).1.drop v).getD (a.toNat - v) 0) = (mapS what v nodes k).1.getD a.toNat 0 := by
  split
  · rw [mapS_ev (by omega)]; omega
  · rw [List.getD_eq_getElem?_getD, List.getElem?_drop, List.getD_eq_getElem?_getD]
    congr 3
    omega
theorem mapS_imgs {k : Nat} : ((mapS what v nodes k).1.drop v).length = k := by
  rw [List.length_drop, mapS_len]
  omega
end
theorem drop_snoc {P : List Int} {v : Nat} (h : v ≤ P.length) (x : Int) : (P ++ [x]).drop v = P.drop v ++ [x] := by
  rw [List.drop_append_of_le_length h]
abbrev snocI (l : List Int) (x : Int) : List Int := l ++ [x]
def whatE (what : Nat) : Prop := what = 0 ∨ what = 1 ∨ what = 2
theorem padI_reset {l : List Int} {L : Nat} (h : l.length < L) (a b : Int) : (ints (padI (l ++ [a]) L)).set l.length (.int .i64 b) = ints (padI (l ++ [b]) L) := by
  rw [← ints_set]
  congr 1
  unfold padI
  rw [List.append_assoc, List.set_append_right _ _ (Nat.le_refl _), Nat.sub_self, List.append_assoc]
  simp
theorem expE_pos {F : Fm} {what : Nat} {e : Int} (h : F.expE what = some e) : e ≠ 0 := by
  unfold Fm.expE at h
  cases he : F.err with
  | some e' =>
    rw [he] at h
    cases h
    rintro rfl
    rw [err_getD (by rw [he]; rfl)] at he
    cases he
  | none =>
    rw [he] at h
    unfold resE at h
    dsimp only at h
    split at h
    · cases h; decide
    · cases h
theorem expE_getD {F : Fm} {what : Nat} (h : (F.expE what).getD 0 = 0) : F.expE what = none := by
  cases he : F.expE what with
  | none => rfl
  | some e => rw [he] at h; exact absurd h (expE_pos he)
end Go.GL
