import Derived.Test.YtffghipagnjggaaGL73
import Derived.Test.YtffghipagnjggaaGL37
namespace Go.GL
set_option linter.unusedVariables false
set_option linter.unusedSimpArgs false
theorem replB_fit {F G : Fm} (hg : F.Good) (hgG : G.Good) (hv : F.vars = G.vars) (e : Nat) : (F.replB e G).Fit := by
  have g0 := hg.v0
  obtain ⟨v, hF⟩ := Int.eq_ofNat_of_zero_le g0
  have hvn : F.vars.toNat = v := by omega
  unfold Fm.replB
  rw [hvn]
  exact join_fit hg hF (hgG.nf (by omega)) (replT_length v e _) (replT_in hgG (by omega))
theorem replF_ok (F : Fm) (e : Int) (G : Fm) : (F.replF e G).ok := by
  unfold Fm.replF
  cases h : F.err with
  | some x => exact zero_ok
  | none =>
    cases h2 : G.err with
    | some x => exact zero_ok
    | none =>
      dsimp only
      split
      · exact zero_ok
      · split
        · exact zero_ok
        · exact sizedF_ok (replB_fit ((Fm.good_iff F).1 h) ((Fm.good_iff G).1 h2) (by omega) _)
def codeOf (F G : Fm) : Int := if F.err.getD 0 = 0 then G.err.getD 0 else F.err.getD 0
theorem repl_bad {F G : Fm} {e : Int} (h : codeOf F G ≠ 0) : F.replE e G = some (codeOf F G) ∧ F.replF e G = Fm.zero := by
  unfold codeOf at h ⊢
  unfold Fm.replE Fm.replF
  by_cases h0 : F.err.getD 0 = 0
  · rw [if_pos h0] at h ⊢
    have he := err_getD h0
    obtain ⟨er, her⟩ := err_getD' h
    rw [he, her]
    exact ⟨rfl, rfl⟩
  · rw [if_neg h0] at h ⊢
    obtain ⟨er, her⟩ := err_getD' h
    rw [her]
    exact ⟨rfl, rfl⟩
theorem code_zero {F G : Fm} (h : codeOf F G = 0) : F.err = none ∧ G.err = none := by
  unfold codeOf at h
  by_cases h0 : F.err.getD 0 = 0
  · rw [if_pos h0] at h
    exact ⟨err_getD h0, err_getD h⟩
  · rw [if_neg h0] at h
    exact absurd h h0
theorem repl_value {F G : Fm} (hg : F.Good) (hgG : G.Good) {v : Nat} (hv : F.vars = v) (hvG : G.vars = v) {e : Nat} (he : e < v) {x y : Int} (hy : ∀ i, i < v → bitB y i = if i = e then G.value x else bitB x i) : (F.replB e G).value x = F.value y := by
  have hvn : F.vars.toNat = v := by omega
  have hvGn : G.vars.toNat = v := by omega
  unfold Fm.replB
  rw [hvn]
  refine join_value hg hv (hgG.nf hvG) (replT_length v e _) (replT_in hgG hvG) fun i hi => ?_
  rw [hy i hi]
  have hr : (replT v e G.top).getD i 0 = if i = e then G.top else (i : Int) := by
    unfold replT
    rw [List.getD_eq_getElem?_getD, List.getElem?_set]
    by_cases h : e = i
    · rw [if_pos h, if_pos (by rw [evI_length]; exact he), if_pos h.symm]; rfl
    · rw [if_neg h, if_neg (fun x => h x.symm), ← List.getD_eq_getElem?_getD, evI_getD hi]
  rw [hr]
  by_cases h : i = e
  · rw [if_pos h, if_pos h, Fm.value_eq]
    unfold Fm.val Fm.values
    rw [hvGn]
  · rw [if_neg h, if_neg h, Int.toNat_natCast]
    have := G.val_event x (j := i) (by omega)
    unfold Fm.val Fm.values at this
    rw [hvGn] at this
    exact this.symm
end Go.GL
namespace Go.GL
set_option linter.unusedVariables false
theorem sizedE_none {X : Fm} (h : sizedE X = none) : X.nodes.length ≤ 128 := by
  unfold sizedE at h
  split at h
  · cases h
  · omega
theorem sizedE_cases (X : Fm) : sizedE X = none ∨ sizedE X = some 4 := by
  unfold sizedE
  split
  · exact .inr rfl
  · exact .inl rfl
theorem sizedF_of {X : Fm} (h : X.nodes.length ≤ 128) : sizedF X = X := if_neg (by omega)
def withBit (X e : Nat) (b : Bool) : Nat := bif b then (X ^^^ (X &&& 2 ^ e)) ||| 2 ^ e else X ^^^ (X &&& 2 ^ e)
theorem withBit_test (X e : Nat) (b : Bool) (i : Nat) : (withBit X e b).testBit i = if i = e then b else X.testBit i := by
  unfold withBit
  by_cases h : i = e
  · subst h
    cases b <;> simp [Nat.testBit_or, Nat.testBit_xor, Nat.testBit_and, Nat.testBit_two_pow_self]
  · have h2 : (2 ^ e).testBit i = false := by rw [Nat.testBit_two_pow]; simp; omega
    cases b <;> simp [Nat.testBit_or, Nat.testBit_xor, Nat.testBit_and, h2, h]
theorem lt_of_bits {X v : Nat} (h : ∀ i, v ≤ i → X.testBit i = false) : X < 2 ^ v := by
  apply Nat.lt_pow_two_of_testBit
  intro i hi
  rw [h i hi]
theorem withBit_lt {X e v : Nat} {b : Bool} (hX : X < 2 ^ v) (he : e < v) : withBit X e b < 2 ^ v := by
  refine lt_of_bits fun i hi => ?_
  rw [withBit_test, if_neg (by omega)]
  exact Nat.testBit_lt_two_pow (Nat.lt_of_lt_of_le hX (Nat.pow_le_pow_right (by decide) hi))
end Go.GL
namespace Go.GL
set_option linter.unusedVariables false
set_option linter.unusedSimpArgs false
def asgAt (v : Nat) (y n : Int) (i : Nat) : Int := if iand (ishr y i) 1 = 1 then (v : Int) + (1 : Nat) else if iand (ishr n i) 1 = 1 then (v : Int) + (0 : Nat) else (i : Int)
def asgT (v : Nat) (y n : Int) : List Int := (List.range v).map (asgAt v y n)
def firstA : List Nd := [⟨0, 0, []⟩] ++ [⟨0, 1, []⟩]
theorem asgT_length (v : Nat) (y n : Int) : (asgT v y n).length = v := by simp [asgT]
theorem asgT_take {v : Nat} {y n : Int} {k : Nat} (hk : k < v) : (asgT v y n).take (k + 1) = (asgT v y n).take k ++ [asgAt v y n k] := by
  rw [List.take_succ_eq_append_getElem (by rw [asgT_length]; exact hk)]
  simp [asgT]
theorem asgT_getD {v : Nat} {y n : Int} {k : Nat} (hk : k < v) : (asgT v y n).getD k 0 = asgAt v y n k := by simp [asgT, hk]
theorem asgT_in (v : Nat) (y n : Int) : ∀ a ∈ asgT v y n, InR (v + firstA.length) a := by
  intro a ha
  obtain ⟨i, hi, rfl⟩ := List.mem_map.1 ha
  have := List.mem_range.1 hi
  unfold asgAt InR firstA
  simp only [List.length_append, List.length_singleton]
  split
  · omega
  · split <;> omega
theorem firstA_nf (v : Int) : NF v firstA := (NF.nil.snoc (Fits.mk0 (.inl rfl))).snoc (Fits.mk0 (.inr rfl))
def Fm.asgB (F : Fm) (y n : Int) : Fm := F.join firstA (asgT F.vars.toNat y n)
def Fm.asgE (F : Fm) (y n : Int) : Option Int := match F.cubeErr y n with
  | some e => some e
  | none => sizedE (F.asgB y n)
def Fm.asgF (F : Fm) (y n : Int) : Fm := match F.cubeErr y n with
  | some e => Fm.zero
  | none => sizedF (F.asgB y n)
theorem asgB_fit {F : Fm} (hg : F.Good) (y n : Int) : (F.asgB y n).Fit := by
  have g0 := hg.v0
  obtain ⟨v, hv⟩ := Int.eq_ofNat_of_zero_le g0
  unfold Fm.asgB
  rw [show F.vars.toNat = v by omega]
  exact join_fit hg hv (firstA_nf _) (asgT_length v y n) (asgT_in v y n)
theorem asgF_ok (F : Fm) (y n : Int) : (F.asgF y n).ok := by
  unfold Fm.asgF
  cases h : F.cubeErr y n with
  | some x => exact zero_ok
  | none => exact sizedF_ok (asgB_fit (Fm.cubeErr_none h).1 y n)
theorem bits_apart {v : Nat} {y n : Int} (hv : v ≤ 24) (h0 : 0 ≤ y) (h1 : y < ((2 ^ v : Nat) : Int)) (h2 : 0 ≤ n) (h3 : n < ((2 ^ v : Nat) : Int)) (h : iand y n = 0) {i : Nat} (hi : i < v) (hn : iand (ishr n i) 1 = 1) : ¬ iand (ishr y i) 1 = 1 := by
  intro hy
  have h24 := pow24 hv
  obtain ⟨Y, rfl⟩ := Int.eq_ofNat_of_zero_le h0
  obtain ⟨N, rfl⟩ := Int.eq_ofNat_of_zero_le h2
  have b1 : bitB (Y : Int) i = true := decide_eq_true hy
  have b2 : bitB (N : Int) i = true := decide_eq_true hn
  rw [bitB_nat (by omega) (by omega)] at b1 b2
  rw [iand_nat (by omega) (by omega)] at h
  have h' : Y &&& N = 0 := by omega
  have := congrArg (fun z : Nat => z.testBit i) h'
  simp [b1, b2] at this
theorem asg_value {F : Fm} (hg : F.Good) {v : Nat} (hv : F.vars = v) {y n : Int} {x z : Int} (hz : ∀ i, i < v → bitB z i = if iand (ishr y i) 1 = 1 then true else if iand (ishr n i) 1 = 1 then false else bitB x i) : (F.asgB y n).value x = F.value z := by
  have hvn : F.vars.toNat = v := by omega
  unfold Fm.asgB
  rw [hvn]
  refine join_value hg hv (firstA_nf _) (asgT_length v y n) (asgT_in v y n) fun i hi => ?_
  rw [hz i hi, asgT_getD hi]
  have hel : (events v x).length = v := events_length v x
  have e : valsFrom (events v x) firstA = events v x ++ [false] ++ [true] := rfl
  rw [e]
  unfold asgAt
  split
  · rw [show ((v : Int) + (1 : Nat)).toNat = v + 1 by omega, List.getD_eq_getElem?_getD, List.getElem?_append_right (by simp [hel])]
    simp [hel]
  · split
    · rw [show ((v : Int) + (0 : Nat)).toNat = v by omega, List.getD_eq_getElem?_getD, List.getElem?_append_left (by simp [hel]), List.getElem?_append_right (by simp [hel])]
      simp [hel]
    · rw [Int.toNat_natCast, List.getD_eq_getElem?_getD, List.append_assoc, List.getElem?_append_left (by rw [hel]; exact hi)]
      simp [events, hi]
end Go.GL
