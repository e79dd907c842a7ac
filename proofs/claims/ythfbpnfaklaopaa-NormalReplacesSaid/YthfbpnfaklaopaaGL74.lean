import Derived.Test.YthfbpnfaklaopaaGL73
namespace Go.GL
set_option linter.unusedVariables false
set_option linter.unusedSimpArgs false
theorem replB_fit {F G : Fm} (hg : F.Good) (hgG : G.Good) (hv : F.vars = G.vars) (e : Nat) : (F.replB e G).Fit := by
  have g0 := hg.v0
  obtain ⟨v, hF⟩ := Int.eq_ofNat_of_zero_le g0
  have hvn : F.vars.toNat = v := by omega
  unfold Fm.replB
  rw [hvn]
  exact join_fit hg hF (hgG.nf (by omega)) (replT_length v e _) (replT_in hgG (by omega))
theorem replF_ok (F : Fm) (e : Int) (G : Fm) : (F.replF e G).ok := by
  unfold Fm.replF
  cases h : F.err with
  | some x => exact zero_ok
  | none =>
    cases h2 : G.err with
    | some x => exact zero_ok
    | none =>
      dsimp only
      split
      · exact zero_ok
      · split
        · exact zero_ok
        · exact sizedF_ok (replB_fit ((Fm.good_iff F).1 h) ((Fm.good_iff G).1 h2) (by omega) _)
def codeOf (F G : Fm) : Int := if F.err.getD 0 = 0 then G.err.getD 0 else F.err.getD 0
theorem repl_bad {F G : Fm} {e : Int} (h : codeOf F G ≠ 0) : F.replE e G = some (codeOf F G) ∧ F.replF e G = Fm.zero := by
  unfold codeOf at h ⊢
  unfold Fm.replE Fm.replF
  by_cases h0 : F.err.getD 0 = 0
  · rw [if_pos h0] at h ⊢
    have he := err_getD h0
    obtain ⟨er, her⟩ := err_getD' h
    rw [he, her]
    exact ⟨rfl, rfl⟩
  · rw [if_neg h0] at h ⊢
    obtain ⟨er, her⟩ := err_getD' h
    rw [her]
    exact ⟨rfl, rfl⟩
theorem code_zero {F G : Fm} (h : codeOf F G = 0) : F.err = none ∧ G.err = none := by
  unfold codeOf at h
  by_cases h0 : F.err.getD 0 = 0
  · rw [if_pos h0] at h
    exact ⟨err_getD h0, err_getD h⟩
  · rw [if_neg h0] at h
    exact absurd h h0
theorem repl_value {F G : Fm} (hg : F.Good) (hgG : G.Good) {v : Nat} (hv : F.vars = v) (hvG : G.vars = v) {e : Nat} (he : e < v) {x y : Int} (hy : ∀ i, i < v → bitB y i = if i = e then G.value x else bitB x i) : (F.replB e G).value x = F.value y := by
  have hvn : F.vars.toNat = v := by omega
  have hvGn : G.vars.toNat = v := by omega
  unfold Fm.replB
  rw [hvn]
  refine join_value hg hv (hgG.nf hvG) (replT_length v e _) (replT_in hgG hvG) fun i hi => ?_
  rw [hy i hi]
  have hr : (replT v e G.top).getD i 0 = if i = e then G.top else (i : Int) := by
    unfold replT
    rw [List.getD_eq_getElem?_getD, List.getElem?_set]
    by_cases h : e = i
    · rw [if_pos h, if_pos (by rw [evI_length]; exact he), if_pos h.symm]; rfl
    · rw [if_neg h, if_neg (fun x => h x.symm), ← List.getD_eq_getElem?_getD, evI_getD hi]
  rw [hr]
  by_cases h : i = e
  · rw [if_pos h, if_pos h, Fm.value_eq]
    unfold Fm.val Fm.values
    rw [hvGn]
  · rw [if_neg h, if_neg h, Int.toNat_natCast]
    have := G.val_event x (j := i) (by omega)
    unfold Fm.val Fm.values at this
    rw [hvGn] at this
    exact this.symm
end Go.GL
