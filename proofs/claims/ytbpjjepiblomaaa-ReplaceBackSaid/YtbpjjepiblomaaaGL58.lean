import Derived.Test.YtbpjjepiblomaaaGL57
namespace Go.GL
set_option linter.unusedVariables false
set_option linter.unusedSimpArgs false
theorem valid_of {F : Fm} {a : Int} (h0 : 0 ≤ F.vars) (h1 : 0 ≤ a) (h2 : a < F.vars + F.nodes.length) : F.valid a = true := by
  unfold Fm.valid
  simp
  omega
theorem putErr_none {O I : Fm} (h : O.putErr I = none) : O.Good ∧ I.Good ∧ O.vars = I.vars + 1 ∧ O.nodes.length + I.nodes.length ≤ 128 := by
  unfold Fm.putErr at h
  cases h1 : O.err with
  | some e => rw [h1] at h; cases h
  | none =>
    cases h2 : I.err with
    | some e => rw [h1, h2] at h; cases h
    | none =>
      rw [h1, h2] at h
      dsimp only at h
      by_cases h3 : O.vars ≠ I.vars + 1
      · rw [if_pos h3] at h; cases h
      · rw [if_neg h3] at h
        by_cases h4 : 128 < O.nodes.length + I.nodes.length
        · rw [if_pos h4] at h; cases h
        · exact ⟨(Fm.good_iff O).1 h1, (Fm.good_iff I).1 h2, by omega, by omega⟩
theorem putTab_lt {O I : Fm} (hgO : O.Good) (hgI : I.Good) (hov : O.vars = I.vars + 1) {a k : Nat} (ha : a < O.vars.toNat + k) (hk : k ≤ O.nodes.length) : (putTab O I).getD a 0 < I.vars.toNat + I.nodes.length + k := by
  have i0 := hgI.v0; have it := hgI.topLt
  rw [putTab_getD (by omega)]
  split
  · omega
  · split <;> omega
theorem put_good {O I : Fm} (h : O.putErr I = none) : (O.put I).Good := by
  obtain ⟨hgO, hgI, hov, hl⟩ := putErr_none h
  have i0 := hgI.v0; have it := hgI.topLt; have ot := hgO.topLt
  refine ⟨hgI.v0, hgI.v1, by simp [Fm.put]; omega, fun i hi => ?_, ?_⟩
  · have hi' : i < I.nodes.length + O.nodes.length := by simpa [Fm.put] using hi
    simp only [Fm.put]
    rw [List.getElem_append]
    split
    · rename_i hlt
      exact hgI.node i hlt
    · rename_i hge
      rw [List.getElem_map]
      have hk : i - I.nodes.length < O.nodes.length := by omega
      have f := hgO.fits _ hk
      refine nodeErr_none.2 ⟨f.k0, f.k1, by simpa [trN, trA_length] using f.ar, ?_, by simpa [trN, trA_length] using f.kk⟩
      intro a ha
      simp only [trN, trA, List.mem_map] at ha
      obtain ⟨b, hb, rfl⟩ := ha
      have hb' := f.args b hb
      have := putTab_lt hgO hgI hov (a := b.toNat) (k := i - I.nodes.length) (by omega) (by omega)
      omega
  · have := putTab_lt hgO hgI hov (a := O.top.toNat) (k := O.nodes.length) (by omega) (Nat.le_refl _)
    refine valid_of hgI.v0 (Int.natCast_nonneg _) ?_
    show (((putTab O I).getD O.top.toNat 0 : Nat) : Int) < I.vars + ((I.nodes ++ O.nodes.map (trN (putTab O I))).length : Nat)
    rw [List.length_append, List.length_map]
    omega
theorem err_pos {F : Fm} {e : Int} (h : F.err = some e) : e ≠ 0 := by
  intro h0
  subst h0
  have := Fm.err_of (F := F) (by rw [h]; rfl)
  rw [h] at this
  cases this
theorem putErr_pos {O I : Fm} {e : Int} (h : O.putErr I = some e) : e ≠ 0 := by
  unfold Fm.putErr at h
  cases h1 : O.err with
  | some x => rw [h1] at h; cases h; exact err_pos h1
  | none =>
    cases h2 : I.err with
    | some x => rw [h1, h2] at h; cases h; exact err_pos h2
    | none =>
      rw [h1, h2] at h
      dsimp only at h
      split at h
      · cases h; decide
      · split at h
        · cases h; decide
        · cases h
def backF (Fs : List Fm) : Nat → Fm → Fm × Option Int
  | 0, F => (F, none)
  | i + 1, F => match F.putErr (Fs.getD i Fm.zero) with
    | some e => (Fm.zero, some e)
    | none => backF Fs i (F.put (Fs.getD i Fm.zero))
def backR (Fs : List Fm) : Fm × Option Int :=
  if Fs.length = 0 then (Fm.zero, some 11)
  else match (Fs.getD (Fs.length - 1) Fm.zero).err with
    | some e => (Fm.zero, some e)
    | none => backF Fs (Fs.length - 1) (Fs.getD (Fs.length - 1) Fm.zero)
theorem getD_at {Fs : List Fm} {i : Nat} (h : i < Fs.length) : Fs.getD i Fm.zero = Fs[i] := by simp [h]
end Go.GL
