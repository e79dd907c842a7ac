import Derived.Test.YtlgjmebebhpolaaGL38
namespace Go.GL
set_option linter.unusedVariables false
set_option linter.unusedSimpArgs false
section
variable {P : Program} {n : Nat} {S : List (Nat × Value)} {H : List Ent} {A : Array Oper} {Q : Exit → Act → World → Prop}
theorem TOps.neqBr2 {d T x y T' U p e rest} {a b r : Bool} (hx : opv S x = some (.bool a)) (hy : opv S y = some (.bool b)) (hr : (a != b) = r) (hT : P.underlying T = some .bool) (hn : Nat.blt d n = true)
    (h : TOps P n ((d, .bool r) :: S) H rest A Q) : TOps P n S H (⟨some d, .binOp .neq T x y T', U, p, e, none⟩ :: rest) A Q := by
  subst hr; exact TOps.neqB hx hy hT hn h
end
def Fm.eqErr (F G : Fm) : Option Int := match F.err with | some e => some e | none => (match G.err with | some e => some e | none => if F.vars = G.vars then F.terr else some 11)
def DifAt (F G : Fm) (z : Int) : Prop := (z = -1 ∧ ∀ s, s < 2 ^ F.vars.toNat → F.value (s : Nat) = G.value (s : Nat)) ∨ ∃ s : Nat, z = s ∧ s < 2 ^ F.vars.toNat ∧ F.value (s : Nat) ≠ G.value (s : Nat) ∧ ∀ i, i < s → F.value (i : Nat) = G.value (i : Nat)
theorem Fm.eqErr_1 {F G : Fm} {e : Int} (h : F.err = some e) : F.eqErr G = some e := by unfold Fm.eqErr; rw [h]
theorem Fm.eqErr_2 {F G : Fm} {e : Int} (h : F.err = none) (h2 : G.err = some e) : F.eqErr G = some e := by unfold Fm.eqErr; rw [h, h2]
theorem Fm.eqErr_3 {F G : Fm} (h : F.err = none) (h2 : G.err = none) (h3 : F.vars ≠ G.vars) : F.eqErr G = some 11 := by unfold Fm.eqErr; rw [h, h2]; exact if_neg h3
theorem Fm.eqErr_4 {F G : Fm} (h : F.err = none) (h2 : G.err = none) (h3 : F.vars = G.vars) : F.eqErr G = F.terr := by unfold Fm.eqErr; rw [h, h2]; exact if_pos h3
theorem Fm.terr_same {F G : Fm} (h : F.err = none) (h2 : G.err = none) (h3 : F.vars = G.vars) : F.terr = G.terr := by unfold Fm.terr; rw [h, h2, h3]
theorem Fm.eqErr_none {F G : Fm} (h : F.eqErr G = none) : F.terr = none ∧ G.terr = none ∧ F.vars = G.vars := by
  cases h1 : F.err with
  | some e => rw [Fm.eqErr_1 h1] at h; cases h
  | none =>
    cases h2 : G.err with
    | some e => rw [Fm.eqErr_2 h1 h2] at h; cases h
    | none =>
      by_cases h3 : F.vars = G.vars
      · rw [Fm.eqErr_4 h1 h2 h3] at h
        exact ⟨h, by rw [← Fm.terr_same h1 h2 h3]; exact h, h3⟩
      · rw [Fm.eqErr_3 h1 h2 h3] at h; cases h
theorem Fm.eqErr_self {F : Fm} (h : F.terr = none) : F.eqErr F = none := by
  have := (Fm.good_iff F).2 (Fm.terr_none h).1
  rw [Fm.eqErr_4 this this rfl, h]
theorem Fm.terr_of {F : Fm} (h : F.terr.getD 0 = 0) : F.terr = none := by
  cases ht : F.terr with
  | none => rfl
  | some e =>
    exfalso
    rw [ht] at h
    have h0 : e = 0 := h
    subst h0
    unfold Fm.terr at ht
    cases he : F.err with
    | some e => rw [he] at ht; exact Fm.err_ne_zero he (by simpa using ht)
    | none =>
      rw [he] at ht
      simp only at ht
      by_cases h12 : 12 < F.vars
      · rw [if_pos h12] at ht; simp at ht
      · rw [if_neg h12] at ht; cases ht
theorem DifAt.self {F : Fm} {z : Int} (h : DifAt F F z) : z = -1 := by
  rcases h with h | ⟨s, _, _, h, _⟩
  · exact h.1
  · exact absurd rfl h
end Go.GL
