import Derived.Test.YtbpjjepiblomaaaGL55
namespace Go.GL
set_option linter.unusedVariables false
set_option linter.unusedSimpArgs false
def Fm.small12 (F : Fm) : Bool := F.err.isNone && decide (0 ≤ F.vars) && decide (F.vars ≤ 12)
theorem Fm.small12_iff {F : Fm} : F.small12 = true ↔ F.Good ∧ F.vars ≤ 12 := by
  unfold Fm.small12
  constructor
  · intro h
    simp only [Bool.and_eq_true, Option.isNone_iff_eq_none, decide_eq_true_eq] at h
    exact ⟨(Fm.good_iff F).1 h.1.1, h.2⟩
  · rintro ⟨hg, h⟩
    rw [(Fm.good_iff F).2 hg, decide_eq_true hg.v0, decide_eq_true h]; rfl
theorem cutErr_mod {F : Fm} (hg : F.Good) (h24 : F.vars < 24) {q : Nat} (hq : q < F.nodes.length) (hb : F.below.getD (F.vars.toNat + q) false = true) (hm : F.isMod (F.vars.toNat + q) = true) :
    F.cutErr ((F.vars.toNat + q : Nat) : Int) = if ((F.vars.toNat + q : Nat) : Int) = F.top then some 7 else none := by
  have g0 := hg.v0
  have hen := (Fm.good_iff F).2 hg
  have hnd : F.needAt ((F.vars.toNat + q : Nat) : Int) = true := by
    unfold Fm.needAt
    rw [decide_eq_true (by omega), decide_eq_true (by omega), Int.toNat_natCast, hb]; rfl
  have hib : F.isB ((F.vars.toNat + q : Nat) : Int) = true := by
    unfold Fm.isB
    rw [hen, hnd, Int.toNat_natCast, hm]; rfl
  unfold Fm.cutErr Fm.isErr
  rw [hen, hnd, hib]
  simp only [cond_true]
  by_cases e : ((F.vars.toNat + q : Nat) : Int) = F.top
  · rw [if_pos (.inr e), if_pos e]
  · rw [if_neg (fun h => by rcases h with h | h; (cases h); exact e h), if_neg (by omega), if_neg e]
theorem full_bits {v X : Nat} (hv : v ≤ 24) (hX : X < 2 ^ v) (b : Bool) : (bif b then X ||| 2 ^ v else X) < 2 ^ (v + 1) ∧ (∀ e, e < v → bitB ((bif b then X ||| 2 ^ v else X : Nat) : Int) e = bitB (X : Int) e) ∧ bitB ((bif b then X ||| 2 ^ v else X : Nat) : Int) v = b := by
  have h2 : 2 ^ v < 2 ^ (v + 1) := Nat.pow_lt_pow_right (by decide) (by omega)
  have hlt : (bif b then X ||| 2 ^ v else X) < 2 ^ (v + 1) := by
    cases b
    · simp only [cond_false]; omega
    · exact Nat.or_lt_two_pow (by omega) h2
  have h63 : (2 : Nat) ^ (v + 1) ≤ 2 ^ 25 := Nat.pow_le_pow_right (by decide) (by omega)
  have h25 : (2 : Nat) ^ 25 < 9223372036854775808 := by decide
  refine ⟨hlt, fun e he => ?_, ?_⟩
  · rw [bitB_nat (by omega) (by omega), bitB_nat (by omega) (by omega)]
    cases b
    · rfl
    · simp only [cond_true, Nat.testBit_or, Nat.testBit_two_pow]
      rw [decide_eq_false (by omega), Bool.or_false]
  · rw [bitB_nat (by omega) (by omega)]
    cases b
    · exact Nat.testBit_lt_two_pow hX
    · simp [Nat.testBit_or, Nat.testBit_two_pow]
end Go.GL
