import Derived.Test.YtlgjmebebhpolaaGL12
namespace Go.GL
set_option linter.unusedVariables false
theorem Fm.setErr_of {F : Fm} (hg : F.Good) {x : Nat} (hx : x < 2 ^ F.vars.toNat) : F.setErr (x : Int) = none := by
  unfold Fm.setErr
  rw [(Fm.good_iff F).2 hg]
  simp only
  rw [if_neg (by omega)]
theorem pow_lt63 {v : Nat} (hv : v ≤ 24) {x : Nat} (hx : x < 2 ^ v) : x < 9223372036854775808 := by
  have := pow24 hv
  omega
def mixS (a b s : Nat) : Nat := (a &&& s) ||| (b ^^^ (b &&& s))
theorem mixS_lt {a b s v : Nat} (ha : a < 2 ^ v) (hb : b < 2 ^ v) : mixS a b s < 2 ^ v :=
  Nat.or_lt_two_pow (Nat.lt_of_le_of_lt Nat.and_le_left ha) (Nat.xor_lt_two_pow hb (Nat.lt_of_le_of_lt Nat.and_le_left hb))
theorem Fm.support_lt (F : Fm) : F.support < 2 ^ F.vars.toNat := setOf_lt _ _
theorem law_support {F : Fm} (hg : F.Good) {a b : Nat} (ha : a < 2 ^ F.vars.toNat) (hb : b < 2 ^ F.vars.toNat) : F.value (a : Int) = F.value ((mixS a b F.support : Nat) : Int) := by
  have hv : F.vars.toNat ≤ 24 := by have := hg.v1; have := hg.v0; omega
  rw [Fm.value_eq, Fm.value_eq]
  refine Fm.val_congr hg (fun i hi hm => ?_) _ (Fm.below_top hg)
  rw [bitB_nat (pow_lt63 hv ha) (by omega), bitB_nat (pow_lt63 hv (mixS_lt ha hb)) (by omega)]
  have hs : F.support.testBit i = true := by
    unfold Fm.support
    rw [setOf_testBit, hm]
    simpa using hi
  unfold mixS
  rw [Nat.testBit_or, Nat.testBit_and, Nat.testBit_xor, Nat.testBit_and, hs]
  simp
theorem clipI_mid {z : Int} (h0 : 0 ≤ z) (h1 : z ≤ 24) : clipI z 0 24 = z := by
  unfold clipI
  (repeat' split) <;> omega
end Go.GL
