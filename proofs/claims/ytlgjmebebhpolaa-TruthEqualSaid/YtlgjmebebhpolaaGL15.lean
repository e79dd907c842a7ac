import Derived.Test.YtlgjmebebhpolaaGL14
namespace Go.GL
set_option linter.unusedVariables false
theorem lowBits_wrap (z : Int) {v : Nat} (hv : v ≤ 64) : lowBits (IntKind.i64.wrap z) v = lowBits z v := by
  rw [← u64_low _ hv, ← u64_low z hv]
  congr 2
  rw [IntKind.wrap_i64]
  omega
theorem lowBits_ior (a b : Int) {v : Nat} (hv : v ≤ 64) : lowBits (ior a b) v = lowBits a v ||| lowBits b v := by
  unfold ior
  rw [lowBits_wrap _ hv, ← u64_low _ hv, ← u64_low a hv, ← u64_low b hv]
  have h : ((((BitVec.ofInt 64 a ||| BitVec.ofInt 64 b).toNat : Int)) % 18446744073709551616).toNat = (a % 18446744073709551616).toNat ||| (b % 18446744073709551616).toNat := by
    have hlt := (BitVec.ofInt 64 a ||| BitVec.ofInt 64 b).isLt
    have e : (BitVec.ofInt 64 a ||| BitVec.ofInt 64 b).toNat = (a % 18446744073709551616).toNat ||| (b % 18446744073709551616).toNat := by
      simp only [BitVec.toNat_or, BitVec.toNat_ofInt]
      rw [show ((2 ^ 64 : Nat) : Int) = 18446744073709551616 by decide]
    rw [← e]
    omega
  rw [h]
  refine Nat.eq_of_testBit_eq fun i => ?_
  simp only [Nat.testBit_or, Nat.testBit_mod_two_pow]
  by_cases hi : i < v <;> simp [hi]
theorem cntOf_mono {f g : Nat → Bool} {l : List Int} (h : ∀ a ∈ l, f a.toNat = true → g a.toNat = true) : cntOf f l ≤ cntOf g l := by
  unfold cntOf
  exact List.countP_mono_left (fun a ha => h a ha)
theorem cntOf_le (f : Nat → Bool) (l : List Int) : cntOf f l ≤ l.length := List.countP_le_length
theorem nodeVal_mono {d : Nd} {c e : Nat} (h : c ≤ e) (hl : e ≤ d.args.length) (h1 : d.kind ≠ 1) (h5 : d.kind ≠ 5) (hv : nodeVal d c = true) : nodeVal d e = true := by
  unfold nodeVal at hv ⊢
  simp only [h1, h5, if_false] at hv ⊢
  by_cases h0 : d.kind = 0
  · simpa [h0] using hv
  · by_cases h2 : d.kind = 2
    · simp [h2] at hv ⊢; omega
    · by_cases h3 : d.kind = 3
      · simp [h3] at hv ⊢; omega
      · by_cases h4 : d.kind = 4
        · simp [h4] at hv ⊢; omega
        · simp [h0, h2, h3, h4] at hv
theorem Fm.val_mono {F : Fm} (hg : F.Good) (hk : ∀ d ∈ F.nodes, d.kind ≠ 1 ∧ d.kind ≠ 5) {x y : Int} (h : ∀ i, i < F.vars.toNat → bitB x i = true → bitB y i = true) :
    ∀ j, j < F.vars.toNat + F.nodes.length → F.val x j = true → F.val y j = true := by
  intro j
  induction j using Nat.strongRecOn with
  | _ j ih =>
    intro hlt hx
    rcases Nat.lt_or_ge j F.vars.toNat with hv | hv
    · rw [F.val_event x hv] at hx
      rw [F.val_event y hv]
      exact h j hv hx
    · obtain ⟨i, rfl⟩ : ∃ i, j = F.vars.toNat + i := ⟨j - F.vars.toNat, by omega⟩
      have hi : i < F.nodes.length := by omega
      rw [Fm.val_node hg x hi] at hx
      rw [Fm.val_node hg y hi]
      have hd := hk _ (List.getElem_mem hi)
      refine nodeVal_mono (cntOf_mono fun a ha h1 => ih a.toNat (hg.argLt hi a ha) (by have := hg.argLt hi a ha; omega) h1) (cntOf_le _ _) hd.1 hd.2 hx
theorem law_grows {F : Fm} (hg : F.Good) (hk : ∀ d ∈ F.nodes, d.kind ≠ 1 ∧ d.kind ≠ 5) {a b : Nat} (ha : a < 2 ^ F.vars.toNat) (hb : b < 2 ^ F.vars.toNat) (h : F.value (a : Int) = true) : F.value ((a ||| b : Nat) : Int) = true := by
  have hv : F.vars.toNat ≤ 24 := by have := hg.v1; have := hg.v0; omega
  rw [Fm.value_eq] at h ⊢
  refine Fm.val_mono hg hk (fun i hi hm => ?_) _ (by have := hg.topLt; have := hg.v0; omega) h
  rw [bitB_nat (pow_lt63 hv ha) (by omega)] at hm
  rw [bitB_nat (pow_lt63 hv (Nat.or_lt_two_pow ha hb)) (by omega), Nat.testBit_or, hm, Bool.true_or]
end Go.GL
