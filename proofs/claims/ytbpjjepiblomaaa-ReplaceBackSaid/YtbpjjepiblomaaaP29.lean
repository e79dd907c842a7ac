import Derived.Test.YtbpjjepiblomaaaE29
import Derived.Test.YtbpjjepiblomaaaC29
import Derived.Test.YtbpjjepiblomaaaGL36
namespace Go.Proofs
open Go.GL
set_option linter.unusedVariables false
set_option linter.unusedSimpArgs false
theorem cut24_g {H : List Ent} {b : Nat} (hb : b < 16777216) : Gives Try.prog 57 [.int .i64 b] H (R1 (.int .i64 b) H) := by
  refine Gives.enter Try.func57 rfl (by exact Try.ntmps57) rfl ?_
  refine Tri.seq (Tri.region ?_)
  refine TOps.assign rfl rfl ?_
  refine TOps.next ?_
  refine Tri.seq (Tri.region ?_)
  refine TOps.move rfl rfl ?_
  refine TOps.and (r := (b : Int)) rfl rfl (by rw [show (16777215 : Int) = ((16777215 : Nat) : Int) from rfl, iand_nat (by omega) (by omega), show (16777215 : Nat) = 2 ^ 24 - 1 from by decide, Nat.and_two_pow_sub_one_eq_mod, Nat.mod_eq_of_lt (by omega)]) rfl ?_
  refine TOps.assign rfl rfl ?_
  refine TOps.next ?_
  refine Tri.ret1 (H' := H) Try.results57 (fun _ _ h => h) (.tmp rfl) (Le.refl _) ⟨rfl, rfl⟩
theorem ones64_g {H : List Ent} {x : Nat} (hx : x < 16777216) : Gives Try.prog 62 [.int .u64 x] H (R1 (.int .i64 (pp 24 x : Nat)) H) := by
  obtain ⟨hx1, hx2, hx3, hx4⟩ := swar hx
  have hle := pp_le 24 x
  have e1 : ∀ z : Nat, z >>> 1 = z / 2 := fun z => by rw [Nat.shiftRight_eq_div_pow]
  have e2 : ∀ z : Nat, z >>> 2 = z / 4 := fun z => by rw [Nat.shiftRight_eq_div_pow]
  have e4 : ∀ z : Nat, z >>> 4 = z / 16 := fun z => by rw [Nat.shiftRight_eq_div_pow]
  have e8 : ∀ z : Nat, z >>> 8 = z / 256 := fun z => by rw [Nat.shiftRight_eq_div_pow]
  have e16 : ∀ z : Nat, z >>> 16 = z / 65536 := fun z => by rw [Nat.shiftRight_eq_div_pow]
  have e32 : ∀ z : Nat, z >>> 32 = z / 4294967296 := fun z => by rw [Nat.shiftRight_eq_div_pow]
  obtain ⟨y1, hy1⟩ : ∃ y, y = (x / 2 &&& 6148914691236517205) + (x &&& 6148914691236517205) := ⟨_, rfl⟩
  rw [← hy1] at hx1 hx2 hx3 hx4
  obtain ⟨y2, hy2⟩ : ∃ y, y = (y1 / 4 &&& 3689348814741910323) + (y1 &&& 3689348814741910323) := ⟨_, rfl⟩
  rw [← hy2] at hx2 hx3 hx4
  obtain ⟨y3, hy3⟩ : ∃ y, y = (y2 / 16 + y2) &&& 1085102592571150095 := ⟨_, rfl⟩
  rw [← hy3] at hx3 hx4
  refine Gives.enter Try.func62 rfl (by exact Try.ntmps62) rfl ?_
  refine Tri.seq (Tri.region ?_)
  refine TOps.assign rfl rfl ?_
  refine TOps.next ?_
  refine Tri.seq (Tri.region ?_)
  refine TOps.move rfl rfl ?_
  refine TOps.shrU (r := ((x / 2 : Nat) : Int)) rfl rfl (by omega) (by rw [← e1]; exact ishr_nat (by omega)) rfl ?_
  refine TOps.andU rfl rfl (uand_nat (b := 6148914691236517205) (by omega) (by omega)) rfl ?_
  refine TOps.move rfl rfl ?_
  refine TOps.andU rfl rfl (uand_nat (b := 6148914691236517205) (by omega) (by omega)) rfl ?_
  refine TOps.addU (r := (y1 : Int)) rfl rfl (by rw [hy1] at hx1 ⊢; exact wrapU _ (by omega) (by omega)) rfl ?_
  refine TOps.assign rfl rfl ?_
  refine TOps.next ?_
  refine Tri.seq (Tri.region ?_)
  refine TOps.move rfl rfl ?_
  refine TOps.shrU (r := ((y1 / 4 : Nat) : Int)) rfl rfl (by omega) (by rw [← e2]; exact ishr_nat (by omega)) rfl ?_
  refine TOps.andU rfl rfl (uand_nat (b := 3689348814741910323) (by omega) (by omega)) rfl ?_
  refine TOps.move rfl rfl ?_
  refine TOps.andU rfl rfl (uand_nat (b := 3689348814741910323) (by omega) (by omega)) rfl ?_
  refine TOps.addU (r := (y2 : Int)) rfl rfl (by rw [hy2] at hx2 ⊢; exact wrapU _ (by omega) (by omega)) rfl ?_
  refine TOps.assign rfl rfl ?_
  refine TOps.next ?_
  refine Tri.seq (Tri.region ?_)
  refine TOps.move rfl rfl ?_
  refine TOps.shrU (r := ((y2 / 16 : Nat) : Int)) rfl rfl (by omega) (by rw [← e4]; exact ishr_nat (by omega)) rfl ?_
  refine TOps.move rfl rfl ?_
  refine TOps.addU (r := ((y2 / 16 + y2 : Nat) : Int)) rfl rfl (wrapU _ (by omega) (by omega)) rfl ?_
  refine TOps.andU (r := (y3 : Int)) rfl rfl (by rw [hy3]; exact uand_nat (b := 1085102592571150095) (by omega) (by omega)) rfl ?_
  refine TOps.assign rfl rfl ?_
  refine TOps.next ?_
  refine Tri.seq (Tri.region ?_)
  refine TOps.move rfl rfl ?_
  refine TOps.move rfl rfl ?_
  refine TOps.shrU (r := ((y3 / 256 : Nat) : Int)) rfl rfl (by omega) (by rw [← e8]; exact ishr_nat (by omega)) rfl ?_
  refine TOps.addU (r := ((y3 + y3 / 256 : Nat) : Int)) rfl rfl (wrapU _ (by omega) (by omega)) rfl ?_
  refine TOps.assign rfl rfl ?_
  refine TOps.next ?_
  refine Tri.seq (Tri.region ?_)
  refine TOps.move rfl rfl ?_
  refine TOps.move rfl rfl ?_
  refine TOps.shrU (r := (((y3 + y3 / 256) / 65536 : Nat) : Int)) rfl rfl (by omega) (by rw [← e16]; exact ishr_nat (by omega)) rfl ?_
  refine TOps.addU (r := ((y3 + y3 / 256 + (y3 + y3 / 256) / 65536 : Nat) : Int)) rfl rfl (wrapU _ (by omega) (by omega)) rfl ?_
  refine TOps.assign rfl rfl ?_
  refine TOps.next ?_
  refine Tri.seq (Tri.region ?_)
  refine TOps.move rfl rfl ?_
  refine TOps.move rfl rfl ?_
  refine TOps.shrU (r := (((y3 + y3 / 256 + (y3 + y3 / 256) / 65536) / 4294967296 : Nat) : Int)) rfl rfl (by omega) (by rw [← e32]; exact ishr_nat (by omega)) rfl ?_
  refine TOps.addU (r := ((y3 + y3 / 256 + (y3 + y3 / 256) / 65536 : Nat) : Int)) rfl rfl (by rw [wrapU _ (by omega) (by omega)]; omega) rfl ?_
  refine TOps.assign rfl rfl ?_
  refine TOps.next ?_
  refine Tri.seq (Tri.region ?_)
  refine TOps.move rfl rfl ?_
  refine TOps.convI (r := ((y3 + y3 / 256 + (y3 + y3 / 256) / 65536 : Nat) : Int)) rfl Try.underlying86 Try.underlying3 (wrapI (by omega) (by omega)) rfl ?_
  refine TOps.and (r := ((pp 24 x : Nat) : Int)) rfl rfl (by rw [← hx4, show (127 : Int) = ((127 : Nat) : Int) from rfl, iand_nat (by omega) (by omega), show (127 : Nat) = 2 ^ 7 - 1 from by decide, Nat.and_two_pow_sub_one_eq_mod]) rfl ?_
  refine TOps.assign rfl rfl ?_
  refine TOps.next ?_
  refine Tri.ret1 (H' := H) Try.results62 (fun _ _ h => h) (.tmp rfl) (Le.refl _) ⟨rfl, rfl⟩
theorem ones_g {H : List Ent} {x : Nat} (hx : x < 16777216) : Gives Try.prog 56 [.int .u64 x] H (R1 (.int .i64 (pp 24 x : Nat)) H) := by
  refine Gives.enter Try.func56 rfl (by exact Try.ntmps56) rfl ?_
  refine Tri.seq (Tri.region ?_)
  refine TOps.assign rfl rfl ?_
  refine TOps.next ?_
  refine Tri.seq ?_
  refine Tri.cond rfl (fun hc1 => ?_) (fun hc1 => ?_)
  · exact absurd hc1 (by first | decide | simp)
  try simp only [decide_eq_true_eq, decide_eq_false_iff_not, Bool.and_eq_true, Bool.or_eq_true, Bool.not_eq_true', Bool.and_eq_false_iff, Bool.or_eq_false_iff, Bool.not_eq_false', Int.not_lt, Int.not_le, ne_eq, Decidable.not_not, Option.isSome_iff_ne_none, Option.isNone_iff_eq_none] at hc1
  refine Tri.fin ?_
  refine Nrm.next ?_
  refine Tri.seq (Tri.region ?_)
  refine TOps.move rfl rfl ?_
  refine TOps.call (vs := [_]) Try.call62 ⟨rfl, trivial⟩ (ones64_g hx) rfl ?_
  rintro _ _ ⟨rfl, rfl⟩
  refine TOps.assign rfl rfl ?_
  refine TOps.next ?_
  refine Tri.ret1 (H' := H) Try.results56 (fun _ _ h => h) (.tmp rfl) (Le.refl _) ⟨rfl, rfl⟩
theorem count_g {H : List Ent} {b : Nat} (hb : b < 16777216) : Gives Try.prog 47 [.int .i64 b] H (R1 (.int .i64 (pp 24 b : Nat)) H) := by
  refine Gives.enter Try.func47 rfl (by exact Try.ntmps47) rfl ?_
  refine Tri.seq (Tri.region ?_)
  refine TOps.assign rfl rfl ?_
  refine TOps.next ?_
  refine Tri.seq (Tri.region ?_)
  refine TOps.move rfl rfl ?_
  refine TOps.call (vs := [_]) Try.call57 ⟨rfl, trivial⟩ (cut24_g hb) rfl ?_
  rintro _ _ ⟨rfl, rfl⟩
  refine TOps.convI (r := (b : Int)) rfl Try.underlying3 Try.underlying82 (wrapU _ (by omega) (by omega)) rfl ?_
  refine TOps.call (vs := [_]) Try.call56 ⟨rfl, trivial⟩ (ones_g hb) rfl ?_
  rintro _ _ ⟨rfl, rfl⟩
  refine TOps.assign rfl rfl ?_
  refine TOps.next ?_
  refine Tri.ret1 (H' := H) Try.results47 (fun _ _ h => h) (.tmp rfl) (Le.refl _) ⟨rfl, rfl⟩
end Go.Proofs
