import Derived.Test.YtheohbingdbjaaaF08
import Derived.Test.YtheohbingdbjaaaGL13
namespace Go.Proofs
open Go.GL
set_option linter.unusedVariables false
set_option linter.unusedSimpArgs false
theorem formulaSupport_g {H : List Ent} {fv : Value} {F : Fm} (hF : RF H fv F) (hk : F.ok) (a b : Int) :
    Gives Try.prog 3 [fv, .int .i64 a, .int .i64 b] H (R1 (.bool true) H) := by
  have hF0 := hF
  obtain ⟨na, off, cap, nsp, rfl, hN⟩ := hF
  refine Gives.enter Try.func3 rfl (by exact Try.ntmps3) rfl ?_
  refine Tri.seq (Tri.region ?_)
  refine TOps.boxN rfl ti24 rfl rfl (fun b3 => ?_)
  refine TOps.hide (fun H1 l1 s1 r1 => ?_)
  replace hF0 := hF0.le l1
  refine TOps.assign rfl rfl ?_
  refine TOps.next ?_
  refine Tri.seq ?_
  refine Tri.seq (Tri.region ?_)
  refine TOps.call (vs := []) Try.call9 trivial (awake_g) rfl ?_
  rintro _ _ ⟨rfl, rfl⟩
  refine TOps.not rfl rfl ?_
  refine TOps.move rfl rfl ?_
  refine' TOps.orB 3 rfl rfl rfl rfl (fun hg1_2 => ?_) ?_; rotate_left
  · have hg1_2' := hg1_2
    try simp only [decide_eq_true_eq, decide_eq_false_iff_not, Bool.and_eq_true, Bool.or_eq_true, Bool.not_eq_true', Bool.and_eq_false_iff, Bool.or_eq_false_iff, Bool.not_eq_false', Int.not_lt, Int.not_le, ne_eq, Decidable.not_not] at hg1_2'
    refine TOps.strip 2 false rfl rfl hg1_2 rfl ?_
    refine TOps.loadN rfl ti24 (by first | exact Rd.all (by repeat (first | exact List.Mem.head _ | apply List.Mem.tail)) | (repeat (first | assumption | apply Rd.up))) rfl rfl ?_
    refine TOps.call (vs := [_]) Try.call10 ⟨rfl, trivial⟩ (light_g hF0 hk) rfl ?_
    rintro _ _ ⟨rfl, rfl⟩
    refine TOps.not rfl rfl ?_
    refine TOps.blk rfl (by repeat (first | exact Ext.refl _ | refine Ext.cons rfl ?_)) (by repeat (first | exact Le.refl _ | apply Le.drop))
  refine TOps.move rfl rfl ?_
  refine' TOps.orB 3 rfl rfl rfl rfl (fun hg1_7 => ?_) ?_; rotate_left
  · have hg1_7' := hg1_7
    try simp only [decide_eq_true_eq, decide_eq_false_iff_not, Bool.and_eq_true, Bool.or_eq_true, Bool.not_eq_true', Bool.and_eq_false_iff, Bool.or_eq_false_iff, Bool.not_eq_false', Int.not_lt, Int.not_le, ne_eq, Decidable.not_not] at hg1_7'
    refine TOps.strip 7 false rfl rfl hg1_7 rfl ?_
    refine TOps.loadN rfl ti24 (by first | exact Rd.all (by repeat (first | exact List.Mem.head _ | apply List.Mem.tail)) | (repeat (first | assumption | apply Rd.up))) rfl rfl ?_
    refine TOps.call (vs := [_]) Try.call11 ⟨rfl, trivial⟩ (check_g hF0 hk) rfl ?_
    rintro _ _ ⟨rfl, rfl⟩
    refine TOps.neqNil rfl Try.underlying28 rfl ?_
    refine TOps.blk rfl (by repeat (first | exact Ext.refl _ | refine Ext.cons rfl ?_)) (by repeat (first | exact Le.refl _ | apply Le.drop))
  refine TOps.next ?_
  refine Tri.cond rfl (fun hc1 => ?_) (fun hc1 => ?_)
  · try simp only [decide_eq_true_eq, decide_eq_false_iff_not, Bool.and_eq_true, Bool.or_eq_true, Bool.not_eq_true', Bool.and_eq_false_iff, Bool.or_eq_false_iff, Bool.not_eq_false', Int.not_lt, Int.not_le, ne_eq, Decidable.not_not, Option.isSome_iff_ne_none, Option.isNone_iff_eq_none] at hc1
    refine Tri.seq (Tri.region ?_)
    refine TOps.call (vs := []) Try.call9 trivial (awake_g) rfl ?_
    rintro _ _ ⟨rfl, rfl⟩
    refine TOps.assign rfl rfl ?_
    refine TOps.next ?_
    refine Tri.ret1 (H' := H) Try.results3 (fun _ _ h => h) (.tmp rfl) l1 ⟨rfl, rfl⟩
  try simp only [decide_eq_true_eq, decide_eq_false_iff_not, Bool.and_eq_true, Bool.or_eq_true, Bool.not_eq_true', Bool.and_eq_false_iff, Bool.or_eq_false_iff, Bool.not_eq_false', Int.not_lt, Int.not_le, ne_eq, Decidable.not_not, Option.isSome_iff_ne_none, Option.isNone_iff_eq_none] at hc1
  have he : F.err = none := by simpa using hc1.2
  have hg := (Fm.good_iff F).1 he
  have g0 := hg.v0; have g1 := hg.v1
  obtain ⟨v, hv⟩ := Int.eq_ofNat_of_zero_le g0
  have hvn : F.vars.toNat = v := by omega
  have hv24 : v ≤ 24 := by omega
  have h24 := pow24 hv24
  have hpos := Nat.two_pow_pos v
  have hA := lowBits_lt a v
  have hB := lowBits_lt b v
  have hS := F.support_lt
  rw [hvn] at hS
  have hZ := mixS_lt (s := F.support) hA hB
  have hlaw := law_support hg (a := lowBits a v) (b := lowBits b v) (by rw [hvn]; exact hA) (by rw [hvn]; exact hB)
  have hsA := Fm.setErr_of hg (x := lowBits a v) (by rw [hvn]; exact hA)
  have hsZ := Fm.setErr_of hg (x := mixS (lowBits a v) (lowBits b v) F.support) (by rw [hvn]; exact hZ)
  rw [hv] at r1 hF0 ⊢
  refine Tri.fin ?_
  refine Nrm.next ?_
  refine Tri.seq (Tri.region ?_)
  refine TOps.field0 rfl Try.underlying24 rfl rfl ti3 rfl rfl rfl ?_
  refine TOps.load1 rfl ti3 (by first | exact Rd.lit (by repeat (first | exact List.Mem.head _ | apply List.Mem.tail)) rfl | (repeat (first | assumption | exact Rd.fld (by assumption) 0 rfl | apply Rd.up))) rfl ?_
  refine TOps.call (vs := [_, _, _]) Try.call12 ⟨rfl, rfl, rfl, trivial⟩ (clip_g _ _ _) rfl ?_
  rintro _ _ ⟨rfl, rfl⟩
  rw [clipI_mid (z := (v : Int)) (by omega) (by omega)]
  refine TOps.shl (r := ((2 ^ v : Nat) : Int)) rfl rfl (by omega) (by rw [Int.toNat_natCast]; exact ishl_one (by omega)) rfl ?_
  refine TOps.sub (r := ((2 ^ v - 1 : Nat) : Int)) rfl rfl (by rw [wrapI (by omega) (by omega)]; omega) rfl ?_
  refine TOps.assign rfl rfl ?_
  refine TOps.next ?_
  refine Tri.seq (Tri.region ?_)
  refine TOps.loadN rfl ti24 (by first | exact Rd.all (by repeat (first | exact List.Mem.head _ | apply List.Mem.tail)) | (repeat (first | assumption | apply Rd.up))) rfl rfl ?_
  refine TOps.call (vs := [_]) Try.call13 ⟨rfl, trivial⟩ (support_g hF0 hk) rfl ?_
  rintro _ _ ⟨rfl, rfl⟩
  rw [show (bif F.err.isNone then (F.support : Int) else 0) = F.support from by rw [he]; rfl, he]
  refine TOps.move rfl rfl ?_
  refine TOps.extract rfl rfl rfl ?_
  refine TOps.extract rfl rfl rfl ?_
  refine TOps.assign rfl rfl ?_
  refine TOps.assign rfl rfl ?_
  refine TOps.next ?_
  refine Tri.seq (Tri.region ?_)
  refine TOps.loadN rfl ti24 (by first | exact Rd.all (by repeat (first | exact List.Mem.head _ | apply List.Mem.tail)) | (repeat (first | assumption | apply Rd.up))) rfl rfl ?_
  refine TOps.move rfl rfl ?_
  refine TOps.move rfl rfl ?_
  refine TOps.and rfl rfl (iand_mask (by omega)) rfl ?_
  refine TOps.call (vs := [_, _]) Try.call14 ⟨rfl, rfl, trivial⟩ (value_g hF0 hk _) rfl ?_
  rintro _ _ ⟨rfl, rfl⟩
  rw [hsA]
  refine TOps.move rfl rfl ?_
  refine TOps.extract rfl rfl rfl ?_
  refine TOps.extract rfl rfl rfl ?_
  refine TOps.assign rfl rfl ?_
  refine TOps.assign rfl rfl ?_
  refine TOps.next ?_
  refine Tri.seq (Tri.region ?_)
  refine TOps.loadN rfl ti24 (by first | exact Rd.all (by repeat (first | exact List.Mem.head _ | apply List.Mem.tail)) | (repeat (first | assumption | apply Rd.up))) rfl rfl ?_
  refine TOps.move rfl rfl ?_
  refine TOps.move rfl rfl ?_
  refine TOps.and rfl rfl (iand_low hS (by omega)) rfl ?_
  refine TOps.move rfl rfl ?_
  refine TOps.move rfl rfl ?_
  refine TOps.and rfl rfl (iand_mask (by omega)) rfl ?_
  refine TOps.move rfl rfl ?_
  refine TOps.andNot rfl rfl (iandn_nat (by omega) (by omega)) rfl ?_
  refine TOps.or (r := ((mixS (lowBits a v) (lowBits b v) F.support : Nat) : Int)) rfl rfl (ior_nat (Nat.lt_of_le_of_lt Nat.and_le_left (by omega)) (Nat.lt_of_lt_of_le (Nat.xor_lt_two_pow hB (Nat.lt_of_le_of_lt Nat.and_le_left hB)) (by omega))) rfl ?_
  refine TOps.call (vs := [_, _]) Try.call14 ⟨rfl, rfl, trivial⟩ (value_g hF0 hk _) rfl ?_
  rintro _ _ ⟨rfl, rfl⟩
  rw [hsZ]
  refine TOps.move rfl rfl ?_
  refine TOps.extract rfl rfl rfl ?_
  refine TOps.extract rfl rfl rfl ?_
  refine TOps.assign rfl rfl ?_
  refine TOps.assign rfl rfl ?_
  refine TOps.next ?_
  refine Tri.seq (Tri.region ?_)
  refine TOps.move rfl rfl ?_
  refine TOps.eqlNil rfl Try.underlying28 rfl ?_
  refine TOps.move rfl rfl ?_
  refine' TOps.andB 2 rfl rfl rfl rfl (fun hg7_2 => ?_) ?_; rotate_left
  · have hg7_2' := hg7_2
    try simp only [decide_eq_true_eq, decide_eq_false_iff_not, Bool.and_eq_true, Bool.or_eq_true, Bool.not_eq_true', Bool.and_eq_false_iff, Bool.or_eq_false_iff, Bool.not_eq_false', Int.not_lt, Int.not_le, ne_eq, Decidable.not_not] at hg7_2'
    refine TOps.strip 2 true rfl rfl hg7_2 rfl ?_
    refine TOps.move rfl rfl ?_
    refine TOps.eqlNil rfl Try.underlying28 rfl ?_
    refine TOps.blk rfl (by repeat (first | exact Ext.refl _ | refine Ext.cons rfl ?_)) (by repeat (first | exact Le.refl _ | apply Le.drop))
  refine TOps.move rfl rfl ?_
  refine' TOps.andB 2 rfl rfl rfl rfl (fun hg7_6 => ?_) ?_; rotate_left
  · have hg7_6' := hg7_6
    try simp only [decide_eq_true_eq, decide_eq_false_iff_not, Bool.and_eq_true, Bool.or_eq_true, Bool.not_eq_true', Bool.and_eq_false_iff, Bool.or_eq_false_iff, Bool.not_eq_false', Int.not_lt, Int.not_le, ne_eq, Decidable.not_not] at hg7_6'
    refine TOps.strip 6 true rfl rfl hg7_6 rfl ?_
    refine TOps.move rfl rfl ?_
    refine TOps.eqlNil rfl Try.underlying28 rfl ?_
    refine TOps.blk rfl (by repeat (first | exact Ext.refl _ | refine Ext.cons rfl ?_)) (by repeat (first | exact Le.refl _ | apply Le.drop))
  refine TOps.move rfl rfl ?_
  refine' TOps.andB 2 rfl rfl rfl rfl (fun hg7_10 => ?_) ?_; rotate_left
  · have hg7_10' := hg7_10
    try simp only [decide_eq_true_eq, decide_eq_false_iff_not, Bool.and_eq_true, Bool.or_eq_true, Bool.not_eq_true', Bool.and_eq_false_iff, Bool.or_eq_false_iff, Bool.not_eq_false', Int.not_lt, Int.not_le, ne_eq, Decidable.not_not] at hg7_10'
    refine TOps.strip 10 true rfl rfl hg7_10 rfl ?_
    refine TOps.move rfl rfl ?_
    refine TOps.geq rfl rfl rfl ?_
    refine TOps.blk rfl (by repeat (first | exact Ext.refl _ | refine Ext.cons rfl ?_)) (by repeat (first | exact Le.refl _ | apply Le.drop))
  refine TOps.move rfl rfl ?_
  refine' TOps.andB 3 rfl rfl rfl rfl (fun hg7_14 => ?_) ?_; rotate_left
  · have hg7_14' := hg7_14
    try simp only [decide_eq_true_eq, decide_eq_false_iff_not, Bool.and_eq_true, Bool.or_eq_true, Bool.not_eq_true', Bool.and_eq_false_iff, Bool.or_eq_false_iff, Bool.not_eq_false', Int.not_lt, Int.not_le, ne_eq, Decidable.not_not] at hg7_14'
    refine TOps.strip 14 true rfl rfl hg7_14 rfl ?_
    refine TOps.move rfl rfl ?_
    refine TOps.move rfl rfl ?_
    refine TOps.leq rfl rfl rfl ?_
    refine TOps.blk rfl (by repeat (first | exact Ext.refl _ | refine Ext.cons rfl ?_)) (by repeat (first | exact Le.refl _ | apply Le.drop))
  refine TOps.move rfl rfl ?_
  refine' TOps.andB 3 rfl rfl rfl rfl (fun hg7_19 => ?_) ?_; rotate_left
  · have hg7_19' := hg7_19
    try simp only [decide_eq_true_eq, decide_eq_false_iff_not, Bool.and_eq_true, Bool.or_eq_true, Bool.not_eq_true', Bool.and_eq_false_iff, Bool.or_eq_false_iff, Bool.not_eq_false', Int.not_lt, Int.not_le, ne_eq, Decidable.not_not] at hg7_19'
    refine TOps.strip 19 true rfl rfl hg7_19 rfl ?_
    refine TOps.move rfl rfl ?_
    refine TOps.move rfl rfl ?_
    refine TOps.eqlB rfl rfl Try.underlying4 rfl ?_
    refine TOps.blk rfl (by repeat (first | exact Ext.refl _ | refine Ext.cons rfl ?_)) (by repeat (first | exact Le.refl _ | apply Le.drop))
  refine TOps.assign rfl rfl ?_
  refine TOps.next ?_
  refine Tri.ret1 (H' := H) Try.results3 (fun _ _ h => h) (.tmp rfl) l1 ⟨by rw [hlaw]; simp; omega, rfl⟩
end Go.Proofs
