import Derived.Test.YthfbpnfaklaopaaY11
import Derived.Test.YthfbpnfaklaopaaR11
import Derived.Test.YthfbpnfaklaopaaGL77
namespace Go.Proofs
open Go.GL
set_option linter.unusedVariables false
set_option linter.unusedSimpArgs false
set_option maxHeartbeats 2000000 in
theorem normalAssigned_g {H : List Ent} {fv : Value} {F : Fm} (hF : RF H fv F) (hk : F.ok) (q0 q1 q : Int) :
    Gives Try.prog 10 [fv, .agg (List.toArray [.int .i64 q0, .int .i64 q1]), .int .i64 q] H (R1 (.bool true) H) := by
  have hF0 := hF
  obtain ⟨na, off, cap, nsp, rfl, hN⟩ := hF
  refine Gives.enter Try.func10 rfl (by exact Try.ntmps10) rfl ?_
  refine Tri.seq (Tri.region ?_)
  refine TOps.boxN rfl ti24 rfl rfl (fun b3 => ?_)
  refine TOps.hide (fun H0 l0 s0 r3 => ?_)
  replace hF0 := hF0.le l0
  refine TOps.boxN rfl ti43 rfl rfl (fun b4 => ?_)
  refine TOps.hide (fun H1 l1 s1 r4 => ?_)
  replace hF0 := hF0.le l1; replace r3 := r3.le l1
  replace l1 := l1.trans l0
  refine TOps.assign rfl rfl ?_
  refine TOps.next ?_
  refine Tri.seq ?_
  refine Tri.seq (Tri.region ?_)
  refine TOps.call (vs := []) Try.call11 trivial (awake11_g) rfl ?_
  rintro _ _ ⟨rfl, rfl⟩
  refine TOps.not rfl rfl ?_
  refine TOps.move rfl rfl ?_
  refine' TOps.orB 3 rfl rfl rfl rfl (fun hg1_2 => ?_) ?_; rotate_left
  · have hg1_2' := hg1_2
    try simp only [decide_eq_true_eq, decide_eq_false_iff_not, Bool.and_eq_true, Bool.or_eq_true, Bool.not_eq_true', Bool.and_eq_false_iff, Bool.or_eq_false_iff, Bool.not_eq_false', Int.not_lt, Int.not_le, ne_eq, Decidable.not_not] at hg1_2'
    refine TOps.strip 2 false rfl rfl hg1_2 rfl ?_
    refine TOps.loadN rfl ti24 (by first | exact Rd.all (by repeat (first | exact List.Mem.head _ | apply List.Mem.tail)) | (repeat (first | assumption | apply Rd.up))) rfl rfl ?_
    refine TOps.call (vs := [_]) Try.call12 ⟨rfl, trivial⟩ (light_g hF0 hk) rfl ?_
    rintro _ _ ⟨rfl, rfl⟩
    refine TOps.not rfl rfl ?_
    refine TOps.blk rfl (by repeat (first | exact Ext.refl _ | refine Ext.cons rfl ?_)) (by repeat (first | exact Le.refl _ | apply Le.drop))
  refine TOps.move rfl rfl ?_
  refine' TOps.orB 3 rfl rfl rfl rfl (fun hg1_7 => ?_) ?_; rotate_left
  · have hg1_7' := hg1_7
    try simp only [decide_eq_true_eq, decide_eq_false_iff_not, Bool.and_eq_true, Bool.or_eq_true, Bool.not_eq_true', Bool.and_eq_false_iff, Bool.or_eq_false_iff, Bool.not_eq_false', Int.not_lt, Int.not_le, ne_eq, Decidable.not_not] at hg1_7'
    refine TOps.strip 7 false rfl rfl hg1_7 rfl ?_
    refine TOps.loadN rfl ti24 (by first | exact Rd.all (by repeat (first | exact List.Mem.head _ | apply List.Mem.tail)) | (repeat (first | assumption | apply Rd.up))) rfl rfl ?_
    refine TOps.call (vs := [_]) Try.call21 ⟨rfl, trivial⟩ (check_g hF0 hk) rfl ?_
    rintro _ _ ⟨rfl, rfl⟩
    refine TOps.neqNil rfl Try.underlying28 rfl ?_
    refine TOps.blk rfl (by repeat (first | exact Ext.refl _ | refine Ext.cons rfl ?_)) (by repeat (first | exact Le.refl _ | apply Le.drop))
  refine TOps.next ?_
  refine Tri.cond rfl (fun hc1 => ?_) (fun hc1 => ?_)
  · try simp only [decide_eq_true_eq, decide_eq_false_iff_not, Bool.and_eq_true, Bool.or_eq_true, Bool.not_eq_true', Bool.and_eq_false_iff, Bool.or_eq_false_iff, Bool.not_eq_false', Int.not_lt, Int.not_le, ne_eq, Decidable.not_not, Option.isSome_iff_ne_none, Option.isNone_iff_eq_none] at hc1
    refine Tri.seq (Tri.region ?_)
    refine TOps.call (vs := []) Try.call11 trivial (awake11_g) rfl ?_
    rintro _ _ ⟨rfl, rfl⟩
    refine TOps.assign rfl rfl ?_
    refine TOps.next ?_
    refine Tri.ret1 (H' := H) Try.results10 (fun _ _ h => h) (.tmp rfl) l1 ⟨rfl, rfl⟩
  try simp only [decide_eq_true_eq, decide_eq_false_iff_not, Bool.and_eq_true, Bool.or_eq_true, Bool.not_eq_true', Bool.and_eq_false_iff, Bool.or_eq_false_iff, Bool.not_eq_false', Int.not_lt, Int.not_le, ne_eq, Decidable.not_not, Option.isSome_iff_ne_none, Option.isNone_iff_eq_none] at hc1
  have he : F.err = none := by simpa using hc1.2
  have hg := (Fm.good_iff F).1 he
  have g0 := hg.v0; have g1 := hg.v1; have g2 := hg.n1
  obtain ⟨v, hv⟩ := Int.eq_ofNat_of_zero_le g0
  have hvn : F.vars.toNat = v := by omega
  have hv24 : v ≤ 24 := by omega
  have h24 := pow24 hv24
  have hpos := Nat.two_pow_pos v
  obtain ⟨X, hX⟩ : ∃ X, lowBits q v = X := ⟨_, rfl⟩
  have hXlt : X < 2 ^ v := by rw [← hX]; exact lowBits_lt q v
  obtain ⟨Y, hY⟩ : ∃ Y, lowBits q0 v = Y := ⟨_, rfl⟩
  have hYlt : Y < 2 ^ v := by rw [← hY]; exact lowBits_lt q0 v
  obtain ⟨N0, hN0⟩ : ∃ N0, lowBits q1 v = N0 := ⟨_, rfl⟩
  have hN0lt : N0 < 2 ^ v := by rw [← hN0]; exact lowBits_lt q1 v
  obtain ⟨N, hNe⟩ : ∃ N, noPart Y N0 = N := ⟨_, rfl⟩
  have hNlt : N < 2 ^ v := by rw [← hNe]; exact noPart_lt hN0lt
  have hYN : Y &&& N = 0 := by rw [← hNe]; exact noPart_and Y N0
  have hce : F.cubeErr (Y : Int) (N : Int) = none := Fm.cubeErr_good hg (by rw [hvn]; exact hYlt) (by rw [hvn]; exact hNlt) hYN
  have hrE : F.asgE (Y : Int) (N : Int) = sizedE (F.asgB (Y : Int) (N : Int)) := by unfold Fm.asgE; rw [hce]
  have hrF : F.asgF (Y : Int) (N : Int) = sizedF (F.asgB (Y : Int) (N : Int)) := by unfold Fm.asgF; rw [hce]
  have hDf := asgB_fit hg (Y : Int) (N : Int)
  have hval := asg_val2 hg hv hYlt hNlt hXlt hYN
  have hsup := fun h => asg_sup hg hv hYlt hNlt h
  obtain ⟨Z, hZ⟩ : ∃ Z, noPart N (X ||| Y) = Z := ⟨_, rfl⟩
  have hXYlt : X ||| Y < 2 ^ v := Nat.or_lt_two_pow hXlt hYlt
  have hZlt : Z < 2 ^ v := by rw [← hZ]; exact noPart_lt hXYlt
  obtain ⟨D, hD⟩ : ∃ D, F.asgB (Y : Int) (N : Int) = D := ⟨_, rfl⟩
  have hDv : D.vars = v := by rw [← hD]; exact hv
  rw [hZ] at hval
  rw [hD] at hrE hrF hDf hval hsup
  refine Tri.fin ?_
  refine Nrm.next ?_
  refine Tri.seq (Tri.region ?_)
  refine TOps.field0 rfl Try.underlying24 rfl rfl ti3 rfl rfl rfl ?_
  refine TOps.load1 rfl ti3 (by first | exact Rd.lit (by repeat (first | exact List.Mem.head _ | apply List.Mem.tail)) rfl | (repeat (first | assumption | exact Rd.fld (by assumption) 0 rfl | apply Rd.up))) rfl ?_
  refine TOps.call (vs := [_, _, _]) Try.call25 ⟨rfl, rfl, rfl, trivial⟩ (clip_g _ _ _) rfl ?_
  rintro _ _ ⟨rfl, rfl⟩
  rw [clipI_mid (z := F.vars) (by omega) (by omega)]
  refine TOps.shl (r := ((2 ^ v : Nat) : Int)) rfl rfl (by omega) (by rw [hvn]; exact ishl_one (by omega)) rfl ?_
  refine TOps.sub (r := ((2 ^ v - 1 : Nat) : Int)) rfl rfl (by rw [wrapI (by omega) (by omega)]; omega) rfl ?_
  refine TOps.assign rfl rfl ?_
  refine TOps.next ?_
  refine Tri.seq (Tri.region ?_)
  refine TOps.indexAddrA (off' := 0) rfl rfl Try.underlying43 ti3 (by omega) (by omega) rfl rfl ?_
  refine TOps.load1 rfl ti3 (Rd.fld r4 0 rfl) rfl ?_
  refine TOps.move rfl rfl ?_
  refine TOps.and (r := (Y : Int)) rfl rfl (by rw [iand_mask (by omega), hY]) rfl ?_
  refine TOps.assign rfl rfl ?_
  refine TOps.next ?_
  refine Tri.seq (Tri.region ?_)
  refine TOps.indexAddrA (off' := 1) rfl rfl Try.underlying43 ti3 (by omega) (by omega) rfl rfl ?_
  refine TOps.load1 rfl ti3 (Rd.fld r4 1 rfl) rfl ?_
  refine TOps.move rfl rfl ?_
  refine TOps.and (r := (N0 : Int)) rfl rfl (by rw [iand_mask (by omega), hN0]) rfl ?_
  refine TOps.move rfl rfl ?_
  refine TOps.andNot (r := (N : Int)) rfl rfl (by rw [← hNe]; exact iandn_nat (by omega) (by omega)) rfl ?_
  refine TOps.assign rfl rfl ?_
  refine TOps.next ?_
  refine Tri.seq (Tri.region ?_)
  refine TOps.loadN rfl ti24 (by first | exact Rd.all (by repeat (first | exact List.Mem.head _ | apply List.Mem.tail)) | (repeat (first | assumption | apply Rd.up))) rfl rfl ?_
  refine TOps.move rfl rfl ?_
  refine TOps.move rfl rfl ?_
  refine TOps.buildStruct (vs := [(0, _), (1, _)]) (xs := [_, _]) [(0, 1), (1, 1)] Try.underlying39 ti39 (fun w => by simp) ⟨rfl, rfl, rfl, rfl, trivial⟩ rfl rfl ?_
  refine TOps.call (vs := [_, _]) Try.call19 ⟨rfl, rfl, trivial⟩ (assign_g hF0 hk (Y : Int) (N : Int)) rfl ?_
  rintro _ _ ⟨a, c, NN, rfl, hN2, rfl⟩
  rw [hrE, hrF]
  rw [hrF] at hN2
  obtain ⟨SF, hSF⟩ : ∃ SF, sizedF D = SF := ⟨_, rfl⟩
  rw [hSF] at hN2 ⊢
  refine TOps.move rfl rfl ?_
  refine TOps.extract rfl rfl rfl ?_
  refine TOps.extract rfl rfl rfl ?_
  refine TOps.alloc ti24 rfl (fun b10 => ?_)
  refine TOps.storeN rfl rfl ti24 rfl rfl (by repeat (first | exact Upd.here | apply Upd.there)) (by first | decide | (simp; done) | (simp; omega)) ?_
  refine TOps.assign rfl rfl ?_
  refine TOps.hide (fun H2 l2 s2 r10 => ?_)
  replace r10 : Rd H2 b10 0 [.int .i64 SF.vars, slV a 0 SF.nodes.length c, .int .i64 SF.top] := r10
  have l3 := l2.trans (Le.sub (List.sublist_append_right NN H1))
  have hXf : RF H2 (.agg (List.toArray [.int .i64 SF.vars, slV a 0 SF.nodes.length c, .int .i64 SF.top])) SF := ⟨a, 0, c, none, rfl, hN2.le (l2.trans (Le.sub (List.sublist_append_left _ _)))⟩
  replace hF0 := hF0.le l3; replace r3 := r3.le l3
  have l4 := l3.trans l1
  refine TOps.next ?_
  refine Tri.seq ?_
  refine Tri.seq (Tri.region ?_)
  refine TOps.move rfl rfl ?_
  refine TOps.neqNil (T := 47) (o := sizedE D) rfl Try.underlying28 rfl ?_
  refine TOps.next ?_
  refine Tri.cond rfl (fun hc2 => ?_) (fun hc2 => ?_)
  · try simp only [decide_eq_true_eq, decide_eq_false_iff_not, Bool.and_eq_true, Bool.or_eq_true, Bool.not_eq_true', Bool.and_eq_false_iff, Bool.or_eq_false_iff, Bool.not_eq_false', Int.not_lt, Int.not_le, ne_eq, Decidable.not_not, Option.isSome_iff_ne_none, Option.isNone_iff_eq_none] at hc2
    refine Tri.seq (Tri.region ?_)
    refine TOps.move rfl rfl ?_
    refine TOps.call (vs := [_, _]) Try.call22 ⟨rfl, rfl, trivial⟩ (is_g (sizedE D) 4) rfl ?_
    rintro _ _ ⟨rfl, rfl⟩
    refine TOps.assign rfl rfl ?_
    refine TOps.next ?_
    refine Tri.ret1 (H' := H) Try.results10 (fun _ _ h => h) (.tmp rfl) l4 ⟨by rcases sizedE_cases D with h | h; exact absurd h (by simpa using hc2); rw [h]; rfl, rfl⟩
  try simp only [decide_eq_true_eq, decide_eq_false_iff_not, Bool.and_eq_true, Bool.or_eq_true, Bool.not_eq_true', Bool.and_eq_false_iff, Bool.or_eq_false_iff, Bool.not_eq_false', Int.not_lt, Int.not_le, ne_eq, Decidable.not_not, Option.isSome_iff_ne_none, Option.isNone_iff_eq_none] at hc2
  have hJ0 : sizedE D = none := by simpa using hc2
  have hJl := sizedE_none hJ0
  have hJg := hDf.good hJl
  obtain rfl : D = SF := by rw [← hSF, sizedF_of hJl]
  have hJvn : D.vars.toNat = v := by omega
  have heD := (Fm.good_iff D).2 hJg
  have hsF : F.setErr (Z : Int) = none := Fm.setErr_of hg (by rw [hvn]; exact hZlt)
  have hsD : D.setErr (X : Int) = none := Fm.setErr_of hJg (by rw [hJvn]; exact hXlt)
  obtain ⟨bb, hbb⟩ : ∃ bb, F.value (Z : Int) = bb := ⟨_, rfl⟩
  rw [hbb] at hval
  have hsup' := hsup hJl
  obtain ⟨hfe, hfr⟩ := fold_res hJg
  have hsl : D.support < 2 ^ v := by have := D.support_lt; rwa [hJvn] at this
  have hYNlt : Y ||| N < 2 ^ v := Nat.or_lt_two_pow hYlt hNlt
  refine Tri.fin ?_
  refine Nrm.next ?_
  refine Tri.seq (Tri.region ?_)
  refine TOps.loadN rfl ti24 (by first | exact Rd.all (by repeat (first | exact List.Mem.head _ | apply List.Mem.tail)) | (repeat (first | assumption | apply Rd.up))) rfl rfl ?_
  refine TOps.move rfl rfl ?_
  refine TOps.move rfl rfl ?_
  refine TOps.or (r := ior q (Y : Int)) rfl rfl rfl rfl ?_
  refine TOps.move rfl rfl ?_
  refine TOps.and (r := ((X ||| Y : Nat) : Int)) rfl rfl (by rw [iand_mask (by omega), lowBits_ior _ _ (by omega), hX, lowBits_nat hYlt]) rfl ?_
  refine TOps.move rfl rfl ?_
  refine TOps.andNot (r := (Z : Int)) rfl rfl (by rw [← hZ]; exact iandn_nat (by omega) (by omega)) rfl ?_
  refine TOps.call (vs := [_, _]) Try.call23 ⟨rfl, rfl, trivial⟩ (value_g hF0 hk (Z : Int)) rfl ?_
  rintro _ _ ⟨rfl, rfl⟩
  rw [hsF, hbb, show ((none : Option Int).isNone && bb) = bb from rfl]
  refine TOps.move rfl rfl ?_
  refine TOps.extract rfl rfl rfl ?_
  refine TOps.extract rfl rfl rfl ?_
  refine TOps.assign rfl rfl ?_
  refine TOps.assign rfl rfl ?_
  refine TOps.next ?_
  refine Tri.seq (Tri.region ?_)
  refine TOps.loadN rfl ti24 (by first | exact Rd.all (by repeat (first | exact List.Mem.head _ | apply List.Mem.tail)) | (repeat (first | assumption | apply Rd.up))) rfl rfl ?_
  refine TOps.move rfl rfl ?_
  refine TOps.move rfl rfl ?_
  refine TOps.and (r := (X : Int)) rfl rfl (by rw [iand_mask (by omega), hX]) rfl ?_
  refine TOps.call (vs := [_, _]) Try.call23 ⟨rfl, rfl, trivial⟩ (value_g hXf hJg.ok (X : Int)) rfl ?_
  rintro _ _ ⟨rfl, rfl⟩
  rw [hsD, hval, show ((none : Option Int).isNone && bb) = bb from rfl]
  refine TOps.move rfl rfl ?_
  refine TOps.extract rfl rfl rfl ?_
  refine TOps.extract rfl rfl rfl ?_
  refine TOps.assign rfl rfl ?_
  refine TOps.assign rfl rfl ?_
  refine TOps.next ?_
  refine Tri.seq (Tri.region ?_)
  refine TOps.loadN rfl ti24 (by first | exact Rd.all (by repeat (first | exact List.Mem.head _ | apply List.Mem.tail)) | (repeat (first | assumption | apply Rd.up))) rfl rfl ?_
  refine TOps.call (vs := [_]) Try.call29 ⟨rfl, trivial⟩ (support_g hXf hJg.ok) rfl ?_
  rintro _ _ ⟨rfl, rfl⟩
  rw [show (bif D.err.isNone then (D.support : Int) else 0) = D.support from by rw [heD]; rfl, heD]
  refine TOps.move rfl rfl ?_
  refine TOps.extract rfl rfl rfl ?_
  refine TOps.extract rfl rfl rfl ?_
  refine TOps.assign rfl rfl ?_
  refine TOps.assign rfl rfl ?_
  refine TOps.next ?_
  refine Tri.seq ?_
  refine Tri.seq (Tri.region ?_)
  refine TOps.move rfl rfl ?_
  refine TOps.neqNil (T := 47) (o := none) rfl Try.underlying28 rfl ?_
  refine TOps.move rfl rfl ?_
  refine' TOps.orB 2 rfl rfl rfl rfl (fun hg12_2 => ?_) ?_; rotate_left
  · have hg12_2' := hg12_2
    try simp only [decide_eq_true_eq, decide_eq_false_iff_not, Bool.and_eq_true, Bool.or_eq_true, Bool.not_eq_true', Bool.and_eq_false_iff, Bool.or_eq_false_iff, Bool.not_eq_false', Int.not_lt, Int.not_le, ne_eq, Decidable.not_not] at hg12_2'
    refine TOps.strip 2 false rfl rfl hg12_2 rfl ?_
    refine TOps.move rfl rfl ?_
    refine TOps.neqNil (T := 47) (o := none) rfl Try.underlying28 rfl ?_
    refine TOps.blk rfl (by repeat (first | exact Ext.refl _ | refine Ext.cons rfl ?_)) (by repeat (first | exact Le.refl _ | apply Le.drop))
  refine TOps.move rfl rfl ?_
  refine' TOps.orB 2 rfl rfl rfl rfl (fun hg12_6 => ?_) ?_; rotate_left
  · have hg12_6' := hg12_6
    try simp only [decide_eq_true_eq, decide_eq_false_iff_not, Bool.and_eq_true, Bool.or_eq_true, Bool.not_eq_true', Bool.and_eq_false_iff, Bool.or_eq_false_iff, Bool.not_eq_false', Int.not_lt, Int.not_le, ne_eq, Decidable.not_not] at hg12_6'
    refine TOps.strip 6 false rfl rfl hg12_6 rfl ?_
    refine TOps.move rfl rfl ?_
    refine TOps.neqNil (T := 47) (o := none) rfl Try.underlying28 rfl ?_
    refine TOps.blk rfl (by repeat (first | exact Ext.refl _ | refine Ext.cons rfl ?_)) (by repeat (first | exact Le.refl _ | apply Le.drop))
  refine TOps.move rfl rfl ?_
  refine' TOps.orB 3 rfl rfl rfl rfl (fun hg12_10 => ?_) ?_; rotate_left
  · have hg12_10' := hg12_10
    try simp only [decide_eq_true_eq, decide_eq_false_iff_not, Bool.and_eq_true, Bool.or_eq_true, Bool.not_eq_true', Bool.and_eq_false_iff, Bool.or_eq_false_iff, Bool.not_eq_false', Int.not_lt, Int.not_le, ne_eq, Decidable.not_not] at hg12_10'
    refine TOps.strip 10 false rfl rfl hg12_10 rfl ?_
    refine TOps.move rfl rfl ?_
    refine TOps.move rfl rfl ?_
    refine TOps.neqB rfl rfl Try.underlying4 rfl ?_
    refine TOps.blk rfl (by repeat (first | exact Ext.refl _ | refine Ext.cons rfl ?_)) (by repeat (first | exact Le.refl _ | apply Le.drop))
  refine TOps.move rfl rfl ?_
  refine' TOps.orB 6 rfl rfl rfl rfl (fun hg12_15 => ?_) ?_; rotate_left
  · have hg12_15' := hg12_15
    try simp only [decide_eq_true_eq, decide_eq_false_iff_not, Bool.and_eq_true, Bool.or_eq_true, Bool.not_eq_true', Bool.and_eq_false_iff, Bool.or_eq_false_iff, Bool.not_eq_false', Int.not_lt, Int.not_le, ne_eq, Decidable.not_not] at hg12_15'
    refine TOps.strip 15 false rfl rfl hg12_15 rfl ?_
    refine TOps.move rfl rfl ?_
    refine TOps.move rfl rfl ?_
    refine TOps.move rfl rfl ?_
    refine TOps.or (r := ((Y ||| N : Nat) : Int)) rfl rfl (ior_nat (by omega) (by omega)) rfl ?_
    refine TOps.and (r := 0) rfl rfl (by rw [iand_nat (by omega) (by omega), hsup']; rfl) rfl ?_
    refine TOps.neqI rfl rfl rfl ?_
    refine TOps.blk rfl (by repeat (first | exact Ext.refl _ | refine Ext.cons rfl ?_)) (by repeat (first | exact Le.refl _ | apply Le.drop))
  refine TOps.next ?_
  refine Tri.cond rfl (fun hc3 => ?_) (fun hc3 => ?_)
  · try simp only [decide_eq_true_eq, decide_eq_false_iff_not, Bool.and_eq_true, Bool.or_eq_true, Bool.not_eq_true', Bool.and_eq_false_iff, Bool.or_eq_false_iff, Bool.not_eq_false', Int.not_lt, Int.not_le, ne_eq, Decidable.not_not, Option.isSome_iff_ne_none, Option.isNone_iff_eq_none] at hc3
    have hfalse : False := by simp at hc3
    refine Tri.seq (Tri.region ?_)
    refine TOps.assign rfl rfl ?_
    refine TOps.next ?_
    exact hfalse.elim
  try simp only [decide_eq_true_eq, decide_eq_false_iff_not, Bool.and_eq_true, Bool.or_eq_true, Bool.not_eq_true', Bool.and_eq_false_iff, Bool.or_eq_false_iff, Bool.not_eq_false', Int.not_lt, Int.not_le, ne_eq, Decidable.not_not, Option.isSome_iff_ne_none, Option.isNone_iff_eq_none] at hc3
  refine Tri.fin ?_
  refine Nrm.next ?_
  refine Tri.seq (Tri.region ?_)
  refine TOps.loadN rfl ti24 (by first | exact Rd.all (by repeat (first | exact List.Mem.head _ | apply List.Mem.tail)) | (repeat (first | assumption | apply Rd.up))) rfl rfl ?_
  refine TOps.call (vs := [_]) Try.call26 ⟨rfl, trivial⟩ (fold_g hXf hJg.ok) rfl ?_
  rintro _ _ ⟨a2, c2, NN2, rfl, hN3, rfl⟩
  obtain ⟨SE, hSE⟩ : ∃ SE, D.foldE = SE := ⟨_, rfl⟩
  obtain ⟨G, hG⟩ : ∃ G, D.foldF = G := ⟨_, rfl⟩
  rw [hSE] at hfe hfr ⊢
  rw [hG] at hfr hN3 ⊢
  refine TOps.move rfl rfl ?_
  refine TOps.extract rfl rfl rfl ?_
  refine TOps.extract rfl rfl rfl ?_
  refine TOps.alloc ti24 rfl (fun b18 => ?_)
  refine TOps.storeN rfl rfl ti24 rfl rfl (by repeat (first | exact Upd.here | apply Upd.there)) (by first | decide | (simp; done) | (simp; omega)) ?_
  refine TOps.assign rfl rfl ?_
  refine TOps.hide (fun H3 l5 s5 r18 => ?_)
  replace r18 : Rd H3 b18 0 [.int .i64 G.vars, slV a2 0 G.nodes.length c2, .int .i64 G.top] := r18
  have hYf : RF H3 (.agg (List.toArray [.int .i64 G.vars, slV a2 0 G.nodes.length c2, .int .i64 G.top])) G := ⟨a2, 0, c2, none, rfl, hN3.le (l5.trans (Le.sub (List.sublist_append_left _ _)))⟩
  have l6 := (l5.trans (Le.sub (List.sublist_append_right NN2 H2))).trans l4
  refine TOps.next ?_
  refine Tri.seq ?_
  refine Tri.seq (Tri.region ?_)
  refine TOps.move rfl rfl ?_
  refine TOps.neqNil (T := 47) (o := SE) rfl Try.underlying28 rfl ?_
  refine TOps.next ?_
  refine Tri.cond rfl (fun hc4 => ?_) (fun hc4 => ?_)
  · try simp only [decide_eq_true_eq, decide_eq_false_iff_not, Bool.and_eq_true, Bool.or_eq_true, Bool.not_eq_true', Bool.and_eq_false_iff, Bool.or_eq_false_iff, Bool.not_eq_false', Int.not_lt, Int.not_le, ne_eq, Decidable.not_not, Option.isSome_iff_ne_none, Option.isNone_iff_eq_none] at hc4
    refine Tri.seq (Tri.region ?_)
    refine TOps.move rfl rfl ?_
    refine TOps.call (vs := [_, _]) Try.call22 ⟨rfl, rfl, trivial⟩ (is_g SE 4) rfl ?_
    rintro _ _ ⟨rfl, rfl⟩
    refine TOps.assign rfl rfl ?_
    refine TOps.next ?_
    refine Tri.ret1 (H' := H) Try.results10 (fun _ _ h => h) (.tmp rfl) l6 ⟨by rcases hfe with h | h; exact absurd h (by simpa using hc4); rw [h]; rfl, rfl⟩
  try simp only [decide_eq_true_eq, decide_eq_false_iff_not, Bool.and_eq_true, Bool.or_eq_true, Bool.not_eq_true', Bool.and_eq_false_iff, Bool.or_eq_false_iff, Bool.not_eq_false', Int.not_lt, Int.not_le, ne_eq, Decidable.not_not, Option.isSome_iff_ne_none, Option.isNone_iff_eq_none] at hc4
  obtain ⟨f1, f2, f3, _⟩ := hfr (by simpa using hc4)
  have hsG : G.setErr (X : Int) = none := Fm.setErr_of f1 (by rw [f2, hJvn]; exact hXlt)
  refine Tri.fin ?_
  refine Nrm.next ?_
  refine Tri.seq (Tri.region ?_)
  refine TOps.loadN rfl ti24 (by first | exact Rd.all (by repeat (first | exact List.Mem.head _ | apply List.Mem.tail)) | (repeat (first | assumption | apply Rd.up))) rfl rfl ?_
  refine TOps.move rfl rfl ?_
  refine TOps.move rfl rfl ?_
  refine TOps.and (r := (X : Int)) rfl rfl (by rw [iand_mask (by omega), hX]) rfl ?_
  refine TOps.call (vs := [_, _]) Try.call23 ⟨rfl, rfl, trivial⟩ (value_g hYf f1.ok (X : Int)) rfl ?_
  rintro _ _ ⟨rfl, rfl⟩
  rw [hsG, f3, hval, show ((none : Option Int).isNone && bb) = bb from rfl]
  refine TOps.move rfl rfl ?_
  refine TOps.extract rfl rfl rfl ?_
  refine TOps.extract rfl rfl rfl ?_
  refine TOps.assign rfl rfl ?_
  refine TOps.assign rfl rfl ?_
  refine TOps.next ?_
  refine Tri.seq (Tri.region ?_)
  refine TOps.move rfl rfl ?_
  refine TOps.eqlNil (T := 47) (o := none) rfl Try.underlying28 rfl ?_
  refine TOps.move rfl rfl ?_
  refine' TOps.andB 3 rfl rfl rfl rfl (fun hg18_2 => ?_) ?_; rotate_left
  · have hg18_2' := hg18_2
    try simp only [decide_eq_true_eq, decide_eq_false_iff_not, Bool.and_eq_true, Bool.or_eq_true, Bool.not_eq_true', Bool.and_eq_false_iff, Bool.or_eq_false_iff, Bool.not_eq_false', Int.not_lt, Int.not_le, ne_eq, Decidable.not_not] at hg18_2'
    refine TOps.strip 2 true rfl rfl hg18_2 rfl ?_
    refine TOps.move rfl rfl ?_
    refine TOps.move rfl rfl ?_
    refine TOps.eqlB rfl rfl Try.underlying4 rfl ?_
    refine TOps.blk rfl (by repeat (first | exact Ext.refl _ | refine Ext.cons rfl ?_)) (by repeat (first | exact Le.refl _ | apply Le.drop))
  refine TOps.assign rfl rfl ?_
  refine TOps.next ?_
  refine Tri.ret1 (H' := H) Try.results10 (fun _ _ h => h) (.tmp rfl) l6 ⟨by simp, rfl⟩
end Go.Proofs
