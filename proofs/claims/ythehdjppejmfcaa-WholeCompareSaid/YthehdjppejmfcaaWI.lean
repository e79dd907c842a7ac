import Derived.Test.YthehdjppejmfcaaWH
import Derived.Test.YthehdjppejmfcaaWC
namespace Go.Proofs
open Go.GL
set_option linter.unusedVariables false
set_option linter.unusedSimpArgs false
set_option maxHeartbeats 1000000 in
theorem wholeCompare_g {H : List Ent} {fv gv : Value} {F G : Fm} (hF : RF H fv F) (hkF : F.ok) (hG : RF H gv G) (hkG : G.ok) {T : Tr} {a sp : Option Nat} {o cap2 n : Nat} (hr : RKs H n T.ks a o sp) :
    Gives Try.prog 3 [fv, gv, .agg (List.toArray [.int .i64 T.v, slV a o T.ks.length cap2 sp, .int .i64 T.r])] H (R1 (.bool true) H) := by
  have hF0 := hF; have hG0 := hG
  obtain ⟨na, no, cap, sa, rfl, hN⟩ := hF
  obtain ⟨nb, mo, cbp, sb, rfl, hM⟩ := hG
  refine Gives.enter Try.func3 rfl (by exact Try.ntmps3) rfl ?_
  refine Tri.seq (Tri.region ?_)
  refine TOps.boxN rfl ti24 rfl rfl (fun b3 => ?_)
  refine TOps.hide (fun H1 l1 s1 r1 => ?_)
  replace hF0 := hF0.le l1; replace hG0 := hG0.le l1; replace hr := hr.le l1
  refine TOps.boxN rfl ti24 rfl rfl (fun b4 => ?_)
  refine TOps.hide (fun H2 l2 s2 r2 => ?_)
  replace hF0 := hF0.le l2; replace hG0 := hG0.le l2; replace r1 := r1.le l2; replace hr := hr.le l2
  refine TOps.boxN rfl ti27 rfl rfl (fun b5 => ?_)
  refine TOps.hide (fun H3 l3 s3 r3 => ?_)
  replace hF0 := hF0.le l3; replace hG0 := hG0.le l3; replace r1 := r1.le l3; replace r2 := r2.le l3; replace hr := hr.le l3; have l4 := l3.trans (l2.trans l1)
  refine TOps.assign rfl rfl ?_
  refine TOps.next ?_
  refine Tri.seq ?_
  refine Tri.seq (Tri.region ?_)
  refine TOps.call (vs := []) Try.call4 trivial (awake59_g) rfl ?_
  rintro _ _ ⟨rfl, rfl⟩
  refine TOps.not rfl rfl ?_
  refine TOps.move rfl rfl ?_
  refine' TOps.orB 3 rfl rfl rfl rfl (fun hg1_2 => ?_) ?_; rotate_left
  · have hg1_2' := hg1_2
    try simp only [decide_eq_true_eq, decide_eq_false_iff_not, Bool.and_eq_true, Bool.or_eq_true, Bool.not_eq_true', Bool.and_eq_false_iff, Bool.or_eq_false_iff, Bool.not_eq_false', Int.not_lt, Int.not_le, ne_eq, Decidable.not_not] at hg1_2'
    refine TOps.strip 2 false rfl rfl hg1_2 rfl ?_
    refine TOps.loadN (vs := fc3 F na no cap sa) rfl ti24 r1 rfl rfl ?_
    refine TOps.call (vs := [_]) Try.call5 ⟨rfl, trivial⟩ (ready_g hF0 hkF) rfl ?_
    rintro _ _ ⟨rfl, rfl⟩
    refine TOps.not rfl rfl ?_
    refine TOps.blk rfl (by repeat (first | exact Ext.refl _ | refine Ext.cons rfl ?_)) (by repeat (first | exact Le.refl _ | apply Le.drop))
  refine TOps.move rfl rfl ?_
  refine' TOps.orB 3 rfl rfl rfl rfl (fun hg1_7 => ?_) ?_; rotate_left
  · have hg1_7' := hg1_7
    try simp only [decide_eq_true_eq, decide_eq_false_iff_not, Bool.and_eq_true, Bool.or_eq_true, Bool.not_eq_true', Bool.and_eq_false_iff, Bool.or_eq_false_iff, Bool.not_eq_false', Int.not_lt, Int.not_le, ne_eq, Decidable.not_not] at hg1_7'
    refine TOps.strip 7 false rfl rfl hg1_7 rfl ?_
    refine TOps.loadN (vs := fc3 G nb mo cbp sb) rfl ti24 r2 rfl rfl ?_
    refine TOps.call (vs := [_]) Try.call5 ⟨rfl, trivial⟩ (ready_g hG0 hkG) rfl ?_
    rintro _ _ ⟨rfl, rfl⟩
    refine TOps.not rfl rfl ?_
    refine TOps.blk rfl (by repeat (first | exact Ext.refl _ | refine Ext.cons rfl ?_)) (by repeat (first | exact Le.refl _ | apply Le.drop))
  refine TOps.move rfl rfl ?_
  refine' TOps.orB 5 rfl rfl rfl rfl (fun hg1_12 => ?_) ?_; rotate_left
  · have hg1_12' := hg1_12
    try simp only [decide_eq_true_eq, decide_eq_false_iff_not, Bool.and_eq_true, Bool.or_eq_true, Bool.not_eq_true', Bool.and_eq_false_iff, Bool.or_eq_false_iff, Bool.not_eq_false', Int.not_lt, Int.not_le, ne_eq, Decidable.not_not] at hg1_12'
    refine TOps.strip 12 false rfl rfl hg1_12 rfl ?_
    refine TOps.field0 rfl Try.underlying24 rfl rfl ti3 rfl rfl rfl ?_
    refine TOps.load1 rfl ti3 (by first | exact Rd.lit (by repeat (first | exact List.Mem.head _ | apply List.Mem.tail)) rfl | (repeat (first | assumption | exact Rd.fld (by assumption) 0 rfl | apply Rd.up))) rfl ?_
    refine TOps.field0 rfl Try.underlying24 rfl rfl ti3 rfl rfl rfl ?_
    refine TOps.load1 rfl ti3 (by first | exact Rd.lit (by repeat (first | exact List.Mem.head _ | apply List.Mem.tail)) rfl | (repeat (first | assumption | exact Rd.fld (by assumption) 0 rfl | apply Rd.up))) rfl ?_
    refine TOps.neqI rfl rfl rfl ?_
    refine TOps.blk rfl (by repeat (first | exact Ext.refl _ | refine Ext.cons rfl ?_)) (by repeat (first | exact Le.refl _ | apply Le.drop))
  refine TOps.move rfl rfl ?_
  refine' TOps.orB 3 rfl rfl rfl rfl (fun hg1_19 => ?_) ?_; rotate_left
  · have hg1_19' := hg1_19
    try simp only [decide_eq_true_eq, decide_eq_false_iff_not, Bool.and_eq_true, Bool.or_eq_true, Bool.not_eq_true', Bool.and_eq_false_iff, Bool.or_eq_false_iff, Bool.not_eq_false', Int.not_lt, Int.not_le, ne_eq, Decidable.not_not] at hg1_19'
    refine TOps.strip 19 false rfl rfl hg1_19 rfl ?_
    refine TOps.loadN (vs := [.int .i64 T.v, slV a o T.ks.length cap2 sp, .int .i64 T.r]) rfl ti27 r3 rfl rfl ?_
    refine TOps.call (vs := [_, _]) Try.call6 ⟨rfl, rfl, trivial⟩ (shallow_g (n + 1) (Nat.lt_succ_self n) hr (by decide) (by decide)) rfl ?_
    rintro _ _ ⟨rfl, rfl⟩
    refine TOps.not rfl rfl ?_
    refine TOps.blk rfl (by repeat (first | exact Ext.refl _ | refine Ext.cons rfl ?_)) (by repeat (first | exact Le.refl _ | apply Le.drop))
  refine TOps.next ?_
  refine Tri.cond rfl (fun hc1 => ?_) (fun hc1 => ?_)
  · try simp only [decide_eq_true_eq, decide_eq_false_iff_not, Bool.and_eq_true, Bool.or_eq_true, Bool.not_eq_true', Bool.and_eq_false_iff, Bool.or_eq_false_iff, Bool.not_eq_false', Int.not_lt, Int.not_le, ne_eq, Decidable.not_not, Option.isSome_iff_ne_none, Option.isNone_iff_eq_none] at hc1
    refine Tri.seq (Tri.region ?_)
    refine TOps.call (vs := []) Try.call4 trivial (awake59_g) rfl ?_
    rintro _ _ ⟨rfl, rfl⟩
    refine TOps.assign rfl rfl ?_
    refine TOps.next ?_
    refine Tri.ret1 (H' := H) Try.results3 (fun _ _ h => h) (.tmp rfl) l4 ⟨rfl, rfl⟩
  try simp only [decide_eq_true_eq, decide_eq_false_iff_not, Bool.and_eq_true, Bool.or_eq_true, Bool.not_eq_true', Bool.and_eq_false_iff, Bool.or_eq_false_iff, Bool.not_eq_false', Int.not_lt, Int.not_le, ne_eq, Decidable.not_not, Option.isSome_iff_ne_none, Option.isNone_iff_eq_none] at hc1
  obtain ⟨⟨⟨⟨_, hrF⟩, hrG⟩, hvv⟩, _⟩ := hc1
  obtain ⟨hgF, hvF8, hnF⟩ := readyB_ok hrF
  obtain ⟨hgG, hvG8, hnG⟩ := readyB_ok hrG
  have hv0 := hgF.v0
  obtain ⟨v, hvF⟩ : ∃ v : Nat, F.vars = v := ⟨F.vars.toNat, by omega⟩
  have hvG : G.vars = v := by rw [← hvv]; exact hvF
  have hv8 : v ≤ 8 := by omega
  have hvnF : F.vars.toNat = v := by omega
  have hvnG : G.vars.toNat = v := by omega
  have h2v : (2 : Nat) ^ v ≤ 2 ^ 8 := Nat.pow_le_pow_right (by decide) hv8
  have h28 : (2 : Nat) ^ 8 = 256 := rfl
  have hqe := eqErr_ok hgF hgG hv8 hvF hvG
  refine Tri.fin ?_
  refine Nrm.next ?_
  refine Tri.seq (Tri.region ?_)
  refine TOps.loadN (vs := fc3 F na no cap sa) rfl ti24 r1 rfl rfl ?_
  refine TOps.loadN (vs := fc3 G nb mo cbp sb) rfl ti24 r2 rfl rfl ?_
  refine TOps.call (vs := [_, _]) Try.call7 ⟨rfl, rfl, trivial⟩ (compare_g hF0 hkF hgF hG0 hkG hgG hvF hvG hv8 hnF hnG) rfl ?_
  rintro _ _ ⟨eq, st, ct, gn, ls, rfl, hdf, rfl⟩
  refine TOps.move rfl rfl ?_
  refine TOps.extract rfl rfl rfl ?_
  refine TOps.extract rfl rfl rfl ?_
  refine TOps.alloc ti32 rfl (fun b7 => ?_)
  refine TOps.storeN rfl rfl ti32 rfl rfl (by repeat (first | exact Upd.here | apply Upd.there)) (by first | decide | (simp; done) | (simp; omega)) ?_
  refine TOps.assign rfl rfl ?_
  refine TOps.next ?_
  refine Tri.seq (Tri.region ?_)
  refine TOps.loadN (vs := fc3 F na no cap sa) rfl ti24 r1.up rfl rfl ?_
  refine TOps.loadN (vs := fc3 G nb mo cbp sb) rfl ti24 r2.up rfl rfl ?_
  refine TOps.call (vs := [_, _]) Try.call8 ⟨rfl, rfl, trivial⟩ (equal_g (hF0.le (Le.drop (Le.refl _))) hkF (hG0.le (Le.drop (Le.refl _))) hkG) rfl ?_
  rintro _ _ ⟨z, hzd, rfl, rfl⟩
  replace hzd := hzd hqe
  rw [hqe]
  obtain ⟨g1, g2, g3, g4, g5, g6⟩ := dif_match hvF hdf hzd
  obtain ⟨same, hsame⟩ : ∃ same, decide (z < 0) = same := ⟨_, rfl⟩
  refine TOps.le (Le.refl _) ?_
  rw [show (none : Option Int).isNone = true from rfl, Bool.true_and, hsame, cond_true]
  rw [hsame] at g1
  subst g1
  have rd7 : Rd (row (some b7) 32 5 1 [.bool eq, natV st, natV ct, natV gn, natV ls] :: H3) b7 0 [.bool eq, natV st, natV ct, natV gn, natV ls] := Rd.all (List.Mem.head _)
  refine TOps.move rfl rfl ?_
  refine TOps.extract rfl rfl rfl ?_
  refine TOps.extract rfl rfl rfl ?_
  refine TOps.extract rfl rfl rfl ?_
  refine TOps.assign rfl rfl ?_
  refine TOps.assign rfl rfl ?_
  refine TOps.assign rfl rfl ?_
  refine TOps.next ?_
  refine Tri.seq ?_
  refine Tri.seq (Tri.region ?_)
  refine TOps.move rfl rfl ?_
  refine TOps.neqNil (T := 73) (o := none) rfl Try.underlying34 rfl ?_
  refine TOps.move rfl rfl ?_
  refine' TOps.orB 2 rfl rfl rfl rfl (fun hg5_2 => ?_) ?_; rotate_left
  · have hg5_2' := hg5_2
    try simp only [decide_eq_true_eq, decide_eq_false_iff_not, Bool.and_eq_true, Bool.or_eq_true, Bool.not_eq_true', Bool.and_eq_false_iff, Bool.or_eq_false_iff, Bool.not_eq_false', Int.not_lt, Int.not_le, ne_eq, Decidable.not_not] at hg5_2'
    refine TOps.strip 2 false rfl rfl hg5_2 rfl ?_
    refine TOps.move rfl rfl ?_
    refine TOps.neqNil (T := 73) (o := none) rfl Try.underlying34 rfl ?_
    refine TOps.blk rfl (by repeat (first | exact Ext.refl _ | refine Ext.cons rfl ?_)) (by repeat (first | exact Le.refl _ | apply Le.drop))
  refine TOps.move rfl rfl ?_
  refine' TOps.orB 4 rfl rfl rfl rfl (fun hg5_6 => ?_) ?_; rotate_left
  · have hg5_6' := hg5_6
    try simp only [decide_eq_true_eq, decide_eq_false_iff_not, Bool.and_eq_true, Bool.or_eq_true, Bool.not_eq_true', Bool.and_eq_false_iff, Bool.or_eq_false_iff, Bool.not_eq_false', Int.not_lt, Int.not_le, ne_eq, Decidable.not_not] at hg5_6'
    refine TOps.strip 6 false rfl rfl hg5_6 rfl ?_
    refine TOps.field0 rfl Try.underlying32 rfl rfl ti4 rfl rfl rfl ?_
    refine TOps.load1 rfl ti4 (Rd.fld rd7 0 rfl) rfl ?_
    refine TOps.move rfl rfl ?_
    refine TOps.neqB rfl rfl Try.underlying4 rfl ?_
    refine TOps.blk rfl (by repeat (first | exact Ext.refl _ | refine Ext.cons rfl ?_)) (by repeat (first | exact Le.refl _ | apply Le.drop))
  refine TOps.next ?_
  refine Tri.cond rfl (fun hc2 => ?_) (fun hc2 => ?_)
  · exact absurd hc2 (by first | decide | simp)
  try simp only [decide_eq_true_eq, decide_eq_false_iff_not, Bool.and_eq_true, Bool.or_eq_true, Bool.not_eq_true', Bool.and_eq_false_iff, Bool.or_eq_false_iff, Bool.not_eq_false', Int.not_lt, Int.not_le, ne_eq, Decidable.not_not, Option.isSome_iff_ne_none, Option.isNone_iff_eq_none] at hc2
  refine Tri.fin ?_
  refine Nrm.next ?_
  refine Tri.seq (Tri.region ?_)
  refine TOps.assign rfl rfl ?_
  refine TOps.assign rfl rfl ?_
  refine TOps.next ?_
  refine Tri.seq ?_
  refine Tri.seq (Tri.region ?_)
  refine TOps.field0 rfl Try.underlying24 rfl rfl ti3 rfl rfl rfl ?_
  refine TOps.load1 (v := natV v) rfl ti3 (Rd.eqv (Rd.fld r1 0 rfl).up (by rw [hvF])) rfl ?_
  refine TOps.shl (r := ((2 ^ v : Nat) : Int)) rfl rfl (by omega) (ishl_one (by omega)) rfl ?_
  refine TOps.move rfl rfl ?_
  refine TOps.next ?_
  refine Tri.range (X := Unit) (fun x k => [(3, .pointer (some ⟨b3, 0, none⟩)), (4, .pointer (some ⟨b4, 0, none⟩)), (5, .pointer (some ⟨b5, 0, none⟩)), (7, .pointer (some ⟨b7, 0, none⟩)), (9, .bool eq), (10, .int .i64 z), (12, natV (cntR (gainB F G) k)), (13, natV (cntR (lostB F G) k))]) (fun x k => row (some b7) 32 5 1 [.bool eq, natV st, natV ct, natV gn, natV ls] :: H3) (fun x k => True) (by omega) rfl rfl rfl (fun _ _ => ⟨rfl, rfl, rfl, rfl⟩) () trivial ⟨rfl, rfl, rfl, rfl, rfl, rfl, rfl, rfl, trivial⟩ (by repeat (first | exact Le.refl _ | assumption | apply Le.drop)) (fun k x hlt hp => ?_) (fun x ac wc hp hS hM => ?_)
  · skip
    have hc1a := cntR_le (gainB F G) k
    have hc1b := cntR_le (lostB F G) k
    refine Tri.seq (Tri.region ?_)
    refine TOps.move rfl rfl ?_
    refine TOps.assign rfl rfl ?_
    refine TOps.next ?_
    refine Tri.seq (Tri.region ?_)
    refine TOps.loadN (vs := fc3 F na no cap sa) rfl ti24 r1.up rfl rfl ?_
    refine TOps.move rfl rfl ?_
    refine TOps.call (vs := [_, _]) Try.call9 ⟨rfl, rfl, trivial⟩ (valueOk_g (hF0.le (Le.drop (Le.refl _))) hkF (Fm.setErr_of hgF (x := k) (by rw [hvnF]; exact hlt))) rfl ?_
    rintro _ _ ⟨rfl, rfl⟩
    refine TOps.move rfl rfl ?_
    refine TOps.extract rfl rfl rfl ?_
    refine TOps.extract rfl rfl rfl ?_
    refine TOps.assign rfl rfl ?_
    refine TOps.assign rfl rfl ?_
    refine TOps.next ?_
    refine Tri.seq (Tri.region ?_)
    refine TOps.loadN (vs := fc3 G nb mo cbp sb) rfl ti24 r2.up rfl rfl ?_
    refine TOps.move rfl rfl ?_
    refine TOps.call (vs := [_, _]) Try.call9 ⟨rfl, rfl, trivial⟩ (valueOk_g (hG0.le (Le.drop (Le.refl _))) hkG (Fm.setErr_of hgG (x := k) (by rw [hvnG]; exact hlt))) rfl ?_
    rintro _ _ ⟨rfl, rfl⟩
    refine TOps.move rfl rfl ?_
    refine TOps.extract rfl rfl rfl ?_
    refine TOps.extract rfl rfl rfl ?_
    refine TOps.assign rfl rfl ?_
    refine TOps.assign rfl rfl ?_
    refine TOps.next ?_
    refine Tri.seq ?_
    refine Tri.seq (Tri.region ?_)
    refine TOps.move rfl rfl ?_
    refine TOps.neqNil (T := 73) (o := none) rfl Try.underlying34 rfl ?_
    refine TOps.move rfl rfl ?_
    refine' TOps.orB 2 rfl rfl rfl rfl (fun hg13_2 => ?_) ?_; rotate_left
    · have hg13_2' := hg13_2
      try simp only [decide_eq_true_eq, decide_eq_false_iff_not, Bool.and_eq_true, Bool.or_eq_true, Bool.not_eq_true', Bool.and_eq_false_iff, Bool.or_eq_false_iff, Bool.not_eq_false', Int.not_lt, Int.not_le, ne_eq, Decidable.not_not] at hg13_2'
      refine TOps.strip 2 false rfl rfl hg13_2 rfl ?_
      refine TOps.move rfl rfl ?_
      refine TOps.neqNil (T := 73) (o := none) rfl Try.underlying34 rfl ?_
      refine TOps.blk rfl (by repeat (first | exact Ext.refl _ | refine Ext.cons rfl ?_)) (by repeat (first | exact Le.refl _ | apply Le.drop))
    refine TOps.next ?_
    refine Tri.cond rfl (fun hc3 => ?_) (fun hc3 => ?_)
    · exact absurd hc3 (by first | decide | simp)
    try simp only [decide_eq_true_eq, decide_eq_false_iff_not, Bool.and_eq_true, Bool.or_eq_true, Bool.not_eq_true', Bool.and_eq_false_iff, Bool.or_eq_false_iff, Bool.not_eq_false', Int.not_lt, Int.not_le, ne_eq, Decidable.not_not, Option.isSome_iff_ne_none, Option.isNone_iff_eq_none] at hc3
    refine Tri.fin ?_
    refine Nrm.next ?_
    refine Tri.seqMid (X := Unit) (fun y => [(3, .pointer (some ⟨b3, 0, none⟩)), (4, .pointer (some ⟨b4, 0, none⟩)), (5, .pointer (some ⟨b5, 0, none⟩)), (7, .pointer (some ⟨b7, 0, none⟩)), (9, .bool eq), (10, .int .i64 z), (12, natV (cntR (gainB F G) (k + 1))), (13, natV (cntR (lostB F G) k)), (15, .bool (F.value (k : Nat))), (17, .bool (G.value (k : Nat))), (78, .int .i64 ((2 ^ v : Nat) : Int)), (79, natV k)]) (fun y => row (some b7) 32 5 1 [.bool eq, natV st, natV ct, natV gn, natV ls] :: H3) (fun y => True) ?_ (fun y hmid => ?_)
    · skip
      refine Tri.seq (Tri.region ?_)
      refine TOps.move rfl rfl ?_
      refine TOps.move rfl rfl ?_
      refine' TOps.andB 2 rfl rfl rfl rfl (fun hg15_1 => ?_) ?_; rotate_left
      · have hg15_1' := hg15_1
        try simp only [decide_eq_true_eq, decide_eq_false_iff_not, Bool.and_eq_true, Bool.or_eq_true, Bool.not_eq_true', Bool.and_eq_false_iff, Bool.or_eq_false_iff, Bool.not_eq_false', Int.not_lt, Int.not_le, ne_eq, Decidable.not_not] at hg15_1'
        refine TOps.strip 1 true rfl rfl hg15_1 rfl ?_
        refine TOps.move rfl rfl ?_
        refine TOps.not rfl rfl ?_
        refine TOps.blk rfl (by repeat (first | exact Ext.refl _ | refine Ext.cons rfl ?_)) (by repeat (first | exact Le.refl _ | apply Le.drop))
      refine TOps.next ?_
      refine Tri.cond rfl (fun hc4 => ?_) (fun hc4 => ?_)
      · try simp only [decide_eq_true_eq, decide_eq_false_iff_not, Bool.and_eq_true, Bool.or_eq_true, Bool.not_eq_true', Bool.and_eq_false_iff, Bool.or_eq_false_iff, Bool.not_eq_false', Int.not_lt, Int.not_le, ne_eq, Decidable.not_not, Option.isSome_iff_ne_none, Option.isNone_iff_eq_none] at hc4
        refine Tri.region ?_
        refine TOps.move rfl rfl ?_
        refine TOps.add (r := ((cntR (gainB F G) (k + 1) : Nat) : Int)) rfl rfl (by rw [wrapI (by omega) (by omega), cntR_t (by simp [gainB, hc4])]; rfl) rfl ?_
        refine TOps.assign rfl rfl ?_
        refine TOps.fin ?_
        refine Nrm.mid () trivial (by first | exact ⟨rfl, rfl, rfl, rfl, rfl, rfl, rfl, rfl, rfl, rfl, rfl, rfl, trivial⟩ | exact ⟨rfl, rfl, rfl, rfl, rfl, rfl, (by rw [cntR_f (p := gainB F G) (k := k) (by simp only [gainB]; revert hc4; cases G.value (k : Nat) <;> cases F.value (k : Nat) <;> simp)]; rfl), rfl, rfl, rfl, rfl, rfl, trivial⟩) (by repeat (first | exact Le.refl _ | assumption | apply Le.drop))
      try simp only [decide_eq_true_eq, decide_eq_false_iff_not, Bool.and_eq_true, Bool.or_eq_true, Bool.not_eq_true', Bool.and_eq_false_iff, Bool.or_eq_false_iff, Bool.not_eq_false', Int.not_lt, Int.not_le, ne_eq, Decidable.not_not, Option.isSome_iff_ne_none, Option.isNone_iff_eq_none] at hc4
      refine Tri.fin ?_
      refine Nrm.mid () trivial (by first | exact ⟨rfl, rfl, rfl, rfl, rfl, rfl, rfl, rfl, rfl, rfl, rfl, rfl, trivial⟩ | exact ⟨rfl, rfl, rfl, rfl, rfl, rfl, (by rw [cntR_f (p := gainB F G) (k := k) (by simp only [gainB]; revert hc4; cases G.value (k : Nat) <;> cases F.value (k : Nat) <;> simp)]; rfl), rfl, rfl, rfl, rfl, rfl, trivial⟩) (by repeat (first | exact Le.refl _ | assumption | apply Le.drop))
    refine Tri.seq (Tri.region ?_)
    refine TOps.move rfl rfl ?_
    refine TOps.move rfl rfl ?_
    refine' TOps.andB 2 rfl rfl rfl rfl (fun hg17_1 => ?_) ?_; rotate_left
    · have hg17_1' := hg17_1
      try simp only [decide_eq_true_eq, decide_eq_false_iff_not, Bool.and_eq_true, Bool.or_eq_true, Bool.not_eq_true', Bool.and_eq_false_iff, Bool.or_eq_false_iff, Bool.not_eq_false', Int.not_lt, Int.not_le, ne_eq, Decidable.not_not] at hg17_1'
      refine TOps.strip 1 true rfl rfl hg17_1 rfl ?_
      refine TOps.move rfl rfl ?_
      refine TOps.not rfl rfl ?_
      refine TOps.blk rfl (by repeat (first | exact Ext.refl _ | refine Ext.cons rfl ?_)) (by repeat (first | exact Le.refl _ | apply Le.drop))
    refine TOps.next ?_
    refine Tri.cond rfl (fun hc5 => ?_) (fun hc5 => ?_)
    · try simp only [decide_eq_true_eq, decide_eq_false_iff_not, Bool.and_eq_true, Bool.or_eq_true, Bool.not_eq_true', Bool.and_eq_false_iff, Bool.or_eq_false_iff, Bool.not_eq_false', Int.not_lt, Int.not_le, ne_eq, Decidable.not_not, Option.isSome_iff_ne_none, Option.isNone_iff_eq_none] at hc5
      refine Tri.region ?_
      refine TOps.move rfl rfl ?_
      refine TOps.add (r := ((cntR (lostB F G) (k + 1) : Nat) : Int)) rfl rfl (by rw [wrapI (by omega) (by omega), cntR_t (by simp [lostB, hc5])]; rfl) rfl ?_
      refine TOps.assign rfl rfl ?_
      refine TOps.fin ?_
      refine Nrm.body () trivial (by first | exact ⟨rfl, rfl, rfl, rfl, rfl, rfl, rfl, rfl, rfl, rfl, trivial⟩ | exact ⟨rfl, rfl, rfl, rfl, rfl, rfl, rfl, rfl, rfl, (by rw [cntR_f (p := lostB F G) (k := k) (by simp only [lostB]; revert hc5; cases G.value (k : Nat) <;> cases F.value (k : Nat) <;> simp)]; rfl), trivial⟩) (by repeat (first | exact Le.refl _ | assumption | apply Le.drop))
    try simp only [decide_eq_true_eq, decide_eq_false_iff_not, Bool.and_eq_true, Bool.or_eq_true, Bool.not_eq_true', Bool.and_eq_false_iff, Bool.or_eq_false_iff, Bool.not_eq_false', Int.not_lt, Int.not_le, ne_eq, Decidable.not_not, Option.isSome_iff_ne_none, Option.isNone_iff_eq_none] at hc5
    refine Tri.fin ?_
    refine Nrm.body () trivial (by first | exact ⟨rfl, rfl, rfl, rfl, rfl, rfl, rfl, rfl, rfl, rfl, trivial⟩ | exact ⟨rfl, rfl, rfl, rfl, rfl, rfl, rfl, rfl, rfl, (by rw [cntR_f (p := lostB F G) (k := k) (by simp only [lostB]; revert hc5; cases G.value (k : Nat) <;> cases F.value (k : Nat) <;> simp)]; rfl), trivial⟩) (by repeat (first | exact Le.refl _ | assumption | apply Le.drop))
  have hq1 := cntR_le (gainB F G) (2 ^ v)
  have hq2 := cntR_le (lostB F G) (2 ^ v)
  refine Nrm.of hS hM ?_
  refine Nrm.next ?_
  refine Tri.seq ?_
  refine Tri.seq (Tri.region ?_)
  first | refine TOps.fieldB 3 rfl Try.underlying32 rfl rfl ti3 rfl rfl rfl ?_ | refine TOps.fieldN 3 rfl Try.underlying32 rfl rfl ti3 rfl rfl rfl ?_
  refine TOps.load1 rfl ti3 (by first | exact Rd.lit (by repeat (first | exact List.Mem.head _ | apply List.Mem.tail)) rfl | (repeat (first | assumption | exact Rd.fld (by assumption) 3 rfl | apply Rd.up))) rfl ?_
  refine TOps.move rfl rfl ?_
  refine TOps.neqI rfl rfl rfl ?_
  refine TOps.move rfl rfl ?_
  refine' TOps.orB 4 rfl rfl rfl rfl (fun hg20_4 => ?_) ?_; rotate_left
  · have hg20_4' := hg20_4
    try simp only [decide_eq_true_eq, decide_eq_false_iff_not, Bool.and_eq_true, Bool.or_eq_true, Bool.not_eq_true', Bool.and_eq_false_iff, Bool.or_eq_false_iff, Bool.not_eq_false', Int.not_lt, Int.not_le, ne_eq, Decidable.not_not] at hg20_4'
    refine TOps.strip 4 false rfl rfl hg20_4 rfl ?_
    first | refine TOps.fieldB 4 rfl Try.underlying32 rfl rfl ti3 rfl rfl rfl ?_ | refine TOps.fieldN 4 rfl Try.underlying32 rfl rfl ti3 rfl rfl rfl ?_
    refine TOps.load1 rfl ti3 (by first | exact Rd.lit (by repeat (first | exact List.Mem.head _ | apply List.Mem.tail)) rfl | (repeat (first | assumption | exact Rd.fld (by assumption) 4 rfl | apply Rd.up))) rfl ?_
    refine TOps.move rfl rfl ?_
    refine TOps.neqI rfl rfl rfl ?_
    refine TOps.blk rfl (by repeat (first | exact Ext.refl _ | refine Ext.cons rfl ?_)) (by repeat (first | exact Le.refl _ | apply Le.drop))
  refine TOps.move rfl rfl ?_
  refine' TOps.orB 6 rfl rfl rfl rfl (fun hg20_10 => ?_) ?_; rotate_left
  · have hg20_10' := hg20_10
    try simp only [decide_eq_true_eq, decide_eq_false_iff_not, Bool.and_eq_true, Bool.or_eq_true, Bool.not_eq_true', Bool.and_eq_false_iff, Bool.or_eq_false_iff, Bool.not_eq_false', Int.not_lt, Int.not_le, ne_eq, Decidable.not_not] at hg20_10'
    refine TOps.strip 10 false rfl rfl hg20_10 rfl ?_
    first | refine TOps.fieldB 2 rfl Try.underlying32 rfl rfl ti3 rfl rfl rfl ?_ | refine TOps.fieldN 2 rfl Try.underlying32 rfl rfl ti3 rfl rfl rfl ?_
    refine TOps.load1 rfl ti3 (by first | exact Rd.lit (by repeat (first | exact List.Mem.head _ | apply List.Mem.tail)) rfl | (repeat (first | assumption | exact Rd.fld (by assumption) 2 rfl | apply Rd.up))) rfl ?_
    refine TOps.move rfl rfl ?_
    refine TOps.move rfl rfl ?_
    refine TOps.add rfl rfl (wrapI (by omega) (by omega)) rfl ?_
    refine TOps.neqI rfl rfl rfl ?_
    refine TOps.blk rfl (by repeat (first | exact Ext.refl _ | refine Ext.cons rfl ?_)) (by repeat (first | exact Le.refl _ | apply Le.drop))
  refine TOps.move rfl rfl ?_
  refine' TOps.orB 8 rfl rfl rfl rfl (fun hg20_18 => ?_) ?_; rotate_left
  · have hg20_18' := hg20_18
    try simp only [decide_eq_true_eq, decide_eq_false_iff_not, Bool.and_eq_true, Bool.or_eq_true, Bool.not_eq_true', Bool.and_eq_false_iff, Bool.or_eq_false_iff, Bool.not_eq_false', Int.not_lt, Int.not_le, ne_eq, Decidable.not_not] at hg20_18'
    refine TOps.strip 18 false rfl rfl hg20_18 rfl ?_
    refine TOps.move rfl rfl ?_
    refine TOps.not rfl rfl ?_
    refine TOps.move rfl rfl ?_
    refine' TOps.andB 4 rfl rfl rfl rfl (fun hg20_21 => ?_) ?_; rotate_left
    · have hg20_21' := hg20_21
      try simp only [decide_eq_true_eq, decide_eq_false_iff_not, Bool.and_eq_true, Bool.or_eq_true, Bool.not_eq_true', Bool.and_eq_false_iff, Bool.or_eq_false_iff, Bool.not_eq_false', Int.not_lt, Int.not_le, ne_eq, Decidable.not_not] at hg20_21'
      refine TOps.strip 21 true rfl rfl hg20_21 rfl ?_
      first | refine TOps.fieldB 1 rfl Try.underlying32 rfl rfl ti3 rfl rfl rfl ?_ | refine TOps.fieldN 1 rfl Try.underlying32 rfl rfl ti3 rfl rfl rfl ?_
      refine TOps.load1 rfl ti3 (by first | exact Rd.lit (by repeat (first | exact List.Mem.head _ | apply List.Mem.tail)) rfl | (repeat (first | assumption | exact Rd.fld (by assumption) 1 rfl | apply Rd.up))) rfl ?_
      refine TOps.move rfl rfl ?_
      refine TOps.neqI rfl rfl rfl ?_
      refine TOps.blk rfl (by repeat (first | exact Ext.refl _ | refine Ext.cons rfl ?_)) (by repeat (first | exact Le.refl _ | apply Le.drop))
    refine TOps.blk rfl (by repeat (first | exact Ext.refl _ | refine Ext.cons rfl ?_)) (by repeat (first | exact Le.refl _ | apply Le.drop))
  refine TOps.next ?_
  refine Tri.cond rfl (fun hc6 => ?_) (fun hc6 => ?_)
  · try simp only [decide_eq_true_eq, decide_eq_false_iff_not, Bool.and_eq_true, Bool.or_eq_true, Bool.not_eq_true', Bool.and_eq_false_iff, Bool.or_eq_false_iff, Bool.not_eq_false', Int.not_lt, Int.not_le, ne_eq, Decidable.not_not, Option.isSome_iff_ne_none, Option.isNone_iff_eq_none] at hc6
    exact hc6.elim (fun hx => by omega) (fun hx => absurd (g5 hx.1) hx.2)
  try simp only [decide_eq_true_eq, decide_eq_false_iff_not, Bool.and_eq_true, Bool.or_eq_true, Bool.not_eq_true', Bool.and_eq_false_iff, Bool.or_eq_false_iff, Bool.not_eq_false', Int.not_lt, Int.not_le, ne_eq, Decidable.not_not, Option.isSome_iff_ne_none, Option.isNone_iff_eq_none] at hc6
  refine Tri.fin ?_
  refine Nrm.next ?_
  refine Tri.seq (Tri.region ?_)
  refine TOps.loadN (vs := fc3 F na no cap sa) rfl ti24 r1.up rfl rfl ?_
  refine TOps.loadN (vs := fc3 G nb mo cbp sb) rfl ti24 r2.up rfl rfl ?_
  refine TOps.call (vs := [_, _]) Try.call10 ⟨rfl, rfl, trivial⟩ (cmake_g (hF0.le (Le.drop (Le.refl _))) hkF hgF (hG0.le (Le.drop (Le.refl _))) hkG hgG hvF hvG hv8 hnF hnG) rfl ?_
  rintro _ _ ⟨x, made, rfl, hx, hmd, rfl⟩
  have hme : eq = made := Bool.eq_iff_iff.2 (g6.trans hmd.symm)
  subst hme
  refine TOps.move rfl rfl ?_
  refine TOps.extract rfl rfl rfl ?_
  refine TOps.extract rfl rfl rfl ?_
  refine TOps.extract rfl rfl rfl ?_
  refine TOps.alloc ti27 rfl (fun b19 => ?_)
  refine TOps.storeN rfl rfl ti27 rfl rfl (by repeat (first | exact Upd.here | apply Upd.there)) (by first | decide | (simp; done) | (simp; omega)) ?_
  refine TOps.assign rfl rfl ?_
  refine TOps.assign rfl rfl ?_
  refine TOps.next ?_
  refine Tri.seq ?_
  refine Tri.seq (Tri.region ?_)
  refine TOps.move rfl rfl ?_
  refine TOps.neqNil (T := 73) (o := none) rfl Try.underlying34 rfl ?_
  refine TOps.move rfl rfl ?_
  refine' TOps.andB 3 rfl rfl rfl rfl (fun hg23_2 => ?_) ?_; rotate_left
  · have hg23_2' := hg23_2
    try simp only [decide_eq_true_eq, decide_eq_false_iff_not, Bool.and_eq_true, Bool.or_eq_true, Bool.not_eq_true', Bool.and_eq_false_iff, Bool.or_eq_false_iff, Bool.not_eq_false', Int.not_lt, Int.not_le, ne_eq, Decidable.not_not] at hg23_2'
    refine TOps.strip 2 true rfl rfl hg23_2 rfl ?_
    refine TOps.move rfl rfl ?_
    refine TOps.call (vs := [_]) Try.call11 ⟨rfl, trivial⟩ (large_g none) rfl ?_
    rintro _ _ ⟨rfl, rfl⟩
    refine TOps.not rfl rfl ?_
    refine TOps.blk rfl (by repeat (first | exact Ext.refl _ | refine Ext.cons rfl ?_)) (by repeat (first | exact Le.refl _ | apply Le.drop))
  refine TOps.move rfl rfl ?_
  refine' TOps.orB 7 rfl rfl rfl rfl (fun hg23_7 => ?_) ?_; rotate_left
  · have hg23_7' := hg23_7
    try simp only [decide_eq_true_eq, decide_eq_false_iff_not, Bool.and_eq_true, Bool.or_eq_true, Bool.not_eq_true', Bool.and_eq_false_iff, Bool.or_eq_false_iff, Bool.not_eq_false', Int.not_lt, Int.not_le, ne_eq, Decidable.not_not] at hg23_7'
    refine TOps.strip 7 false rfl rfl hg23_7 rfl ?_
    refine TOps.move rfl rfl ?_
    refine TOps.eqlNil (T := 73) (o := none) rfl Try.underlying34 rfl ?_
    refine TOps.move rfl rfl ?_
    refine' TOps.andB 3 rfl rfl rfl rfl (fun hg23_10 => ?_) ?_; rotate_left
    · have hg23_10' := hg23_10
      try simp only [decide_eq_true_eq, decide_eq_false_iff_not, Bool.and_eq_true, Bool.or_eq_true, Bool.not_eq_true', Bool.and_eq_false_iff, Bool.or_eq_false_iff, Bool.not_eq_false', Int.not_lt, Int.not_le, ne_eq, Decidable.not_not] at hg23_10'
      refine TOps.strip 10 true rfl rfl hg23_10 rfl ?_
      refine TOps.move rfl rfl ?_
      refine TOps.move rfl rfl ?_
      refine TOps.neqB rfl rfl Try.underlying4 rfl ?_
      refine TOps.blk rfl (by repeat (first | exact Ext.refl _ | refine Ext.cons rfl ?_)) (by repeat (first | exact Le.refl _ | apply Le.drop))
    refine TOps.blk rfl (by repeat (first | exact Ext.refl _ | refine Ext.cons rfl ?_)) (by repeat (first | exact Le.refl _ | apply Le.drop))
  refine TOps.next ?_
  refine Tri.cond rfl (fun hc7 => ?_) (fun hc7 => ?_)
  · exact absurd hc7 (by first | decide | simp)
  try simp only [decide_eq_true_eq, decide_eq_false_iff_not, Bool.and_eq_true, Bool.or_eq_true, Bool.not_eq_true', Bool.and_eq_false_iff, Bool.or_eq_false_iff, Bool.not_eq_false', Int.not_lt, Int.not_le, ne_eq, Decidable.not_not, Option.isSome_iff_ne_none, Option.isNone_iff_eq_none] at hc7
  refine Tri.fin ?_
  refine Nrm.next ?_
  refine Tri.seqMid (X := Unit) (fun y => [(3, .pointer (some ⟨b3, 0, none⟩)), (4, .pointer (some ⟨b4, 0, none⟩)), (5, .pointer (some ⟨b5, 0, none⟩)), (9, .bool eq)]) (fun y => H3) (fun y => True) ?_ (fun y hmid => ?_)
  · skip
    refine Tri.seq (Tri.region ?_)
    refine TOps.move rfl rfl ?_
    refine TOps.eqlNil (T := 73) (o := none) rfl Try.underlying34 rfl ?_
    refine TOps.move rfl rfl ?_
    refine' TOps.andB 1 rfl rfl rfl rfl (fun hg25_2 => ?_) ?_; rotate_left
    · have hg25_2' := hg25_2
      try simp only [decide_eq_true_eq, decide_eq_false_iff_not, Bool.and_eq_true, Bool.or_eq_true, Bool.not_eq_true', Bool.and_eq_false_iff, Bool.or_eq_false_iff, Bool.not_eq_false', Int.not_lt, Int.not_le, ne_eq, Decidable.not_not] at hg25_2'
      refine TOps.strip 2 true rfl rfl hg25_2 rfl ?_
      refine TOps.move rfl rfl ?_
      refine TOps.blk rfl (by repeat (first | exact Ext.refl _ | refine Ext.cons rfl ?_)) (by repeat (first | exact Le.refl _ | apply Le.drop))
    refine TOps.next ?_
    refine Tri.cond rfl (fun hc8 => ?_) (fun hc8 => ?_)
    · try simp only [decide_eq_true_eq, decide_eq_false_iff_not, Bool.and_eq_true, Bool.or_eq_true, Bool.not_eq_true', Bool.and_eq_false_iff, Bool.or_eq_false_iff, Bool.not_eq_false', Int.not_lt, Int.not_le, ne_eq, Decidable.not_not, Option.isSome_iff_ne_none, Option.isNone_iff_eq_none] at hc8
      obtain ⟨x1, x2, x3, x4, x5⟩ := hx hc8.2
      have hpv : (2 : Nat) ^ (v + 1) ≤ 2 ^ 9 := Nat.pow_le_pow_right (by decide) (by omega)
      have h29 : (2 : Nat) ^ 9 = 512 := rfl
      refine Tri.seq (Tri.region ?_)
      refine TOps.loadN (vs := fc3 F na no cap sa) rfl ti24 r1.up.up.up rfl rfl ?_
      refine TOps.loadN (vs := fc3 G nb mo cbp sb) rfl ti24 r2.up.up.up rfl rfl ?_
      refine TOps.loadN (vs := x.cells) rfl ti27 (Rd.all (by repeat (first | exact List.Mem.head _ | apply List.Mem.tail))) rfl rfl ?_
      refine TOps.call (vs := [_, _, _]) Try.call12 ⟨rfl, rfl, rfl, trivial⟩ (accepts_g (hF0.le (Le.drop (Le.drop (Le.drop (Le.refl _))))) hkF hgF (hG0.le (Le.drop (Le.drop (Le.drop (Le.refl _))))) hkG hgG hvF hvG hv8 (x5.le (Le.sub (List.Sublist.cons _ (List.Sublist.cons_cons _ (List.nil_sublist _)))))) rfl ?_
      rintro _ _ ⟨ok, e, rfl, ha1, ha2, rfl⟩
      obtain ⟨rfl, rfl⟩ : ok = true ∧ e = none := ha1 (fun B hB => by rw [← tr_inj hB]; exact x3) (by rw [ckT_ok x.B v 0 0 x2 (by simpa using x1) (by omega)])
      refine TOps.move rfl rfl ?_
      refine TOps.extract rfl rfl rfl ?_
      refine TOps.extract rfl rfl rfl ?_
      refine TOps.assign rfl rfl ?_
      refine TOps.assign rfl rfl ?_
      refine TOps.next ?_
      refine Tri.seq (Tri.region ?_)
      refine TOps.move rfl rfl ?_
      refine TOps.neqNil (T := 73) (o := none) rfl Try.underlying34 rfl ?_
      refine TOps.move rfl rfl ?_
      refine' TOps.orB 2 rfl rfl rfl rfl (fun hg27_2 => ?_) ?_; rotate_left
      · have hg27_2' := hg27_2
        try simp only [decide_eq_true_eq, decide_eq_false_iff_not, Bool.and_eq_true, Bool.or_eq_true, Bool.not_eq_true', Bool.and_eq_false_iff, Bool.or_eq_false_iff, Bool.not_eq_false', Int.not_lt, Int.not_le, ne_eq, Decidable.not_not] at hg27_2'
        refine TOps.strip 2 false rfl rfl hg27_2 rfl ?_
        refine TOps.move rfl rfl ?_
        refine TOps.not rfl rfl ?_
        refine TOps.blk rfl (by repeat (first | exact Ext.refl _ | refine Ext.cons rfl ?_)) (by repeat (first | exact Le.refl _ | apply Le.drop))
      refine TOps.next ?_
      refine Tri.cond rfl (fun hc9 => ?_) (fun hc9 => ?_)
      · exact absurd hc9 (by first | decide | simp)
      try simp only [decide_eq_true_eq, decide_eq_false_iff_not, Bool.and_eq_true, Bool.or_eq_true, Bool.not_eq_true', Bool.and_eq_false_iff, Bool.or_eq_false_iff, Bool.not_eq_false', Int.not_lt, Int.not_le, ne_eq, Decidable.not_not, Option.isSome_iff_ne_none, Option.isNone_iff_eq_none] at hc9
      refine Tri.fin ?_
      refine Nrm.mid () trivial (by exact ⟨rfl, rfl, rfl, rfl, trivial⟩) (Le.drop (Le.drop (Le.drop (Le.refl _))))
    try simp only [decide_eq_true_eq, decide_eq_false_iff_not, Bool.and_eq_true, Bool.or_eq_true, Bool.not_eq_true', Bool.and_eq_false_iff, Bool.or_eq_false_iff, Bool.not_eq_false', Int.not_lt, Int.not_le, ne_eq, Decidable.not_not, Option.isSome_iff_ne_none, Option.isNone_iff_eq_none] at hc8
    refine Tri.fin ?_
    refine Nrm.mid () trivial (by exact ⟨rfl, rfl, rfl, rfl, trivial⟩) (Le.drop (Le.drop (Le.drop (Le.refl _))))
  refine Tri.seq (Tri.region ?_)
  refine TOps.loadN (vs := fc3 F na no cap sa) rfl ti24 r1 rfl rfl ?_
  refine TOps.loadN (vs := fc3 G nb mo cbp sb) rfl ti24 r2 rfl rfl ?_
  refine TOps.loadN (vs := [.int .i64 T.v, slV a o T.ks.length cap2 sp, .int .i64 T.r]) rfl ti27 r3 rfl rfl ?_
  refine TOps.call (vs := [_, _, _]) Try.call12 ⟨rfl, rfl, rfl, trivial⟩ (accepts_g hF0 hkF hgF hG0 hkG hgG hvF hvG hv8 hr) rfl ?_
  rintro _ _ ⟨ok2, e2, rfl, hb1, hb2, rfl⟩
  refine TOps.move rfl rfl ?_
  refine TOps.extract rfl rfl rfl ?_
  refine TOps.extract rfl rfl rfl ?_
  refine TOps.assign rfl rfl ?_
  refine TOps.assign rfl rfl ?_
  refine TOps.next ?_
  refine Tri.seq (Tri.region ?_)
  refine TOps.move rfl rfl ?_
  refine TOps.neqNil (T := 73) (o := e2) rfl Try.underlying34 rfl ?_
  refine TOps.move rfl rfl ?_
  refine' TOps.orB 2 rfl rfl rfl rfl (fun hg30_2 => ?_) ?_; rotate_left
  · have hg30_2' := hg30_2
    try simp only [decide_eq_true_eq, decide_eq_false_iff_not, Bool.and_eq_true, Bool.or_eq_true, Bool.not_eq_true', Bool.and_eq_false_iff, Bool.or_eq_false_iff, Bool.not_eq_false', Int.not_lt, Int.not_le, ne_eq, Decidable.not_not] at hg30_2'
    refine TOps.strip 2 false rfl rfl hg30_2 rfl ?_
    refine TOps.move rfl rfl ?_
    refine TOps.not rfl rfl ?_
    refine TOps.blk rfl (by repeat (first | exact Ext.refl _ | refine Ext.cons rfl ?_)) (by repeat (first | exact Le.refl _ | apply Le.drop))
  refine TOps.move rfl rfl ?_
  refine' TOps.orB 1 rfl rfl rfl rfl (fun hg30_6 => ?_) ?_; rotate_left
  · have hg30_6' := hg30_6
    try simp only [decide_eq_true_eq, decide_eq_false_iff_not, Bool.and_eq_true, Bool.or_eq_true, Bool.not_eq_true', Bool.and_eq_false_iff, Bool.or_eq_false_iff, Bool.not_eq_false', Int.not_lt, Int.not_le, ne_eq, Decidable.not_not] at hg30_6'
    refine TOps.strip 6 false rfl rfl hg30_6 rfl ?_
    refine TOps.move rfl rfl ?_
    refine TOps.blk rfl (by repeat (first | exact Ext.refl _ | refine Ext.cons rfl ?_)) (by repeat (first | exact Le.refl _ | apply Le.drop))
  refine TOps.assign rfl rfl ?_
  refine TOps.next ?_
  refine Tri.ret1 (H' := H) Try.results3 (fun _ _ h => h) (.tmp rfl) l4 ⟨?_, rfl⟩
  have hfin : (e2.isSome || !ok2 || eq) = true := by rcases e2 with _ | e; rcases ok2 with _ | _; rfl; obtain ⟨B, -, hB2, hB3⟩ := hb2 rfl rfl; rw [g6.2 (fun y hy => law_accept hgF hgG hvF hvG hB2 hB3 hy)]; rfl; rfl
  rw [hfin]
end Go.Proofs
