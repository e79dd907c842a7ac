import Derived.Test.YtbpjjepiblomaaaB30
import Derived.Test.YtbpjjepiblomaaaC30
import Derived.Test.YtbpjjepiblomaaaGL52
namespace Go.Proofs
open Go.GL
set_option linter.unusedVariables false
set_option linter.unusedSimpArgs false
theorem ex30_rf {H : List Ent} {b11 b9 b7 c1 c2 c3 : Nat} (h11 : row (some b11) 66 3 c1 [.int .i64 3, .int .i64 0, slV (some b7) 0 2 c3, .int .i64 2, .int .i64 0, slV (some b9) 0 2 c2] ∈ H)
    (h9 : row (some b9) 3 1 c2 [.int .i64 2, .int .i64 3] ∈ H) (h7 : row (some b7) 3 1 c3 [.int .i64 0, .int .i64 1] ∈ H) : RF H (.agg (List.toArray [.int .i64 3, slV (some b11) 0 2 c1, .int .i64 4])) ex30 := by
  refine ⟨some b11, 0, c1, none, rfl, RNodes.ofRow (E := 66) (sz := 3) (cap := c1) (qs := [(some b7, 0, c3, none), (some b9, 0, c2, none)]) h11 rfl ?_⟩
  intro i d q hd hq
  rcases i with _ | _ | i
  · simp [ex30] at hd hq; subst hd hq; exact RInts.ofRow (xs := [0, 1]) h7
  · simp [ex30] at hd hq; subst hd hq; exact RInts.ofRow (xs := [2, 3]) h9
  · simp [ex30] at hd
theorem awake30_g {H : List Ent} : Gives Try.prog 10 [] H (R1 (.bool true) H) := by
  have ko := ex30o_good.ok; have ki := ex30i_good.ok; have ke := ex30_good.ok
  refine Gives.enter Try.func10 rfl (by exact Try.ntmps10) rfl ?_
  refine Tri.seq (Tri.region ?_)
  refine TOps.assign rfl rfl ?_
  refine TOps.next ?_
  refine Tri.seq (Tri.region ?_)
  refine TOps.buildSlice (vs := [_, _]) (xs := [_, _]) Try.underlying50 ti3 ⟨rfl, rfl, rfl, rfl, trivial⟩ rfl rfl rfl rfl rfl rfl (by decide) rfl (fun b7 => ?_)
  refine TOps.buildStruct (vs := [(0, _), (2, _)]) (xs := [_, _, _]) [(0, 1), (1, 1), (2, 1)] Try.underlying66 ti66 (fun w => by simp) ⟨rfl, rfl, rfl, rfl, trivial⟩ rfl rfl ?_
  refine TOps.buildSlice (vs := [_, _]) (xs := [_, _]) Try.underlying50 ti3 ⟨rfl, rfl, rfl, rfl, trivial⟩ rfl rfl rfl rfl rfl rfl (by decide) rfl (fun b9 => ?_)
  refine TOps.buildStruct (vs := [(0, _), (2, _)]) (xs := [_, _, _]) [(0, 1), (1, 1), (2, 1)] Try.underlying66 ti66 (fun w => by simp) ⟨rfl, rfl, rfl, rfl, trivial⟩ rfl rfl ?_
  refine TOps.buildSlice (vs := [_, _]) (xs := [_, _, _, _, _, _]) Try.underlying22 ti66 ⟨rfl, rfl, rfl, rfl, trivial⟩ rfl rfl rfl rfl rfl rfl (by decide) rfl (fun b11 => ?_)
  refine TOps.buildStruct (vs := [(0, _), (2, _), (1, _)]) (xs := [_, _, _]) [(0, 1), (1, 1), (2, 1)] Try.underlying24 ti24 (fun w => by simp) ⟨rfl, rfl, rfl, rfl, rfl, rfl, trivial⟩ rfl rfl ?_
  refine TOps.alloc ti24 rfl (fun b1 => ?_)
  refine TOps.storeN rfl rfl ti24 rfl rfl (by repeat (first | exact Upd.here | apply Upd.there)) (by first | decide | (simp; done) | (simp; omega)) ?_
  refine TOps.next ?_
  refine Tri.seq (Tri.region ?_)
  refine TOps.loadN rfl ti24 (by first | exact Rd.all (by repeat (first | exact List.Mem.head _ | apply List.Mem.tail)) | (repeat (first | assumption | apply Rd.up))) rfl rfl ?_
  refine TOps.call (vs := [_, _]) Try.call12 ⟨rfl, rfl, trivial⟩ (cut_g (ex30_rf (b11 := b11) (b9 := b9) (b7 := b7) (by repeat (first | exact List.Mem.head _ | apply List.Mem.tail)) (by repeat (first | exact List.Mem.head _ | apply List.Mem.tail)) (by repeat (first | exact List.Mem.head _ | apply List.Mem.tail))) ke 3 ⟨by decide, by decide⟩) rfl ?_
  rintro _ H1 ⟨x, y, rfl, l1, s1, hX, hY⟩
  have hEx : RF H1 (.agg (List.toArray [.int .i64 3, slV (some b11) 0 2 2, .int .i64 4])) ex30 := RF.le (ex30_rf (b11 := b11) (b9 := b9) (b7 := b7) (by repeat (first | exact List.Mem.head _ | apply List.Mem.tail)) (by repeat (first | exact List.Mem.head _ | apply List.Mem.tail)) (by repeat (first | exact List.Mem.head _ | apply List.Mem.tail))) l1
  have r1 : Rd H1 b1 0 [.int .i64 3, slV (some b11) 0 2 2, .int .i64 4] := Rd.le (Rd.all (by repeat (first | exact List.Mem.head _ | apply List.Mem.tail))) l1
  replace l1 := l1.trans (Le.drop (Le.drop (Le.drop (Le.drop (Le.refl H)))))
  rw [ex30_cut]
  rw [ex30_out] at hX
  rw [ex30_in] at hY
  have hX0 := hX
  have hY0 := hY
  obtain ⟨xa, xo, xc, xs, rfl, hXN⟩ := hX
  obtain ⟨ya, yo, yc, ys, rfl, hYN⟩ := hY
  refine TOps.move rfl rfl ?_
  refine TOps.extract rfl rfl rfl ?_
  refine TOps.extract rfl rfl rfl ?_
  refine TOps.extract rfl rfl rfl ?_
  refine TOps.alloc ti24 rfl (fun b2 => ?_)
  refine TOps.alloc ti24 rfl (fun b3 => ?_)
  refine TOps.storeN rfl rfl ti24 rfl rfl (by repeat (first | exact Upd.here | apply Upd.there)) (by first | decide | (simp; done) | (simp; omega)) ?_
  refine TOps.storeN rfl rfl ti24 rfl rfl (by repeat (first | exact Upd.here | apply Upd.there)) (by first | decide | (simp; done) | (simp; omega)) ?_
  refine TOps.hide (fun H2 l2 s2 r3 => ?_)
  replace r3 : Rd H2 b3 0 [.int .i64 3, slV ya yo 1 yc ys, .int .i64 3] := r3
  have r2 : Rd H2 b2 0 [.int .i64 4, slV xa xo 1 xc xs, .int .i64 4] := Rd.le (Rd.all (by repeat (first | exact List.Mem.head _ | apply List.Mem.tail))) l2
  replace l2 := l2.trans (Le.drop (Le.refl H1))
  replace hX0 := hX0.le l2; replace hY0 := hY0.le l2; replace hEx := hEx.le l2; replace r1 := r1.le l2; replace l1 := l2.trans l1; replace hXN := hXN.le l2
  refine TOps.assign rfl rfl ?_
  refine TOps.next ?_
  refine Tri.seq (Tri.region ?_)
  refine TOps.loadN rfl ti24 (by first | exact Rd.all (by repeat (first | exact List.Mem.head _ | apply List.Mem.tail)) | (repeat (first | assumption | apply Rd.up))) rfl rfl ?_
  refine TOps.loadN rfl ti24 (by first | exact Rd.all (by repeat (first | exact List.Mem.head _ | apply List.Mem.tail)) | (repeat (first | assumption | apply Rd.up))) rfl rfl ?_
  refine TOps.call (vs := [_, _]) Try.call18 ⟨rfl, rfl, trivial⟩ (put_g hX0 hY0 ko ki) rfl ?_
  rintro _ H4 ⟨pv, rfl, l4, s4, hP⟩
  rw [ex30_pe]
  rw [ex30_put] at hP
  have hP0 := hP
  obtain ⟨pa, po, pc, ps, rfl, hPN⟩ := hP
  replace hEx := hEx.le l4; replace r1 := r1.le l4; replace r2 := r2.le l4; replace r3 := r3.le l4; replace hXN := hXN.le l4
  refine TOps.move rfl rfl ?_
  refine TOps.extract rfl rfl rfl ?_
  refine TOps.extract rfl rfl rfl ?_
  refine TOps.alloc ti24 rfl (fun b5 => ?_)
  refine TOps.storeN rfl rfl ti24 rfl rfl (by repeat (first | exact Upd.here | apply Upd.there)) (by first | decide | (simp; done) | (simp; omega)) ?_
  refine TOps.hide (fun H5 l5 s5 r5 => ?_)
  replace r5 : Rd H5 b5 0 [.int .i64 3, slV pa po 2 pc ps, .int .i64 4] := r5
  replace hP0 := hP0.le l5; replace hEx := hEx.le l5; replace r1 := r1.le l5; replace r2 := r2.le l5; replace r3 := r3.le l5; replace hXN := hXN.le l5
  have hL : Le H5 H := l5.trans (l4.trans l1)
  obtain ⟨nb, aa, ao, acap, asp, rfl, rfl, hn⟩ := hXN.at (i := 0) (by decide)
  have hcells := hn.cells
  refine TOps.assign rfl rfl ?_
  refine TOps.next ?_
  refine Tri.seq (Tri.region ?_)
  refine TOps.move rfl rfl ?_
  refine TOps.eqlNil (T := 45) (o := none) rfl Try.underlying28 rfl ?_
  refine TOps.move rfl rfl ?_
  refine' TOps.andB 2 rfl rfl rfl rfl (fun hg4_2 => ?_) ?_; rotate_left
  · have hg4_2' := hg4_2
    try simp only [decide_eq_true_eq, decide_eq_false_iff_not, Bool.and_eq_true, Bool.or_eq_true, Bool.not_eq_true', Bool.and_eq_false_iff, Bool.or_eq_false_iff, Bool.not_eq_false', Int.not_lt, Int.not_le, ne_eq, Decidable.not_not] at hg4_2'
    refine TOps.strip 2 true rfl rfl hg4_2 rfl ?_
    refine TOps.move rfl rfl ?_
    refine TOps.eqlNil (T := 45) (o := none) rfl Try.underlying28 rfl ?_
    refine TOps.blk rfl (by repeat (first | exact Ext.refl _ | refine Ext.cons rfl ?_)) (by repeat (first | exact Le.refl _ | apply Le.drop))
  refine TOps.move rfl rfl ?_
  refine' TOps.andB 3 rfl rfl rfl rfl (fun hg4_6 => ?_) ?_; rotate_left
  · have hg4_6' := hg4_6
    try simp only [decide_eq_true_eq, decide_eq_false_iff_not, Bool.and_eq_true, Bool.or_eq_true, Bool.not_eq_true', Bool.and_eq_false_iff, Bool.or_eq_false_iff, Bool.not_eq_false', Int.not_lt, Int.not_le, ne_eq, Decidable.not_not] at hg4_6'
    refine TOps.strip 6 true rfl rfl hg4_6 rfl ?_
    refine TOps.field0 rfl Try.underlying24 rfl rfl ti3 rfl rfl rfl ?_
    refine TOps.load1 rfl ti3 (by first | exact Rd.lit (by repeat (first | exact List.Mem.head _ | apply List.Mem.tail)) rfl | (repeat (first | assumption | exact Rd.fld (by assumption) 0 rfl | apply Rd.up))) rfl ?_
    refine TOps.eqlI rfl rfl rfl ?_
    refine TOps.blk rfl (by repeat (first | exact Ext.refl _ | refine Ext.cons rfl ?_)) (by repeat (first | exact Le.refl _ | apply Le.drop))
  refine TOps.move rfl rfl ?_
  refine' TOps.andB 4 rfl rfl rfl rfl (fun hg4_11 => ?_) ?_; rotate_left
  · have hg4_11' := hg4_11
    try simp only [decide_eq_true_eq, decide_eq_false_iff_not, Bool.and_eq_true, Bool.or_eq_true, Bool.not_eq_true', Bool.and_eq_false_iff, Bool.or_eq_false_iff, Bool.not_eq_false', Int.not_lt, Int.not_le, ne_eq, Decidable.not_not] at hg4_11'
    refine TOps.strip 11 true rfl rfl hg4_11 rfl ?_
    first | refine TOps.fieldB 1 rfl Try.underlying24 rfl rfl ti22 rfl rfl rfl ?_ | refine TOps.fieldN 1 rfl Try.underlying24 rfl rfl ti22 rfl rfl rfl ?_
    refine TOps.load1 rfl ti22 (by first | exact Rd.lit (by repeat (first | exact List.Mem.head _ | apply List.Mem.tail)) rfl | (repeat (first | assumption | exact Rd.fld (by assumption) 1 rfl | apply Rd.up))) rfl ?_
    refine TOps.len rfl Try.underlying22 rfl ?_
    refine TOps.eqlI rfl rfl rfl ?_
    refine TOps.blk rfl (by repeat (first | exact Ext.refl _ | refine Ext.cons rfl ?_)) (by repeat (first | exact Le.refl _ | apply Le.drop))
  refine TOps.move rfl rfl ?_
  refine' TOps.andB 7 rfl rfl rfl rfl (fun hg4_17 => ?_) ?_; rotate_left
  · have hg4_17' := hg4_17
    try simp only [decide_eq_true_eq, decide_eq_false_iff_not, Bool.and_eq_true, Bool.or_eq_true, Bool.not_eq_true', Bool.and_eq_false_iff, Bool.or_eq_false_iff, Bool.not_eq_false', Int.not_lt, Int.not_le, ne_eq, Decidable.not_not] at hg4_17'
    refine TOps.strip 17 true rfl rfl hg4_17 rfl ?_
    first | refine TOps.fieldB 1 rfl Try.underlying24 rfl rfl ti22 rfl rfl rfl ?_ | refine TOps.fieldN 1 rfl Try.underlying24 rfl rfl ti22 rfl rfl rfl ?_
    refine TOps.load1 rfl ti22 (by first | exact Rd.lit (by repeat (first | exact List.Mem.head _ | apply List.Mem.tail)) rfl | (repeat (first | assumption | exact Rd.fld (by assumption) 1 rfl | apply Rd.up))) rfl ?_
    refine TOps.indexAddr (off' := xo + 0 * 3) rfl rfl Try.underlying22 ti66 (by omega) (by omega) (by simp) rfl ?_
    refine TOps.fieldN 2 rfl Try.underlying66 rfl rfl ti50 rfl rfl rfl ?_
    refine TOps.load1 rfl ti50 (hcells.part 2 rfl) rfl ?_
    refine TOps.buildSlice (vs := [_, _]) (xs := [_, _]) Try.underlying50 ti3 ⟨rfl, rfl, rfl, rfl, trivial⟩ rfl rfl rfl rfl rfl rfl (by decide) rfl (fun b48 => ?_)
    refine TOps.call (vs := [_, _]) Try.call33 ⟨rfl, rfl, trivial⟩ (ints_g (xs := [2, 3]) (ys := [2, 3]) (RdS.le hn.args (Le.drop (Le.refl _))) (RInts.ofRow (List.Mem.head _)) (by decide) (by decide)) rfl ?_
    rintro _ _ ⟨rfl, rfl⟩
    refine TOps.blk rfl (by repeat (first | exact Ext.refl _ | refine Ext.cons rfl ?_)) (by repeat (first | exact Le.refl _ | apply Le.drop))
  refine TOps.move rfl rfl ?_
  refine' TOps.andB 3 rfl rfl rfl rfl (fun hg4_26 => ?_) ?_; rotate_left
  · have hg4_26' := hg4_26
    try simp only [decide_eq_true_eq, decide_eq_false_iff_not, Bool.and_eq_true, Bool.or_eq_true, Bool.not_eq_true', Bool.and_eq_false_iff, Bool.or_eq_false_iff, Bool.not_eq_false', Int.not_lt, Int.not_le, ne_eq, Decidable.not_not] at hg4_26'
    refine TOps.strip 26 true rfl rfl hg4_26 rfl ?_
    first | refine TOps.fieldB 2 rfl Try.underlying24 rfl rfl ti3 rfl rfl rfl ?_ | refine TOps.fieldN 2 rfl Try.underlying24 rfl rfl ti3 rfl rfl rfl ?_
    refine TOps.load1 rfl ti3 (by first | exact Rd.lit (by repeat (first | exact List.Mem.head _ | apply List.Mem.tail)) rfl | (repeat (first | assumption | exact Rd.fld (by assumption) 2 rfl | apply Rd.up))) rfl ?_
    refine TOps.eqlI rfl rfl rfl ?_
    refine TOps.blk rfl (by repeat (first | exact Ext.refl _ | refine Ext.cons rfl ?_)) (by repeat (first | exact Le.refl _ | apply Le.drop))
  refine TOps.move rfl rfl ?_
  refine' TOps.andB 3 rfl rfl rfl rfl (fun hg4_31 => ?_) ?_; rotate_left
  · have hg4_31' := hg4_31
    try simp only [decide_eq_true_eq, decide_eq_false_iff_not, Bool.and_eq_true, Bool.or_eq_true, Bool.not_eq_true', Bool.and_eq_false_iff, Bool.or_eq_false_iff, Bool.not_eq_false', Int.not_lt, Int.not_le, ne_eq, Decidable.not_not] at hg4_31'
    refine TOps.strip 31 true rfl rfl hg4_31 rfl ?_
    refine TOps.loadN rfl ti24 (by first | exact Rd.all (by repeat (first | exact List.Mem.head _ | apply List.Mem.tail)) | (repeat (first | assumption | apply Rd.up))) rfl rfl ?_
    refine TOps.loadN rfl ti24 (by first | exact Rd.all (by repeat (first | exact List.Mem.head _ | apply List.Mem.tail)) | (repeat (first | assumption | apply Rd.up))) rfl rfl ?_
    refine TOps.call (vs := [_, _]) Try.call15 ⟨rfl, rfl, trivial⟩ (formulaEq_g hEx hP0 ke.2.2.2 (fun d hd => (ke.2.2.1 d hd).2.2.2) (fun d hd => (ke.2.2.1 d hd).2.2.2)) rfl ?_
    rintro _ _ ⟨rfl, rfl⟩
    refine TOps.blk rfl (by repeat (first | exact Ext.refl _ | refine Ext.cons rfl ?_)) (by repeat (first | exact Le.refl _ | apply Le.drop))
  refine TOps.assign rfl rfl ?_
  refine TOps.next ?_
  refine Tri.ret1 (H' := H) Try.results10 (fun _ _ h => h) (.tmp rfl) hL ⟨by simp, rfl⟩
theorem replaceWrong_g {H : List Ent} (t : Bool) (arg : Int) (ha : I64 arg) : Gives Try.prog 5 [.bool t, .int .i64 arg] H (R1 (.bool true) H) := by
  have kt := (exF29_good t).ok
  refine Gives.enter Try.func5 rfl (by exact Try.ntmps5) rfl ?_
  refine Tri.seq (Tri.region ?_)
  refine TOps.assign rfl rfl ?_
  refine TOps.next ?_
  refine Tri.seq ?_
  refine Tri.seq (Tri.region ?_)
  refine TOps.call (vs := []) Try.call10 trivial (awake30_g) rfl ?_
  rintro _ _ ⟨rfl, rfl⟩
  refine TOps.not rfl rfl ?_
  refine TOps.next ?_
  refine Tri.cond rfl (fun hc1 => ?_) (fun hc1 => ?_)
  · exact absurd hc1 (by first | decide | simp)
  try simp only [decide_eq_true_eq, decide_eq_false_iff_not, Bool.and_eq_true, Bool.or_eq_true, Bool.not_eq_true', Bool.and_eq_false_iff, Bool.or_eq_false_iff, Bool.not_eq_false', Int.not_lt, Int.not_le, ne_eq, Decidable.not_not, Option.isSome_iff_ne_none, Option.isNone_iff_eq_none] at hc1
  refine Tri.fin ?_
  refine Nrm.next ?_
  refine Tri.seq (Tri.region ?_)
  refine TOps.move rfl rfl ?_
  refine TOps.call (vs := [_]) Try.call20 ⟨rfl, trivial⟩ (example29_g t) rfl ?_
  rintro ev H1 ⟨l1, s1, hF1⟩
  have hF0 := hF1
  obtain ⟨ea, eo, ec, es, rfl, hEN⟩ := hF1
  refine TOps.alloc ti24 rfl (fun b5 => ?_)
  refine TOps.storeN rfl rfl ti24 rfl rfl (by repeat (first | exact Upd.here | apply Upd.there)) (by first | decide | (simp; done) | (simp; omega)) ?_
  refine TOps.hide (fun H2 l2 s2 r2 => ?_)
  replace r2 : Rd H2 b5 0 [.int .i64 (exF29 t).vars, slV ea eo (exF29 t).nodes.length ec es, .int .i64 (exF29 t).top] := r2
  replace hF0 := hF0.le l2
  refine TOps.next ?_
  refine Tri.seq (Tri.region ?_)
  refine TOps.loadN rfl ti24 (by first | exact Rd.all (by repeat (first | exact List.Mem.head _ | apply List.Mem.tail)) | (repeat (first | assumption | apply Rd.up))) rfl rfl ?_
  refine TOps.move rfl rfl ?_
  refine TOps.call (vs := [_, _]) Try.call12 ⟨rfl, rfl, trivial⟩ (cut_g hF0 kt arg ha) rfl ?_
  rintro _ H3 ⟨x, y, rfl, l3, s3, hX, hY⟩
  obtain ⟨xa, xo, xc, xs, rfl, hXN⟩ := hX
  obtain ⟨ya, yo, yc, ys, rfl, hYN⟩ := hY
  have hL : Le H3 H := l3.trans (l2.trans l1)
  generalize (exF29 t).outF arg = FX at *
  generalize (exF29 t).inF arg = FY at *
  refine TOps.move rfl rfl ?_
  refine TOps.extract rfl rfl rfl ?_
  refine TOps.extract rfl rfl rfl ?_
  refine TOps.extract rfl rfl rfl ?_
  refine TOps.alloc ti24 rfl (fun b6 => ?_)
  refine TOps.alloc ti24 rfl (fun b7 => ?_)
  refine TOps.storeN rfl rfl ti24 rfl rfl (by repeat (first | exact Upd.here | apply Upd.there)) (by first | decide | (simp; done) | (simp; omega)) ?_
  refine TOps.storeN rfl rfl ti24 rfl rfl (by repeat (first | exact Upd.here | apply Upd.there)) (by first | decide | (simp; done) | (simp; omega)) ?_
  refine TOps.assign rfl rfl ?_
  refine TOps.next ?_
  refine Tri.seq ?_
  refine Tri.block ?_
  refine Tri.seq (Tri.region ?_)
  refine TOps.move rfl rfl ?_
  refine TOps.lss rfl rfl rfl ?_
  refine TOps.move rfl rfl ?_
  refine' TOps.orB 2 rfl rfl rfl rfl (fun hg5_2 => ?_) ?_; rotate_left
  · have hg5_2' := hg5_2
    try simp only [decide_eq_true_eq, decide_eq_false_iff_not, Bool.and_eq_true, Bool.or_eq_true, Bool.not_eq_true', Bool.and_eq_false_iff, Bool.or_eq_false_iff, Bool.not_eq_false', Int.not_lt, Int.not_le, ne_eq, Decidable.not_not] at hg5_2'
    refine TOps.strip 2 false rfl rfl hg5_2 rfl ?_
    refine TOps.move rfl rfl ?_
    refine TOps.gtr rfl rfl rfl ?_
    refine TOps.blk rfl (by repeat (first | exact Ext.refl _ | refine Ext.cons rfl ?_)) (by repeat (first | exact Le.refl _ | apply Le.drop))
  refine TOps.assign rfl rfl ?_
  refine TOps.next ?_
  refine Tri.cond rfl (fun hc2 => ?_) (fun hc2 => ?_)
  · try simp only [decide_eq_true_eq, decide_eq_false_iff_not, Bool.and_eq_true, Bool.or_eq_true, Bool.not_eq_true', Bool.and_eq_false_iff, Bool.or_eq_false_iff, Bool.not_eq_false', Int.not_lt, Int.not_le, ne_eq, Decidable.not_not, Option.isSome_iff_ne_none, Option.isNone_iff_eq_none] at hc2
    refine Tri.seq (Tri.region ?_)
    refine TOps.move rfl rfl ?_
    refine TOps.call (vs := [_, _]) Try.call21 ⟨rfl, rfl, trivial⟩ (is_g ((exF29 t).cutErr arg) 10) rfl ?_
    rintro _ _ ⟨rfl, rfl⟩
    refine TOps.assign rfl rfl ?_
    refine TOps.next ?_
    refine Tri.ret1 (H' := H) Try.results5 (fun _ _ h => h) (.tmp rfl) (Le.drop (Le.drop hL)) ⟨by rw [wrong10 t hc2]; rfl, rfl⟩
  try simp only [decide_eq_true_eq, decide_eq_false_iff_not, Bool.and_eq_true, Bool.or_eq_true, Bool.not_eq_true', Bool.and_eq_false_iff, Bool.or_eq_false_iff, Bool.not_eq_false', Int.not_lt, Int.not_le, ne_eq, Decidable.not_not, Option.isSome_iff_ne_none, Option.isNone_iff_eq_none] at hc2
  refine Tri.seq (Tri.region ?_)
  refine TOps.move rfl rfl ?_
  refine TOps.move rfl rfl ?_
  refine' TOps.andB 2 rfl rfl rfl rfl (fun hg7_1 => ?_) ?_; rotate_left
  · have hg7_1' := hg7_1
    try simp only [decide_eq_true_eq, decide_eq_false_iff_not, Bool.and_eq_true, Bool.or_eq_true, Bool.not_eq_true', Bool.and_eq_false_iff, Bool.or_eq_false_iff, Bool.not_eq_false', Int.not_lt, Int.not_le, ne_eq, Decidable.not_not] at hg7_1'
    refine TOps.strip 1 true rfl rfl hg7_1 rfl ?_
    refine TOps.move rfl rfl ?_
    refine TOps.eqlI rfl rfl rfl ?_
    refine TOps.blk rfl (by repeat (first | exact Ext.refl _ | refine Ext.cons rfl ?_)) (by repeat (first | exact Le.refl _ | apply Le.drop))
  refine TOps.assign rfl rfl ?_
  refine TOps.next ?_
  refine Tri.cond rfl (fun hc3 => ?_) (fun hc3 => ?_)
  · try simp only [decide_eq_true_eq, decide_eq_false_iff_not, Bool.and_eq_true, Bool.or_eq_true, Bool.not_eq_true', Bool.and_eq_false_iff, Bool.or_eq_false_iff, Bool.not_eq_false', Int.not_lt, Int.not_le, ne_eq, Decidable.not_not, Option.isSome_iff_ne_none, Option.isNone_iff_eq_none] at hc3
    refine Tri.seq (Tri.region ?_)
    refine TOps.move rfl rfl ?_
    refine TOps.eqlNil (T := 45) (o := (exF29 t).cutErr arg) rfl Try.underlying28 rfl ?_
    refine TOps.assign rfl rfl ?_
    refine TOps.next ?_
    refine Tri.ret1 (H' := H) Try.results5 (fun _ _ h => h) (.tmp rfl) (Le.drop (Le.drop hL)) ⟨by obtain ⟨rfl, rfl⟩ := hc3; rw [wrongNil]; rfl, rfl⟩
  try simp only [decide_eq_true_eq, decide_eq_false_iff_not, Bool.and_eq_true, Bool.or_eq_true, Bool.not_eq_true', Bool.and_eq_false_iff, Bool.or_eq_false_iff, Bool.not_eq_false', Int.not_lt, Int.not_le, ne_eq, Decidable.not_not, Option.isSome_iff_ne_none, Option.isNone_iff_eq_none] at hc3
  refine Tri.fin ?_
  refine Nrm.unB ?_
  refine Nrm.next ?_
  refine Tri.seq (Tri.region ?_)
  refine TOps.move rfl rfl ?_
  refine TOps.call (vs := [_, _]) Try.call21 ⟨rfl, rfl, trivial⟩ (is_g ((exF29 t).cutErr arg) 7) rfl ?_
  rintro _ _ ⟨rfl, rfl⟩
  refine TOps.assign rfl rfl ?_
  refine TOps.next ?_
  refine Tri.ret1 (H' := H) Try.results5 (fun _ _ h => h) (.tmp rfl) (Le.drop (Le.drop hL)) ⟨by rw [wrong7 t (by omega) (by omega) (by rintro ⟨rfl, rfl⟩; simp at hc3)]; rfl, rfl⟩
end Go.Proofs
