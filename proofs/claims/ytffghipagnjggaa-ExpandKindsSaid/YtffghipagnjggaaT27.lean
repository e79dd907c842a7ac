import Derived.Test.YtffghipagnjggaaS27
namespace Go.Proofs
open Go.GL
set_option linter.unusedVariables false
set_option linter.unusedSimpArgs false
set_option maxHeartbeats 2000000 in
theorem expandKinds_g {H : List Ent} {fv : Value} {F : Fm} (hF : RF H fv F) (hk : F.ok) :
    Gives Try.prog 5 [fv] H (R1 (.bool true) H) := by
  have hF0 := hF
  have o0 := expF_ok F 0; have o1 := expF_ok F 1; have o2 := expF_ok F 2; have op := plainF_ok F
  obtain ⟨na, off, cap, nsp, rfl, hN⟩ := hF
  refine Gives.enter Try.func5 rfl (by exact Try.ntmps5) rfl ?_
  refine Tri.seq (Tri.region ?_)
  refine TOps.boxN rfl ti24 rfl rfl (fun b1 => ?_)
  refine TOps.hide (fun H1 l1 s1 r1 => ?_)
  replace hF0 := hF0.le l1
  refine TOps.assign rfl rfl ?_
  refine TOps.next ?_
  refine Tri.seq ?_
  refine Tri.seq (Tri.region ?_)
  refine TOps.call (vs := []) Try.call10 trivial (awake27_g) rfl ?_
  rintro _ _ ⟨rfl, rfl⟩
  refine TOps.not rfl rfl ?_
  refine TOps.move rfl rfl ?_
  refine' TOps.orB 2 rfl rfl rfl rfl (fun hg1_2 => ?_) ?_; rotate_left
  · have hg1_2' := hg1_2
    try simp only [decide_eq_true_eq, decide_eq_false_iff_not, Bool.and_eq_true, Bool.or_eq_true, Bool.not_eq_true', Bool.and_eq_false_iff, Bool.or_eq_false_iff, Bool.not_eq_false', Int.not_lt, Int.not_le, ne_eq, Decidable.not_not] at hg1_2'
    refine TOps.strip 2 false rfl rfl hg1_2 rfl ?_
    refine TOps.loadN rfl ti24 (by first | exact Rd.all (by repeat (first | exact List.Mem.head _ | apply List.Mem.tail)) | (repeat (first | assumption | apply Rd.up))) rfl rfl ?_
    refine TOps.call (vs := [_]) Try.call11 ⟨rfl, trivial⟩ (heavy27_g hF0 hk) rfl ?_
    rintro _ _ ⟨rfl, rfl⟩
    refine TOps.blk rfl (by repeat (first | exact Ext.refl _ | refine Ext.cons rfl ?_)) (by repeat (first | exact Le.refl _ | apply Le.drop))
  refine TOps.move rfl rfl ?_
  refine' TOps.orB 3 rfl rfl rfl rfl (fun hg1_6 => ?_) ?_; rotate_left
  · have hg1_6' := hg1_6
    try simp only [decide_eq_true_eq, decide_eq_false_iff_not, Bool.and_eq_true, Bool.or_eq_true, Bool.not_eq_true', Bool.and_eq_false_iff, Bool.or_eq_false_iff, Bool.not_eq_false', Int.not_lt, Int.not_le, ne_eq, Decidable.not_not] at hg1_6'
    refine TOps.strip 6 false rfl rfl hg1_6 rfl ?_
    refine TOps.loadN rfl ti24 (by first | exact Rd.all (by repeat (first | exact List.Mem.head _ | apply List.Mem.tail)) | (repeat (first | assumption | apply Rd.up))) rfl rfl ?_
    refine TOps.call (vs := [_]) Try.call21 ⟨rfl, trivial⟩ (check_g hF0 hk) rfl ?_
    rintro _ _ ⟨rfl, rfl⟩
    refine TOps.neqNil rfl Try.underlying28 rfl ?_
    refine TOps.blk rfl (by repeat (first | exact Ext.refl _ | refine Ext.cons rfl ?_)) (by repeat (first | exact Le.refl _ | apply Le.drop))
  refine TOps.next ?_
  refine Tri.cond rfl (fun hc1 => ?_) (fun hc1 => ?_)
  · try simp only [decide_eq_true_eq, decide_eq_false_iff_not, Bool.and_eq_true, Bool.or_eq_true, Bool.not_eq_true', Bool.and_eq_false_iff, Bool.or_eq_false_iff, Bool.not_eq_false', Int.not_lt, Int.not_le, ne_eq, Decidable.not_not, Option.isSome_iff_ne_none, Option.isNone_iff_eq_none] at hc1
    refine Tri.seq (Tri.region ?_)
    refine TOps.call (vs := []) Try.call10 trivial (awake27_g) rfl ?_
    rintro _ _ ⟨rfl, rfl⟩
    refine TOps.assign rfl rfl ?_
    refine TOps.next ?_
    refine Tri.ret1 (H' := H) Try.results5 (fun _ _ h => h) (.tmp rfl) l1 ⟨rfl, rfl⟩
  try simp only [decide_eq_true_eq, decide_eq_false_iff_not, Bool.and_eq_true, Bool.or_eq_true, Bool.not_eq_true', Bool.and_eq_false_iff, Bool.or_eq_false_iff, Bool.not_eq_false', Int.not_lt, Int.not_le, ne_eq, Decidable.not_not, Option.isSome_iff_ne_none, Option.isNone_iff_eq_none] at hc1
  have he : F.err = none := by simpa using hc1.2
  have hg := (Fm.good_iff F).1 he
  refine Tri.fin ?_
  refine Nrm.next ?_
  refine Tri.seq (Tri.region ?_)
  refine TOps.loadN rfl ti24 (by first | exact Rd.all (by repeat (first | exact List.Mem.head _ | apply List.Mem.tail)) | (repeat (first | assumption | apply Rd.up))) rfl rfl ?_
  refine TOps.call (vs := [_]) Try.call12 ⟨rfl, trivial⟩ (votes_g hF0 hk) rfl ?_
  rintro _ _ ⟨a0, c0, N0, rfl, hN0, rfl⟩
  refine TOps.move rfl rfl ?_
  refine TOps.extract rfl rfl rfl ?_
  refine TOps.extract rfl rfl rfl ?_
  refine TOps.alloc ti24 rfl (fun b3 => ?_)
  refine TOps.storeN rfl rfl ti24 rfl rfl (by repeat (first | exact Upd.here | apply Upd.there)) (by first | decide | (simp; done) | (simp; omega)) ?_
  refine TOps.assign rfl rfl ?_
  refine TOps.hide (fun H2 l2 s2 r3 => ?_)
  replace r3 : Rd H2 b3 0 [.int .i64 (F.expF 0).vars, slV a0 0 (F.expF 0).nodes.length c0, .int .i64 (F.expF 0).top] := r3
  have l3 := l2.trans (Le.sub (List.sublist_append_right N0 H1))
  have hA : RF H2 (.agg (List.toArray [.int .i64 (F.expF 0).vars, slV a0 0 (F.expF 0).nodes.length c0, .int .i64 (F.expF 0).top])) (F.expF 0) := ⟨a0, 0, c0, none, rfl, hN0.le (l2.trans (Le.sub (List.sublist_append_left _ _)))⟩
  replace hF0 := hF0.le l3; replace r1 := r1.le l3
  have m2 := l3.trans l1
  refine TOps.next ?_
  refine Tri.seq (Tri.region ?_)
  refine TOps.loadN rfl ti24 (by first | exact Rd.all (by repeat (first | exact List.Mem.head _ | apply List.Mem.tail)) | (repeat (first | assumption | apply Rd.up))) rfl rfl ?_
  refine TOps.call (vs := [_]) Try.call17 ⟨rfl, trivial⟩ (xors_g hF0 hk) rfl ?_
  rintro _ _ ⟨a1, c1, N1, rfl, hN1, rfl⟩
  refine TOps.move rfl rfl ?_
  refine TOps.extract rfl rfl rfl ?_
  refine TOps.extract rfl rfl rfl ?_
  refine TOps.alloc ti24 rfl (fun b5 => ?_)
  refine TOps.storeN rfl rfl ti24 rfl rfl (by repeat (first | exact Upd.here | apply Upd.there)) (by first | decide | (simp; done) | (simp; omega)) ?_
  refine TOps.assign rfl rfl ?_
  refine TOps.hide (fun H3 l4 s4 r5 => ?_)
  replace r5 : Rd H3 b5 0 [.int .i64 (F.expF 1).vars, slV a1 0 (F.expF 1).nodes.length c1, .int .i64 (F.expF 1).top] := r5
  have l5 := l4.trans (Le.sub (List.sublist_append_right N1 H2))
  have hB : RF H3 (.agg (List.toArray [.int .i64 (F.expF 1).vars, slV a1 0 (F.expF 1).nodes.length c1, .int .i64 (F.expF 1).top])) (F.expF 1) := ⟨a1, 0, c1, none, rfl, hN1.le (l4.trans (Le.sub (List.sublist_append_left _ _)))⟩
  replace hF0 := hF0.le l5; replace r1 := r1.le l5; replace r3 := r3.le l5; replace hA := hA.le l5
  have m3 := l5.trans m2
  refine TOps.next ?_
  refine Tri.seq (Tri.region ?_)
  refine TOps.loadN rfl ti24 (by first | exact Rd.all (by repeat (first | exact List.Mem.head _ | apply List.Mem.tail)) | (repeat (first | assumption | apply Rd.up))) rfl rfl ?_
  refine TOps.call (vs := [_]) Try.call22 ⟨rfl, trivial⟩ (binary_g hF0 hk) rfl ?_
  rintro _ _ ⟨a2, c2, N2, rfl, hN2, rfl⟩
  refine TOps.move rfl rfl ?_
  refine TOps.extract rfl rfl rfl ?_
  refine TOps.extract rfl rfl rfl ?_
  refine TOps.alloc ti24 rfl (fun b7 => ?_)
  refine TOps.storeN rfl rfl ti24 rfl rfl (by repeat (first | exact Upd.here | apply Upd.there)) (by first | decide | (simp; done) | (simp; omega)) ?_
  refine TOps.assign rfl rfl ?_
  refine TOps.hide (fun H4 l6 s6 r7 => ?_)
  replace r7 : Rd H4 b7 0 [.int .i64 (F.expF 2).vars, slV a2 0 (F.expF 2).nodes.length c2, .int .i64 (F.expF 2).top] := r7
  have l7 := l6.trans (Le.sub (List.sublist_append_right N2 H3))
  have hC : RNodes H4 a2 0 (F.expF 2).nodes := hN2.le (l6.trans (Le.sub (List.sublist_append_left _ _)))
  replace hF0 := hF0.le l7; replace r1 := r1.le l7; replace r3 := r3.le l7; replace hA := hA.le l7; replace r5 := r5.le l7; replace hB := hB.le l7
  have m4 := l7.trans m3
  refine TOps.next ?_
  refine Tri.seq (Tri.region ?_)
  refine TOps.loadN rfl ti24 (by first | exact Rd.all (by repeat (first | exact List.Mem.head _ | apply List.Mem.tail)) | (repeat (first | assumption | apply Rd.up))) rfl rfl ?_
  refine TOps.call (vs := [_]) Try.call18 ⟨rfl, trivial⟩ (plain_g hF0 hk) rfl ?_
  rintro _ _ ⟨a3, c3, N3, rfl, hN3, rfl⟩
  refine TOps.move rfl rfl ?_
  refine TOps.extract rfl rfl rfl ?_
  refine TOps.extract rfl rfl rfl ?_
  refine TOps.alloc ti24 rfl (fun b9 => ?_)
  refine TOps.storeN rfl rfl ti24 rfl rfl (by repeat (first | exact Upd.here | apply Upd.there)) (by first | decide | (simp; done) | (simp; omega)) ?_
  refine TOps.assign rfl rfl ?_
  refine TOps.hide (fun H5 l8 s8 r9 => ?_)
  replace r9 : Rd H5 b9 0 [.int .i64 (F.plainF).vars, slV a3 0 (F.plainF).nodes.length c3, .int .i64 (F.plainF).top] := r9
  have l9 := l8.trans (Le.sub (List.sublist_append_right N3 H4))
  have hD : RF H5 (.agg (List.toArray [.int .i64 (F.plainF).vars, slV a3 0 (F.plainF).nodes.length c3, .int .i64 (F.plainF).top])) F.plainF := ⟨a3, 0, c3, none, rfl, hN3.le (l8.trans (Le.sub (List.sublist_append_left _ _)))⟩
  replace hF0 := hF0.le l9; replace r1 := r1.le l9; replace r3 := r3.le l9; replace hA := hA.le l9; replace r5 := r5.le l9; replace hB := hB.le l9; replace r7 := r7.le l9; replace hC := hC.le l9
  have m5 := l9.trans m4
  refine TOps.next ?_
  refine Tri.seq (Tri.region ?_)
  refine TOps.loadN rfl ti24 (by first | exact Rd.all (by repeat (first | exact List.Mem.head _ | apply List.Mem.tail)) | (repeat (first | assumption | apply Rd.up))) rfl rfl ?_
  refine TOps.call (vs := [_]) Try.call23 ⟨rfl, trivial⟩ (kinds_g hF0 hk) rfl ?_
  rintro _ _ ⟨rfl, rfl⟩
  refine TOps.alloc ti37 rfl (fun b11 => ?_)
  refine TOps.storeN rfl rfl ti37 rfl rfl (by repeat (first | exact Upd.here | apply Upd.there)) (by first | decide | (simp; done) | (simp; omega)) ?_
  refine TOps.next ?_
  refine Tri.seqMid (X := Unit) (fun y => [(5, .pointer (some ⟨b5, 0, none⟩)), (6, errV 40 (F.expE 1)), (9, .pointer (some ⟨b9, 0, none⟩)), (10, errV 40 F.plainE), (7, .pointer (some ⟨b7, 0, none⟩)), (8, errV 40 (F.expE 2)), (11, .pointer (some ⟨b11, 0, none⟩))]) (fun y => row (some b11) 37 6 1 (kL F.nodes) :: H5) (fun y => True) ?_ (fun y hmid => ?_)
  · skip
    refine Tri.seq (Tri.region ?_)
    refine TOps.move rfl rfl ?_
    refine TOps.eqlNil rfl Try.underlying28 rfl ?_
    refine TOps.next ?_
    refine Tri.cond rfl (fun hc2 => ?_) (fun hc2 => ?_)
    · try simp only [decide_eq_true_eq, decide_eq_false_iff_not, Bool.and_eq_true, Bool.or_eq_true, Bool.not_eq_true', Bool.and_eq_false_iff, Bool.or_eq_false_iff, Bool.not_eq_false', Int.not_lt, Int.not_le, ne_eq, Decidable.not_not, Option.isSome_iff_ne_none, Option.isNone_iff_eq_none] at hc2
      have he0 : F.expE 0 = none := by simpa using hc2
      obtain ⟨q1, q2, q3, q4⟩ := votes_kinds hg he0
      refine Tri.seq (Tri.region ?_)
      refine TOps.loadN rfl ti24 (by first | exact Rd.all (by repeat (first | exact List.Mem.head _ | apply List.Mem.tail)) | (repeat (first | assumption | apply Rd.up))) rfl rfl ?_
      refine TOps.call (vs := [_]) Try.call23 ⟨rfl, trivial⟩ (kinds_g (hA.le (Le.drop (Le.refl _))) o0) rfl ?_
      rintro _ _ ⟨rfl, rfl⟩
      refine TOps.alloc ti37 rfl (fun b12 => ?_)
      refine TOps.storeN rfl rfl ti37 rfl rfl (by repeat (first | exact Upd.here | apply Upd.there)) (by first | decide | (simp; done) | (simp; omega)) ?_
      refine TOps.next ?_
      refine Tri.seq (Tri.region ?_)
      refine TOps.indexAddrA rfl rfl Try.underlying37 ti3 (by omega) (by omega) rfl rfl ?_
      refine TOps.load1 rfl ti3 (by first | exact Rd.lit (by repeat (first | exact List.Mem.head _ | apply List.Mem.tail)) rfl | (repeat (first | assumption | apply Rd.up))) rfl ?_
      refine TOps.neqI rfl rfl rfl ?_
      refine TOps.move rfl rfl ?_
      refine' TOps.orB 5 rfl rfl rfl rfl (fun hg10_3 => ?_) ?_; rotate_left
      · have hg10_3' := hg10_3
        try simp only [decide_eq_true_eq, decide_eq_false_iff_not, Bool.and_eq_true, Bool.or_eq_true, Bool.not_eq_true', Bool.and_eq_false_iff, Bool.or_eq_false_iff, Bool.not_eq_false', Int.not_lt, Int.not_le, ne_eq, Decidable.not_not] at hg10_3'
        refine TOps.strip 3 false rfl rfl hg10_3 rfl ?_
        refine TOps.indexAddrA rfl rfl Try.underlying37 ti3 (by omega) (by omega) rfl rfl ?_
        refine TOps.load1 rfl ti3 (by first | exact Rd.lit (by repeat (first | exact List.Mem.head _ | apply List.Mem.tail)) rfl | (repeat (first | assumption | apply Rd.up))) rfl ?_
        refine TOps.indexAddrA rfl rfl Try.underlying37 ti3 (by omega) (by omega) rfl rfl ?_
        refine TOps.load1 rfl ti3 (by first | exact Rd.lit (by repeat (first | exact List.Mem.head _ | apply List.Mem.tail)) rfl | (repeat (first | assumption | apply Rd.up))) rfl ?_
        refine TOps.neqI rfl rfl rfl ?_
        refine TOps.blk rfl (by repeat (first | exact Ext.refl _ | refine Ext.cons rfl ?_)) (by repeat (first | exact Le.refl _ | apply Le.drop))
      refine TOps.move rfl rfl ?_
      refine' TOps.orB 5 rfl rfl rfl rfl (fun hg10_10 => ?_) ?_; rotate_left
      · have hg10_10' := hg10_10
        try simp only [decide_eq_true_eq, decide_eq_false_iff_not, Bool.and_eq_true, Bool.or_eq_true, Bool.not_eq_true', Bool.and_eq_false_iff, Bool.or_eq_false_iff, Bool.not_eq_false', Int.not_lt, Int.not_le, ne_eq, Decidable.not_not] at hg10_10'
        refine TOps.strip 10 false rfl rfl hg10_10 rfl ?_
        refine TOps.indexAddrA rfl rfl Try.underlying37 ti3 (by omega) (by omega) rfl rfl ?_
        refine TOps.load1 rfl ti3 (by first | exact Rd.lit (by repeat (first | exact List.Mem.head _ | apply List.Mem.tail)) rfl | (repeat (first | assumption | apply Rd.up))) rfl ?_
        refine TOps.indexAddrA rfl rfl Try.underlying37 ti3 (by omega) (by omega) rfl rfl ?_
        refine TOps.load1 rfl ti3 (by first | exact Rd.lit (by repeat (first | exact List.Mem.head _ | apply List.Mem.tail)) rfl | (repeat (first | assumption | apply Rd.up))) rfl ?_
        refine TOps.neqI rfl rfl rfl ?_
        refine TOps.blk rfl (by repeat (first | exact Ext.refl _ | refine Ext.cons rfl ?_)) (by repeat (first | exact Le.refl _ | apply Le.drop))
      refine TOps.move rfl rfl ?_
      refine' TOps.orB 5 rfl rfl rfl rfl (fun hg10_17 => ?_) ?_; rotate_left
      · have hg10_17' := hg10_17
        try simp only [decide_eq_true_eq, decide_eq_false_iff_not, Bool.and_eq_true, Bool.or_eq_true, Bool.not_eq_true', Bool.and_eq_false_iff, Bool.or_eq_false_iff, Bool.not_eq_false', Int.not_lt, Int.not_le, ne_eq, Decidable.not_not] at hg10_17'
        refine TOps.strip 17 false rfl rfl hg10_17 rfl ?_
        refine TOps.indexAddrA rfl rfl Try.underlying37 ti3 (by omega) (by omega) rfl rfl ?_
        refine TOps.load1 rfl ti3 (by first | exact Rd.lit (by repeat (first | exact List.Mem.head _ | apply List.Mem.tail)) rfl | (repeat (first | assumption | apply Rd.up))) rfl ?_
        refine TOps.indexAddrA rfl rfl Try.underlying37 ti3 (by omega) (by omega) rfl rfl ?_
        refine TOps.load1 rfl ti3 (by first | exact Rd.lit (by repeat (first | exact List.Mem.head _ | apply List.Mem.tail)) rfl | (repeat (first | assumption | apply Rd.up))) rfl ?_
        refine TOps.neqI rfl rfl rfl ?_
        refine TOps.blk rfl (by repeat (first | exact Ext.refl _ | refine Ext.cons rfl ?_)) (by repeat (first | exact Le.refl _ | apply Le.drop))
      refine TOps.next ?_
      refine Tri.cond rfl (fun hc3 => ?_) (fun hc3 => ?_)
      · try simp only [decide_eq_true_eq, decide_eq_false_iff_not, Bool.and_eq_true, Bool.or_eq_true, Bool.not_eq_true', Bool.and_eq_false_iff, Bool.or_eq_false_iff, Bool.not_eq_false', Int.not_lt, Int.not_le, ne_eq, Decidable.not_not, Option.isSome_iff_ne_none, Option.isNone_iff_eq_none] at hc3
        have hfalse : False := by simp [q1, q2, q3, q4] at hc3
        refine Tri.seq (Tri.region ?_)
        refine TOps.assign rfl rfl ?_
        refine TOps.next ?_
        exact hfalse.elim
      try simp only [decide_eq_true_eq, decide_eq_false_iff_not, Bool.and_eq_true, Bool.or_eq_true, Bool.not_eq_true', Bool.and_eq_false_iff, Bool.or_eq_false_iff, Bool.not_eq_false', Int.not_lt, Int.not_le, ne_eq, Decidable.not_not, Option.isSome_iff_ne_none, Option.isNone_iff_eq_none] at hc3
      refine Tri.fin ?_
      refine Nrm.mid () trivial (by exact ⟨rfl, rfl, rfl, rfl, rfl, rfl, rfl, trivial⟩) (by first | exact Le.refl _ | exact Le.drop (Le.refl _))
    try simp only [decide_eq_true_eq, decide_eq_false_iff_not, Bool.and_eq_true, Bool.or_eq_true, Bool.not_eq_true', Bool.and_eq_false_iff, Bool.or_eq_false_iff, Bool.not_eq_false', Int.not_lt, Int.not_le, ne_eq, Decidable.not_not, Option.isSome_iff_ne_none, Option.isNone_iff_eq_none] at hc2
    refine Tri.fin ?_
    refine Nrm.mid () trivial (by exact ⟨rfl, rfl, rfl, rfl, rfl, rfl, rfl, trivial⟩) (by first | exact Le.refl _ | exact Le.drop (Le.refl _))
  refine Tri.seqMid (X := Unit) (fun y => [(9, .pointer (some ⟨b9, 0, none⟩)), (10, errV 40 F.plainE), (7, .pointer (some ⟨b7, 0, none⟩)), (8, errV 40 (F.expE 2)), (11, .pointer (some ⟨b11, 0, none⟩))]) (fun y => row (some b11) 37 6 1 (kL F.nodes) :: H5) (fun y => True) ?_ (fun y hmid => ?_)
  · skip
    refine Tri.seq (Tri.region ?_)
    refine TOps.move rfl rfl ?_
    refine TOps.eqlNil rfl Try.underlying28 rfl ?_
    refine TOps.next ?_
    refine Tri.cond rfl (fun hc4 => ?_) (fun hc4 => ?_)
    · try simp only [decide_eq_true_eq, decide_eq_false_iff_not, Bool.and_eq_true, Bool.or_eq_true, Bool.not_eq_true', Bool.and_eq_false_iff, Bool.or_eq_false_iff, Bool.not_eq_false', Int.not_lt, Int.not_le, ne_eq, Decidable.not_not, Option.isSome_iff_ne_none, Option.isNone_iff_eq_none] at hc4
      have he1 : F.expE 1 = none := by simpa using hc4
      obtain ⟨q1, q2, q3⟩ := xors_kinds hg he1
      refine Tri.seq (Tri.region ?_)
      refine TOps.loadN rfl ti24 (by first | exact Rd.all (by repeat (first | exact List.Mem.head _ | apply List.Mem.tail)) | (repeat (first | assumption | apply Rd.up))) rfl rfl ?_
      refine TOps.call (vs := [_]) Try.call23 ⟨rfl, trivial⟩ (kinds_g (hB.le (Le.drop (Le.refl _))) o1) rfl ?_
      rintro _ _ ⟨rfl, rfl⟩
      refine TOps.alloc ti37 rfl (fun b13 => ?_)
      refine TOps.storeN rfl rfl ti37 rfl rfl (by repeat (first | exact Upd.here | apply Upd.there)) (by first | decide | (simp; done) | (simp; omega)) ?_
      refine TOps.next ?_
      refine Tri.seq (Tri.region ?_)
      refine TOps.indexAddrA rfl rfl Try.underlying37 ti3 (by omega) (by omega) rfl rfl ?_
      refine TOps.load1 rfl ti3 (by first | exact Rd.lit (by repeat (first | exact List.Mem.head _ | apply List.Mem.tail)) rfl | (repeat (first | assumption | apply Rd.up))) rfl ?_
      refine TOps.neqI rfl rfl rfl ?_
      refine TOps.move rfl rfl ?_
      refine' TOps.orB 5 rfl rfl rfl rfl (fun hg14_3 => ?_) ?_; rotate_left
      · have hg14_3' := hg14_3
        try simp only [decide_eq_true_eq, decide_eq_false_iff_not, Bool.and_eq_true, Bool.or_eq_true, Bool.not_eq_true', Bool.and_eq_false_iff, Bool.or_eq_false_iff, Bool.not_eq_false', Int.not_lt, Int.not_le, ne_eq, Decidable.not_not] at hg14_3'
        refine TOps.strip 3 false rfl rfl hg14_3 rfl ?_
        refine TOps.indexAddrA rfl rfl Try.underlying37 ti3 (by omega) (by omega) rfl rfl ?_
        refine TOps.load1 rfl ti3 (by first | exact Rd.lit (by repeat (first | exact List.Mem.head _ | apply List.Mem.tail)) rfl | (repeat (first | assumption | apply Rd.up))) rfl ?_
        refine TOps.indexAddrA rfl rfl Try.underlying37 ti3 (by omega) (by omega) rfl rfl ?_
        refine TOps.load1 rfl ti3 (by first | exact Rd.lit (by repeat (first | exact List.Mem.head _ | apply List.Mem.tail)) rfl | (repeat (first | assumption | apply Rd.up))) rfl ?_
        refine TOps.neqI rfl rfl rfl ?_
        refine TOps.blk rfl (by repeat (first | exact Ext.refl _ | refine Ext.cons rfl ?_)) (by repeat (first | exact Le.refl _ | apply Le.drop))
      refine TOps.move rfl rfl ?_
      refine' TOps.orB 5 rfl rfl rfl rfl (fun hg14_10 => ?_) ?_; rotate_left
      · have hg14_10' := hg14_10
        try simp only [decide_eq_true_eq, decide_eq_false_iff_not, Bool.and_eq_true, Bool.or_eq_true, Bool.not_eq_true', Bool.and_eq_false_iff, Bool.or_eq_false_iff, Bool.not_eq_false', Int.not_lt, Int.not_le, ne_eq, Decidable.not_not] at hg14_10'
        refine TOps.strip 10 false rfl rfl hg14_10 rfl ?_
        refine TOps.indexAddrA rfl rfl Try.underlying37 ti3 (by omega) (by omega) rfl rfl ?_
        refine TOps.load1 rfl ti3 (by first | exact Rd.lit (by repeat (first | exact List.Mem.head _ | apply List.Mem.tail)) rfl | (repeat (first | assumption | apply Rd.up))) rfl ?_
        refine TOps.indexAddrA rfl rfl Try.underlying37 ti3 (by omega) (by omega) rfl rfl ?_
        refine TOps.load1 rfl ti3 (by first | exact Rd.lit (by repeat (first | exact List.Mem.head _ | apply List.Mem.tail)) rfl | (repeat (first | assumption | apply Rd.up))) rfl ?_
        refine TOps.neqI rfl rfl rfl ?_
        refine TOps.blk rfl (by repeat (first | exact Ext.refl _ | refine Ext.cons rfl ?_)) (by repeat (first | exact Le.refl _ | apply Le.drop))
      refine TOps.next ?_
      refine Tri.cond rfl (fun hc5 => ?_) (fun hc5 => ?_)
      · try simp only [decide_eq_true_eq, decide_eq_false_iff_not, Bool.and_eq_true, Bool.or_eq_true, Bool.not_eq_true', Bool.and_eq_false_iff, Bool.or_eq_false_iff, Bool.not_eq_false', Int.not_lt, Int.not_le, ne_eq, Decidable.not_not, Option.isSome_iff_ne_none, Option.isNone_iff_eq_none] at hc5
        have hfalse : False := by simp [q1, q2, q3] at hc5
        refine Tri.seq (Tri.region ?_)
        refine TOps.assign rfl rfl ?_
        refine TOps.next ?_
        exact hfalse.elim
      try simp only [decide_eq_true_eq, decide_eq_false_iff_not, Bool.and_eq_true, Bool.or_eq_true, Bool.not_eq_true', Bool.and_eq_false_iff, Bool.or_eq_false_iff, Bool.not_eq_false', Int.not_lt, Int.not_le, ne_eq, Decidable.not_not, Option.isSome_iff_ne_none, Option.isNone_iff_eq_none] at hc5
      refine Tri.fin ?_
      refine Nrm.mid () trivial (by exact ⟨rfl, rfl, rfl, rfl, rfl, trivial⟩) (by first | exact Le.refl _ | exact Le.drop (Le.refl _))
    try simp only [decide_eq_true_eq, decide_eq_false_iff_not, Bool.and_eq_true, Bool.or_eq_true, Bool.not_eq_true', Bool.and_eq_false_iff, Bool.or_eq_false_iff, Bool.not_eq_false', Int.not_lt, Int.not_le, ne_eq, Decidable.not_not, Option.isSome_iff_ne_none, Option.isNone_iff_eq_none] at hc4
    refine Tri.fin ?_
    refine Nrm.mid () trivial (by exact ⟨rfl, rfl, rfl, rfl, rfl, trivial⟩) (by first | exact Le.refl _ | exact Le.drop (Le.refl _))
  refine Tri.seqMid (X := Unit) (fun y => [(7, .pointer (some ⟨b7, 0, none⟩)), (8, errV 40 (F.expE 2)), (11, .pointer (some ⟨b11, 0, none⟩))]) (fun y => row (some b11) 37 6 1 (kL F.nodes) :: H5) (fun y => True) ?_ (fun y hmid => ?_)
  · skip
    refine Tri.seq (Tri.region ?_)
    refine TOps.move rfl rfl ?_
    refine TOps.eqlNil rfl Try.underlying28 rfl ?_
    refine TOps.next ?_
    refine Tri.cond rfl (fun hc6 => ?_) (fun hc6 => ?_)
    · try simp only [decide_eq_true_eq, decide_eq_false_iff_not, Bool.and_eq_true, Bool.or_eq_true, Bool.not_eq_true', Bool.and_eq_false_iff, Bool.or_eq_false_iff, Bool.not_eq_false', Int.not_lt, Int.not_le, ne_eq, Decidable.not_not, Option.isSome_iff_ne_none, Option.isNone_iff_eq_none] at hc6
      have hep : F.plainE = none := by simpa using hc6
      obtain ⟨q1, q2⟩ := plain_kinds hep
      refine Tri.seq (Tri.region ?_)
      refine TOps.loadN rfl ti24 (by first | exact Rd.all (by repeat (first | exact List.Mem.head _ | apply List.Mem.tail)) | (repeat (first | assumption | apply Rd.up))) rfl rfl ?_
      refine TOps.call (vs := [_]) Try.call23 ⟨rfl, trivial⟩ (kinds_g (hD.le (Le.drop (Le.refl _))) op) rfl ?_
      rintro _ _ ⟨rfl, rfl⟩
      refine TOps.alloc ti37 rfl (fun b14 => ?_)
      refine TOps.storeN rfl rfl ti37 rfl rfl (by repeat (first | exact Upd.here | apply Upd.there)) (by first | decide | (simp; done) | (simp; omega)) ?_
      refine TOps.next ?_
      refine Tri.seq (Tri.region ?_)
      refine TOps.indexAddrA rfl rfl Try.underlying37 ti3 (by omega) (by omega) rfl rfl ?_
      refine TOps.load1 rfl ti3 (by first | exact Rd.lit (by repeat (first | exact List.Mem.head _ | apply List.Mem.tail)) rfl | (repeat (first | assumption | apply Rd.up))) rfl ?_
      refine TOps.neqI rfl rfl rfl ?_
      refine TOps.move rfl rfl ?_
      refine' TOps.orB 3 rfl rfl rfl rfl (fun hg18_3 => ?_) ?_; rotate_left
      · have hg18_3' := hg18_3
        try simp only [decide_eq_true_eq, decide_eq_false_iff_not, Bool.and_eq_true, Bool.or_eq_true, Bool.not_eq_true', Bool.and_eq_false_iff, Bool.or_eq_false_iff, Bool.not_eq_false', Int.not_lt, Int.not_le, ne_eq, Decidable.not_not] at hg18_3'
        refine TOps.strip 3 false rfl rfl hg18_3 rfl ?_
        refine TOps.indexAddrA rfl rfl Try.underlying37 ti3 (by omega) (by omega) rfl rfl ?_
        refine TOps.load1 rfl ti3 (by first | exact Rd.lit (by repeat (first | exact List.Mem.head _ | apply List.Mem.tail)) rfl | (repeat (first | assumption | apply Rd.up))) rfl ?_
        refine TOps.neqI rfl rfl rfl ?_
        refine TOps.blk rfl (by repeat (first | exact Ext.refl _ | refine Ext.cons rfl ?_)) (by repeat (first | exact Le.refl _ | apply Le.drop))
      refine TOps.next ?_
      refine Tri.cond rfl (fun hc7 => ?_) (fun hc7 => ?_)
      · try simp only [decide_eq_true_eq, decide_eq_false_iff_not, Bool.and_eq_true, Bool.or_eq_true, Bool.not_eq_true', Bool.and_eq_false_iff, Bool.or_eq_false_iff, Bool.not_eq_false', Int.not_lt, Int.not_le, ne_eq, Decidable.not_not, Option.isSome_iff_ne_none, Option.isNone_iff_eq_none] at hc7
        have hfalse : False := by simp [q1, q2] at hc7
        refine Tri.seq (Tri.region ?_)
        refine TOps.assign rfl rfl ?_
        refine TOps.next ?_
        exact hfalse.elim
      try simp only [decide_eq_true_eq, decide_eq_false_iff_not, Bool.and_eq_true, Bool.or_eq_true, Bool.not_eq_true', Bool.and_eq_false_iff, Bool.or_eq_false_iff, Bool.not_eq_false', Int.not_lt, Int.not_le, ne_eq, Decidable.not_not, Option.isSome_iff_ne_none, Option.isNone_iff_eq_none] at hc7
      refine Tri.fin ?_
      refine Nrm.mid () trivial (by exact ⟨rfl, rfl, rfl, trivial⟩) (by first | exact Le.refl _ | exact Le.drop (Le.refl _))
    try simp only [decide_eq_true_eq, decide_eq_false_iff_not, Bool.and_eq_true, Bool.or_eq_true, Bool.not_eq_true', Bool.and_eq_false_iff, Bool.or_eq_false_iff, Bool.not_eq_false', Int.not_lt, Int.not_le, ne_eq, Decidable.not_not, Option.isSome_iff_ne_none, Option.isNone_iff_eq_none] at hc6
    refine Tri.fin ?_
    refine Nrm.mid () trivial (by exact ⟨rfl, rfl, rfl, trivial⟩) (by first | exact Le.refl _ | exact Le.drop (Le.refl _))
  refine Tri.seq ?_
  refine Tri.seq (Tri.region ?_)
  refine TOps.move rfl rfl ?_
  refine TOps.neqNil rfl Try.underlying28 rfl ?_
  refine TOps.next ?_
  refine Tri.cond rfl (fun hc8 => ?_) (fun hc8 => ?_)
  · try simp only [decide_eq_true_eq, decide_eq_false_iff_not, Bool.and_eq_true, Bool.or_eq_true, Bool.not_eq_true', Bool.and_eq_false_iff, Bool.or_eq_false_iff, Bool.not_eq_false', Int.not_lt, Int.not_le, ne_eq, Decidable.not_not, Option.isSome_iff_ne_none, Option.isNone_iff_eq_none] at hc8
    refine Tri.seq (Tri.region ?_)
    refine TOps.move rfl rfl ?_
    refine TOps.call (vs := [_, _]) Try.call24 ⟨rfl, rfl, trivial⟩ (is_g (F.expE 2) 4) rfl ?_
    rintro _ _ ⟨rfl, rfl⟩
    refine TOps.assign rfl rfl ?_
    refine TOps.next ?_
    refine Tri.ret1 (H' := H) Try.results5 (fun _ _ h => h) (.tmp rfl) (Le.drop m5) ⟨by rw [expE_four hg hc8]; rfl, rfl⟩
  try simp only [decide_eq_true_eq, decide_eq_false_iff_not, Bool.and_eq_true, Bool.or_eq_true, Bool.not_eq_true', Bool.and_eq_false_iff, Bool.or_eq_false_iff, Bool.not_eq_false', Int.not_lt, Int.not_le, ne_eq, Decidable.not_not, Option.isSome_iff_ne_none, Option.isNone_iff_eq_none] at hc8
  have he2 : F.expE 2 = none := by simpa using hc8
  have hbin := bin_law hg he2
  have hlen := o2.2.2.2
  have hok2 := o2.2.2.1
  refine Tri.fin ?_
  refine Nrm.next ?_
  refine Tri.seq ?_
  refine Tri.seq (Tri.region ?_)
  first | refine TOps.fieldB 1 rfl Try.underlying24 rfl rfl ti22 rfl rfl rfl ?_ | refine TOps.fieldN 1 rfl Try.underlying24 rfl rfl ti22 rfl rfl rfl ?_
  refine TOps.load1 rfl ti22 (Rd.fld (r7.le (Le.drop (Le.refl _))) 1 rfl) rfl ?_
  refine TOps.len rfl Try.underlying22 rfl ?_
  refine TOps.move rfl rfl ?_
  refine TOps.next ?_
  refine Tri.range (X := Unit) (fun x k => [(117, slV a2 0 (F.expF 2).nodes.length c2)]) (fun x k => row (some b11) 37 6 1 (kL F.nodes) :: H5) (fun x k => True) (by omega) rfl rfl rfl (fun _ _ => ⟨rfl, rfl, rfl, rfl⟩) () trivial ⟨rfl, trivial⟩ (by repeat (first | exact Le.refl _ | assumption | apply Le.drop)) (fun k x hlt hp => ?_) (fun x ac wc hp hS hM => ?_)
  · skip
    obtain ⟨nb, aa, ao, acap, asp, rfl, -, hn⟩ := hC.at hlt
    have hcells := hn.cells
    have hbk := hbin _ (List.getElem_mem hlt)
    have hdo := hok2 _ (List.getElem_mem hlt)
    obtain ⟨d, hd⟩ : ∃ d, (F.expF 2).nodes[k] = d := ⟨_, rfl⟩
    rw [hd] at hcells hbk hdo
    refine Tri.seq (Tri.region ?_)
    refine TOps.indexAddr (off' := 0 + k * 3) rfl rfl Try.underlying22 ti43 (by omega) (by omega) (by simp) rfl ?_
    refine TOps.loadN (vs := [.int .i64 d.kind, .int .i64 d.k, slV aa ao d.args.length acap asp]) rfl ti43 (hcells.le (Le.drop (Le.refl _))) rfl rfl ?_
    refine TOps.alloc ti43 rfl (fun b16 => ?_)
    refine TOps.storeN rfl rfl ti43 rfl rfl (by repeat (first | exact Upd.here | apply Upd.there)) (by first | decide | (simp; done) | (simp; omega)) ?_
    refine TOps.next ?_
    refine Tri.seq (Tri.region ?_)
    refine TOps.field0 rfl Try.underlying43 rfl rfl ti3 rfl rfl rfl ?_
    refine TOps.load1 rfl ti3 (by first | exact Rd.lit (by repeat (first | exact List.Mem.head _ | apply List.Mem.tail)) rfl | (repeat (first | assumption | exact Rd.fld (by assumption) 0 rfl | apply Rd.up))) rfl ?_
    refine TOps.eqlI rfl rfl rfl ?_
    refine TOps.move rfl rfl ?_
    refine' TOps.orB 3 rfl rfl rfl rfl (fun hg25_3 => ?_) ?_; rotate_left
    · have hg25_3' := hg25_3
      try simp only [decide_eq_true_eq, decide_eq_false_iff_not, Bool.and_eq_true, Bool.or_eq_true, Bool.not_eq_true', Bool.and_eq_false_iff, Bool.or_eq_false_iff, Bool.not_eq_false', Int.not_lt, Int.not_le, ne_eq, Decidable.not_not] at hg25_3'
      refine TOps.strip 3 false rfl rfl hg25_3 rfl ?_
      refine TOps.field0 rfl Try.underlying43 rfl rfl ti3 rfl rfl rfl ?_
      refine TOps.load1 rfl ti3 (by first | exact Rd.lit (by repeat (first | exact List.Mem.head _ | apply List.Mem.tail)) rfl | (repeat (first | assumption | exact Rd.fld (by assumption) 0 rfl | apply Rd.up))) rfl ?_
      refine TOps.eqlI rfl rfl rfl ?_
      refine TOps.blk rfl (by repeat (first | exact Ext.refl _ | refine Ext.cons rfl ?_)) (by repeat (first | exact Le.refl _ | apply Le.drop))
    refine TOps.move rfl rfl ?_
    refine' TOps.andB 4 rfl rfl rfl rfl (fun hg25_8 => ?_) ?_; rotate_left
    · have hg25_8' := hg25_8
      try simp only [decide_eq_true_eq, decide_eq_false_iff_not, Bool.and_eq_true, Bool.or_eq_true, Bool.not_eq_true', Bool.and_eq_false_iff, Bool.or_eq_false_iff, Bool.not_eq_false', Int.not_lt, Int.not_le, ne_eq, Decidable.not_not] at hg25_8'
      refine TOps.strip 8 true rfl rfl hg25_8 rfl ?_
      first | refine TOps.fieldB 2 rfl Try.underlying43 rfl rfl ti41 rfl rfl rfl ?_ | refine TOps.fieldN 2 rfl Try.underlying43 rfl rfl ti41 rfl rfl rfl ?_
      refine TOps.load1 rfl ti41 (by first | exact Rd.lit (by repeat (first | exact List.Mem.head _ | apply List.Mem.tail)) rfl | (repeat (first | assumption | exact Rd.fld (by assumption) 2 rfl | apply Rd.up))) rfl ?_
      refine TOps.len rfl Try.underlying41 rfl ?_
      refine TOps.neqI rfl rfl rfl ?_
      refine TOps.blk rfl (by repeat (first | exact Ext.refl _ | refine Ext.cons rfl ?_)) (by repeat (first | exact Le.refl _ | apply Le.drop))
    refine TOps.next ?_
    refine Tri.cond rfl (fun hc9 => ?_) (fun hc9 => ?_)
    · try simp only [decide_eq_true_eq, decide_eq_false_iff_not, Bool.and_eq_true, Bool.or_eq_true, Bool.not_eq_true', Bool.and_eq_false_iff, Bool.or_eq_false_iff, Bool.not_eq_false', Int.not_lt, Int.not_le, ne_eq, Decidable.not_not, Option.isSome_iff_ne_none, Option.isNone_iff_eq_none] at hc9
      have hfalse : False := by have := hbk hc9.1; omega
      refine Tri.seq (Tri.region ?_)
      refine TOps.assign rfl rfl ?_
      refine TOps.next ?_
      exact hfalse.elim
    try simp only [decide_eq_true_eq, decide_eq_false_iff_not, Bool.and_eq_true, Bool.or_eq_true, Bool.not_eq_true', Bool.and_eq_false_iff, Bool.or_eq_false_iff, Bool.not_eq_false', Int.not_lt, Int.not_le, ne_eq, Decidable.not_not, Option.isSome_iff_ne_none, Option.isNone_iff_eq_none] at hc9
    refine Tri.fin ?_
    refine Nrm.body () trivial ⟨rfl, rfl, rfl, trivial⟩ (by repeat (first | exact Le.refl _ | assumption | apply Le.drop))
  refine Nrm.of hS hM ?_
  refine Nrm.next ?_
  refine Tri.seq (Tri.region ?_)
  refine TOps.assign rfl rfl ?_
  refine TOps.next ?_
  refine Tri.ret1 (H' := H) Try.results5 (fun _ _ h => h) (.tmp rfl) (Le.drop m5) ⟨rfl, rfl⟩
end Go.Proofs
