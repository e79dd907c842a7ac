import Derived.Test.YtffghipagnjggaaP27
namespace Go.Proofs
open Go.GL
set_option linter.unusedVariables false
set_option linter.unusedSimpArgs false
set_option maxHeartbeats 1000000 in
theorem expandTrees_g {H : List Ent} {fv : Value} {F : Fm} (hF : RF H fv F) (hk : F.ok) :
    Gives Try.prog 8 [fv] H (R1 (.bool true) H) := by
  have hF0 := hF
  have hko := expF_ok F 2
  have hkp := treeF_ok (F := F)
  obtain ⟨na, off, cap, nsp, rfl, hN⟩ := hF
  refine Gives.enter Try.func8 rfl (by exact Try.ntmps8) rfl ?_
  refine Tri.seq (Tri.region ?_)
  refine TOps.boxN rfl ti24 rfl rfl (fun b1 => ?_)
  refine TOps.hide (fun H1 l1 s1 r1 => ?_)
  replace hF0 := hF0.le l1
  refine TOps.assign rfl rfl ?_
  refine TOps.next ?_
  refine Tri.seq ?_
  refine Tri.seq (Tri.region ?_)
  refine TOps.call (vs := []) Try.call10 trivial (awake27_g) rfl ?_
  rintro _ _ ⟨rfl, rfl⟩
  refine TOps.not rfl rfl ?_
  refine TOps.move rfl rfl ?_
  refine' TOps.orB 2 rfl rfl rfl rfl (fun hg1_2 => ?_) ?_; rotate_left
  · have hg1_2' := hg1_2
    try simp only [decide_eq_true_eq, decide_eq_false_iff_not, Bool.and_eq_true, Bool.or_eq_true, Bool.not_eq_true', Bool.and_eq_false_iff, Bool.or_eq_false_iff, Bool.not_eq_false', Int.not_lt, Int.not_le, ne_eq, Decidable.not_not] at hg1_2'
    refine TOps.strip 2 false rfl rfl hg1_2 rfl ?_
    refine TOps.loadN rfl ti24 (by first | exact Rd.all (by repeat (first | exact List.Mem.head _ | apply List.Mem.tail)) | (repeat (first | assumption | apply Rd.up))) rfl rfl ?_
    refine TOps.call (vs := [_]) Try.call11 ⟨rfl, trivial⟩ (heavy27_g hF0 hk) rfl ?_
    rintro _ _ ⟨rfl, rfl⟩
    refine TOps.blk rfl (by repeat (first | exact Ext.refl _ | refine Ext.cons rfl ?_)) (by repeat (first | exact Le.refl _ | apply Le.drop))
  refine TOps.next ?_
  refine Tri.cond rfl (fun hc1 => ?_) (fun hc1 => ?_)
  · try simp only [decide_eq_true_eq, decide_eq_false_iff_not, Bool.and_eq_true, Bool.or_eq_true, Bool.not_eq_true', Bool.and_eq_false_iff, Bool.or_eq_false_iff, Bool.not_eq_false', Int.not_lt, Int.not_le, ne_eq, Decidable.not_not, Option.isSome_iff_ne_none, Option.isNone_iff_eq_none] at hc1
    refine Tri.seq (Tri.region ?_)
    refine TOps.call (vs := []) Try.call10 trivial (awake27_g) rfl ?_
    rintro _ _ ⟨rfl, rfl⟩
    refine TOps.assign rfl rfl ?_
    refine TOps.next ?_
    refine Tri.ret1 (H' := H) Try.results8 (fun _ _ h => h) (.tmp rfl) l1 ⟨rfl, rfl⟩
  try simp only [decide_eq_true_eq, decide_eq_false_iff_not, Bool.and_eq_true, Bool.or_eq_true, Bool.not_eq_true', Bool.and_eq_false_iff, Bool.or_eq_false_iff, Bool.not_eq_false', Int.not_lt, Int.not_le, ne_eq, Decidable.not_not, Option.isSome_iff_ne_none, Option.isNone_iff_eq_none] at hc1
  refine Tri.fin ?_
  refine Nrm.next ?_
  refine Tri.seq (Tri.region ?_)
  refine TOps.loadN rfl ti24 (by first | exact Rd.all (by repeat (first | exact List.Mem.head _ | apply List.Mem.tail)) | (repeat (first | assumption | apply Rd.up))) rfl rfl ?_
  refine TOps.call (vs := [_]) Try.call22 ⟨rfl, trivial⟩ (binary_g hF0 hk) rfl ?_
  rintro _ _ ⟨a, c, NN, rfl, hN2, rfl⟩
  refine TOps.move rfl rfl ?_
  refine TOps.extract rfl rfl rfl ?_
  refine TOps.extract rfl rfl rfl ?_
  refine TOps.alloc ti24 rfl (fun b3 => ?_)
  refine TOps.storeN rfl rfl ti24 rfl rfl (by repeat (first | exact Upd.here | apply Upd.there)) (by first | decide | (simp; done) | (simp; omega)) ?_
  refine TOps.assign rfl rfl ?_
  refine TOps.hide (fun H2 l2 s2 r3 => ?_)
  replace r3 : Rd H2 b3 0 [.int .i64 (F.expF 2).vars, slV a 0 (F.expF 2).nodes.length c, .int .i64 (F.expF 2).top] := r3
  have l3 := l2.trans (Le.sub (List.sublist_append_right NN H1))
  have hX : RF H2 (.agg (List.toArray [.int .i64 (F.expF 2).vars, slV a 0 (F.expF 2).nodes.length c, .int .i64 (F.expF 2).top])) (F.expF 2) := ⟨a, 0, c, none, rfl, hN2.le (l2.trans (Le.sub (List.sublist_append_left _ _)))⟩
  replace hF0 := hF0.le l3; replace r1 := r1.le l3
  have l4 := l3.trans l1
  refine TOps.next ?_
  refine Tri.seq (Tri.region ?_)
  refine TOps.loadN rfl ti24 (by first | exact Rd.all (by repeat (first | exact List.Mem.head _ | apply List.Mem.tail)) | (repeat (first | assumption | apply Rd.up))) rfl rfl ?_
  refine TOps.call (vs := [_]) Try.call25 ⟨rfl, trivial⟩ (unshare_g hF0 hk) rfl ?_
  rintro _ _ ⟨ap, cp, NP, rfl, hN4, rfl⟩
  refine TOps.move rfl rfl ?_
  refine TOps.extract rfl rfl rfl ?_
  refine TOps.extract rfl rfl rfl ?_
  refine TOps.alloc ti24 rfl (fun b5 => ?_)
  refine TOps.storeN rfl rfl ti24 rfl rfl (by repeat (first | exact Upd.here | apply Upd.there)) (by first | decide | (simp; done) | (simp; omega)) ?_
  refine TOps.assign rfl rfl ?_
  refine TOps.hide (fun H4 l7 s7 r5 => ?_)
  replace r5 : Rd H4 b5 0 [.int .i64 (F.treeF).vars, slV ap 0 (F.treeF).nodes.length cp, .int .i64 (F.treeF).top] := r5
  have l8 := l7.trans (Le.sub (List.sublist_append_right NP H2))
  have hP : RF H4 (.agg (List.toArray [.int .i64 (F.treeF).vars, slV ap 0 (F.treeF).nodes.length cp, .int .i64 (F.treeF).top])) F.treeF := ⟨ap, 0, cp, none, rfl, hN4.le (l7.trans (Le.sub (List.sublist_append_left _ _)))⟩
  replace hF0 := hF0.le l8; replace r1 := r1.le l8; replace r3 := r3.le l8; replace hX := hX.le l8
  have l9 := l8.trans l4
  refine TOps.next ?_
  refine Tri.seq ?_
  refine Tri.seq (Tri.region ?_)
  refine TOps.loadN rfl ti24 (by first | exact Rd.all (by repeat (first | exact List.Mem.head _ | apply List.Mem.tail)) | (repeat (first | assumption | apply Rd.up))) rfl rfl ?_
  refine TOps.call (vs := [_]) Try.call13 ⟨rfl, trivial⟩ (rcheck_g hF0 hk) rfl ?_
  rintro _ _ ⟨rfl, rfl⟩
  refine TOps.assign rfl rfl ?_
  refine TOps.next ?_
  refine Tri.seq (Tri.region ?_)
  refine TOps.move rfl rfl ?_
  refine TOps.neqI rfl rfl rfl ?_
  refine TOps.next ?_
  refine Tri.cond rfl (fun hc2 => ?_) (fun hc2 => ?_)
  · try simp only [decide_eq_true_eq, decide_eq_false_iff_not, Bool.and_eq_true, Bool.or_eq_true, Bool.not_eq_true', Bool.and_eq_false_iff, Bool.or_eq_false_iff, Bool.not_eq_false', Int.not_lt, Int.not_le, ne_eq, Decidable.not_not, Option.isSome_iff_ne_none, Option.isNone_iff_eq_none] at hc2
    obtain ⟨er, her⟩ := err_getD' hc2
    have e1 : F.expE 2 = some er := by unfold Fm.expE; rw [her]
    have e2 : F.expF 2 = Fm.zero := by unfold Fm.expF; rw [her]
    obtain ⟨e4, e5⟩ := treeE_err her
    refine Tri.seq (Tri.region ?_)
    refine TOps.move rfl rfl ?_
    refine TOps.call (vs := [_]) Try.call14 ⟨rfl, trivial⟩ (num_g (F.expE 2)) rfl ?_
    rintro _ _ ⟨rfl, rfl⟩
    refine TOps.move rfl rfl ?_
    refine TOps.eqlI rfl rfl rfl ?_
    refine TOps.move rfl rfl ?_
    refine' TOps.andB 4 rfl rfl rfl rfl (fun hg7_4 => ?_) ?_; rotate_left
    · have hg7_4' := hg7_4
      try simp only [decide_eq_true_eq, decide_eq_false_iff_not, Bool.and_eq_true, Bool.or_eq_true, Bool.not_eq_true', Bool.and_eq_false_iff, Bool.or_eq_false_iff, Bool.not_eq_false', Int.not_lt, Int.not_le, ne_eq, Decidable.not_not] at hg7_4'
      refine TOps.strip 4 true rfl rfl hg7_4 rfl ?_
      refine TOps.move rfl rfl ?_
      refine TOps.call (vs := [_]) Try.call14 ⟨rfl, trivial⟩ (num_g F.treeE) rfl ?_
      rintro _ _ ⟨rfl, rfl⟩
      refine TOps.move rfl rfl ?_
      refine TOps.eqlI rfl rfl rfl ?_
      refine TOps.blk rfl (by repeat (first | exact Ext.refl _ | refine Ext.cons rfl ?_)) (by repeat (first | exact Le.refl _ | apply Le.drop))
    refine TOps.move rfl rfl ?_
    refine' TOps.andB 3 rfl rfl rfl rfl (fun hg7_10 => ?_) ?_; rotate_left
    · have hg7_10' := hg7_10
      try simp only [decide_eq_true_eq, decide_eq_false_iff_not, Bool.and_eq_true, Bool.or_eq_true, Bool.not_eq_true', Bool.and_eq_false_iff, Bool.or_eq_false_iff, Bool.not_eq_false', Int.not_lt, Int.not_le, ne_eq, Decidable.not_not] at hg7_10'
      refine TOps.strip 10 true rfl rfl hg7_10 rfl ?_
      refine TOps.loadN rfl ti24 (by first | exact Rd.all (by repeat (first | exact List.Mem.head _ | apply List.Mem.tail)) | (repeat (first | assumption | apply Rd.up))) rfl rfl ?_
      refine TOps.buildStruct (vs := []) (xs := [_, _, _]) [(0, 1), (1, 1), (2, 1)] Try.underlying24 ti24 (fun w => by simp) trivial rfl rfl ?_
      refine TOps.call (vs := [_, _]) Try.call15 ⟨rfl, rfl, trivial⟩ (formulaEq_g hX rfZero hko.2.2.2 (fun d hd => (hko.2.2.1 d hd).2.2.2) (fun d hd => by simp [Fm.zero] at hd)) rfl ?_
      rintro _ _ ⟨rfl, rfl⟩
      refine TOps.blk rfl (by repeat (first | exact Ext.refl _ | refine Ext.cons rfl ?_)) (by repeat (first | exact Le.refl _ | apply Le.drop))
    refine TOps.move rfl rfl ?_
    refine' TOps.andB 3 rfl rfl rfl rfl (fun hg7_15 => ?_) ?_; rotate_left
    · have hg7_15' := hg7_15
      try simp only [decide_eq_true_eq, decide_eq_false_iff_not, Bool.and_eq_true, Bool.or_eq_true, Bool.not_eq_true', Bool.and_eq_false_iff, Bool.or_eq_false_iff, Bool.not_eq_false', Int.not_lt, Int.not_le, ne_eq, Decidable.not_not] at hg7_15'
      refine TOps.strip 15 true rfl rfl hg7_15 rfl ?_
      refine TOps.loadN rfl ti24 (by first | exact Rd.all (by repeat (first | exact List.Mem.head _ | apply List.Mem.tail)) | (repeat (first | assumption | apply Rd.up))) rfl rfl ?_
      refine TOps.buildStruct (vs := []) (xs := [_, _, _]) [(0, 1), (1, 1), (2, 1)] Try.underlying24 ti24 (fun w => by simp) trivial rfl rfl ?_
      refine TOps.call (vs := [_, _]) Try.call15 ⟨rfl, rfl, trivial⟩ (formulaEq_g hP rfZero hkp.2.2.2 (fun d hd => (hkp.2.2.1 d hd).2.2.2) (fun d hd => by simp [Fm.zero] at hd)) rfl ?_
      rintro _ _ ⟨rfl, rfl⟩
      refine TOps.blk rfl (by repeat (first | exact Ext.refl _ | refine Ext.cons rfl ?_)) (by repeat (first | exact Le.refl _ | apply Le.drop))
    refine TOps.assign rfl rfl ?_
    refine TOps.next ?_
    refine Tri.ret1 (H' := H) Try.results8 (fun _ _ h => h) (.tmp rfl) l9 ⟨by rw [e1, e2, e4, e5, her]; simp, rfl⟩
  try simp only [decide_eq_true_eq, decide_eq_false_iff_not, Bool.and_eq_true, Bool.or_eq_true, Bool.not_eq_true', Bool.and_eq_false_iff, Bool.or_eq_false_iff, Bool.not_eq_false', Int.not_lt, Int.not_le, ne_eq, Decidable.not_not, Option.isSome_iff_ne_none, Option.isNone_iff_eq_none] at hc2
  have he := err_getD (by simpa using hc2)
  have hg := (Fm.good_iff F).1 he
  refine Tri.fin ?_
  refine Nrm.next ?_
  refine Tri.seq (Tri.region ?_)
  refine TOps.loadN rfl ti24 (by first | exact Rd.all (by repeat (first | exact List.Mem.head _ | apply List.Mem.tail)) | (repeat (first | assumption | apply Rd.up))) rfl rfl ?_
  refine TOps.call (vs := [_]) Try.call26 ⟨rfl, trivial⟩ (rbinary_g hF0 hk hg) rfl ?_
  rintro _ _ ⟨a2, c2, NN2, rfl, hN3, rfl⟩
  refine TOps.move rfl rfl ?_
  refine TOps.extract rfl rfl rfl ?_
  refine TOps.extract rfl rfl rfl ?_
  refine TOps.alloc ti24 rfl (fun b8 => ?_)
  refine TOps.storeN rfl rfl ti24 rfl rfl (by repeat (first | exact Upd.here | apply Upd.there)) (by first | decide | (simp; done) | (simp; omega)) ?_
  refine TOps.assign rfl rfl ?_
  refine TOps.hide (fun H3 l5 s5 r8 => ?_)
  replace r8 : Rd H3 b8 0 [.int .i64 (F.expF 2).vars, slV a2 0 (F.expF 2).nodes.length c2, .int .i64 (F.expF 2).top] := r8
  have l6 := l5.trans (Le.sub (List.sublist_append_right NN2 H4))
  have hY : RF H3 (.agg (List.toArray [.int .i64 (F.expF 2).vars, slV a2 0 (F.expF 2).nodes.length c2, .int .i64 (F.expF 2).top])) (F.expF 2) := ⟨a2, 0, c2, none, rfl, hN3.le (l5.trans (Le.sub (List.sublist_append_left _ _)))⟩
  replace hX := hX.le l6; replace r3 := r3.le l6; replace r5 := r5.le l6; replace hP := hP.le l6; replace hF0 := hF0.le l6; replace r1 := r1.le l6
  have l10 := l6.trans l9
  refine TOps.next ?_
  refine Tri.seq (Tri.region ?_)
  refine TOps.loadN rfl ti24 (by first | exact Rd.all (by repeat (first | exact List.Mem.head _ | apply List.Mem.tail)) | (repeat (first | assumption | apply Rd.up))) rfl rfl ?_
  refine TOps.call (vs := [_]) Try.call27 ⟨rfl, trivial⟩ (runshare_g hF0 hk hg) rfl ?_
  rintro _ _ ⟨a3, c3, NN3, rfl, hN5, rfl⟩
  refine TOps.move rfl rfl ?_
  refine TOps.extract rfl rfl rfl ?_
  refine TOps.extract rfl rfl rfl ?_
  refine TOps.alloc ti24 rfl (fun b10 => ?_)
  refine TOps.storeN rfl rfl ti24 rfl rfl (by repeat (first | exact Upd.here | apply Upd.there)) (by first | decide | (simp; done) | (simp; omega)) ?_
  refine TOps.assign rfl rfl ?_
  refine TOps.hide (fun H5 l11 s11 r10 => ?_)
  replace r10 : Rd H5 b10 0 [.int .i64 (F.treeF).vars, slV a3 0 (F.treeF).nodes.length c3, .int .i64 (F.treeF).top] := r10
  have l12 := l11.trans (Le.sub (List.sublist_append_right NN3 H3))
  have hZ : RF H5 (.agg (List.toArray [.int .i64 (F.treeF).vars, slV a3 0 (F.treeF).nodes.length c3, .int .i64 (F.treeF).top])) F.treeF := ⟨a3, 0, c3, none, rfl, hN5.le (l11.trans (Le.sub (List.sublist_append_left _ _)))⟩
  replace hX := hX.le l12; replace r3 := r3.le l12; replace r5 := r5.le l12; replace hP := hP.le l12; replace r8 := r8.le l12; replace hY := hY.le l12
  refine TOps.next ?_
  refine Tri.seq (Tri.region ?_)
  refine TOps.move rfl rfl ?_
  refine TOps.call (vs := [_]) Try.call14 ⟨rfl, trivial⟩ (num_g (F.expE 2)) rfl ?_
  rintro _ _ ⟨rfl, rfl⟩
  refine TOps.move rfl rfl ?_
  refine TOps.eqlI rfl rfl rfl ?_
  refine TOps.move rfl rfl ?_
  refine' TOps.andB 3 rfl rfl rfl rfl (fun hg10_4 => ?_) ?_; rotate_left
  · have hg10_4' := hg10_4
    try simp only [decide_eq_true_eq, decide_eq_false_iff_not, Bool.and_eq_true, Bool.or_eq_true, Bool.not_eq_true', Bool.and_eq_false_iff, Bool.or_eq_false_iff, Bool.not_eq_false', Int.not_lt, Int.not_le, ne_eq, Decidable.not_not] at hg10_4'
    refine TOps.strip 4 true rfl rfl hg10_4 rfl ?_
    refine TOps.loadN rfl ti24 (by first | exact Rd.all (by repeat (first | exact List.Mem.head _ | apply List.Mem.tail)) | (repeat (first | assumption | apply Rd.up))) rfl rfl ?_
    refine TOps.loadN rfl ti24 (by first | exact Rd.all (by repeat (first | exact List.Mem.head _ | apply List.Mem.tail)) | (repeat (first | assumption | apply Rd.up))) rfl rfl ?_
    refine TOps.call (vs := [_, _]) Try.call15 ⟨rfl, rfl, trivial⟩ (formulaEq_g hX hY hko.2.2.2 (fun d hd => (hko.2.2.1 d hd).2.2.2) (fun d hd => (hko.2.2.1 d hd).2.2.2)) rfl ?_
    rintro _ _ ⟨rfl, rfl⟩
    refine TOps.blk rfl (by repeat (first | exact Ext.refl _ | refine Ext.cons rfl ?_)) (by repeat (first | exact Le.refl _ | apply Le.drop))
  refine TOps.move rfl rfl ?_
  refine' TOps.andB 4 rfl rfl rfl rfl (fun hg10_9 => ?_) ?_; rotate_left
  · have hg10_9' := hg10_9
    try simp only [decide_eq_true_eq, decide_eq_false_iff_not, Bool.and_eq_true, Bool.or_eq_true, Bool.not_eq_true', Bool.and_eq_false_iff, Bool.or_eq_false_iff, Bool.not_eq_false', Int.not_lt, Int.not_le, ne_eq, Decidable.not_not] at hg10_9'
    refine TOps.strip 9 true rfl rfl hg10_9 rfl ?_
    refine TOps.move rfl rfl ?_
    refine TOps.call (vs := [_]) Try.call14 ⟨rfl, trivial⟩ (num_g F.treeE) rfl ?_
    rintro _ _ ⟨rfl, rfl⟩
    refine TOps.move rfl rfl ?_
    refine TOps.eqlI rfl rfl rfl ?_
    refine TOps.blk rfl (by repeat (first | exact Ext.refl _ | refine Ext.cons rfl ?_)) (by repeat (first | exact Le.refl _ | apply Le.drop))
  refine TOps.move rfl rfl ?_
  refine' TOps.andB 3 rfl rfl rfl rfl (fun hg10_15 => ?_) ?_; rotate_left
  · have hg10_15' := hg10_15
    try simp only [decide_eq_true_eq, decide_eq_false_iff_not, Bool.and_eq_true, Bool.or_eq_true, Bool.not_eq_true', Bool.and_eq_false_iff, Bool.or_eq_false_iff, Bool.not_eq_false', Int.not_lt, Int.not_le, ne_eq, Decidable.not_not] at hg10_15'
    refine TOps.strip 15 true rfl rfl hg10_15 rfl ?_
    refine TOps.loadN rfl ti24 (by first | exact Rd.all (by repeat (first | exact List.Mem.head _ | apply List.Mem.tail)) | (repeat (first | assumption | apply Rd.up))) rfl rfl ?_
    refine TOps.loadN rfl ti24 (by first | exact Rd.all (by repeat (first | exact List.Mem.head _ | apply List.Mem.tail)) | (repeat (first | assumption | apply Rd.up))) rfl rfl ?_
    refine TOps.call (vs := [_, _]) Try.call15 ⟨rfl, rfl, trivial⟩ (formulaEq_g hP hZ hkp.2.2.2 (fun d hd => (hkp.2.2.1 d hd).2.2.2) (fun d hd => (hkp.2.2.1 d hd).2.2.2)) rfl ?_
    rintro _ _ ⟨rfl, rfl⟩
    refine TOps.blk rfl (by repeat (first | exact Ext.refl _ | refine Ext.cons rfl ?_)) (by repeat (first | exact Le.refl _ | apply Le.drop))
  refine TOps.assign rfl rfl ?_
  refine TOps.next ?_
  refine Tri.ret1 (H' := H) Try.results8 (fun _ _ h => h) (.tmp rfl) (l12.trans l10) ⟨by simp, rfl⟩
end Go.Proofs
