import Derived.Test.YthfbpnfaklaopaaH11
namespace Go.Proofs
open Go.GL
set_option linter.unusedVariables false
set_option linter.unusedSimpArgs false
theorem normalPushesC_g {H : List Ent} {fv : Value} {F : Fm} (hF : RFC H fv F) (hk : F.ok) :
    Gives Try.prog 3 [fv] H (R1 (.bool true) H) := by
  have hF0 := hF
  have hko := pushF_ok F
  obtain ⟨na, off, cap, nsp, rfl, hN⟩ := hF
  refine Gives.enter Try.func3 rfl (by exact Try.ntmps3) rfl ?_
  refine Tri.seq (Tri.region ?_)
  refine TOps.boxN rfl ti24 rfl rfl (fun b1 => ?_)
  refine TOps.hide (fun H1 l1 s1 r1 => ?_)
  replace hF0 := hF0.le l1
  refine TOps.assign rfl rfl ?_
  refine TOps.next ?_
  refine Tri.seq ?_
  refine Tri.seq (Tri.region ?_)
  refine TOps.call (vs := []) Try.call11 trivial (awake11_g) rfl ?_
  rintro _ _ ⟨rfl, rfl⟩
  refine TOps.not rfl rfl ?_
  refine TOps.move rfl rfl ?_
  refine' TOps.orB 3 rfl rfl rfl rfl (fun hg1_2 => ?_) ?_; rotate_left
  · have hg1_2' := hg1_2
    try simp only [decide_eq_true_eq, decide_eq_false_iff_not, Bool.and_eq_true, Bool.or_eq_true, Bool.not_eq_true', Bool.and_eq_false_iff, Bool.or_eq_false_iff, Bool.not_eq_false', Int.not_lt, Int.not_le, ne_eq, Decidable.not_not] at hg1_2'
    refine TOps.strip 2 false rfl rfl hg1_2 rfl ?_
    refine TOps.loadN rfl ti24 (by first | exact Rd.all (by repeat (first | exact List.Mem.head _ | apply List.Mem.tail)) | (repeat (first | assumption | apply Rd.up))) rfl rfl ?_
    refine TOps.call (vs := [_]) Try.call12 ⟨rfl, trivial⟩ (light_g hF0.r hk) rfl ?_
    rintro _ _ ⟨rfl, rfl⟩
    refine TOps.not rfl rfl ?_
    refine TOps.blk rfl (by repeat (first | exact Ext.refl _ | refine Ext.cons rfl ?_)) (by repeat (first | exact Le.refl _ | apply Le.drop))
  refine TOps.next ?_
  refine Tri.cond rfl (fun hc1 => ?_) (fun hc1 => ?_)
  · try simp only [decide_eq_true_eq, decide_eq_false_iff_not, Bool.and_eq_true, Bool.or_eq_true, Bool.not_eq_true', Bool.and_eq_false_iff, Bool.or_eq_false_iff, Bool.not_eq_false', Int.not_lt, Int.not_le, ne_eq, Decidable.not_not, Option.isSome_iff_ne_none, Option.isNone_iff_eq_none] at hc1
    refine Tri.seq (Tri.region ?_)
    refine TOps.call (vs := []) Try.call11 trivial (awake11_g) rfl ?_
    rintro _ _ ⟨rfl, rfl⟩
    refine TOps.assign rfl rfl ?_
    refine TOps.next ?_
    refine Tri.ret1 (H' := H) Try.results3 (fun _ _ h => h) (.tmp rfl) l1 ⟨rfl, rfl⟩
  try simp only [decide_eq_true_eq, decide_eq_false_iff_not, Bool.and_eq_true, Bool.or_eq_true, Bool.not_eq_true', Bool.and_eq_false_iff, Bool.or_eq_false_iff, Bool.not_eq_false', Int.not_lt, Int.not_le, ne_eq, Decidable.not_not, Option.isSome_iff_ne_none, Option.isNone_iff_eq_none] at hc1
  refine Tri.fin ?_
  refine Nrm.next ?_
  refine Tri.seq (Tri.region ?_)
  refine TOps.loadN rfl ti24 (by first | exact Rd.all (by repeat (first | exact List.Mem.head _ | apply List.Mem.tail)) | (repeat (first | assumption | apply Rd.up))) rfl rfl ?_
  refine TOps.call (vs := [_]) Try.call13 ⟨rfl, trivial⟩ (push_g hF0 hk) rfl ?_
  rintro _ _ ⟨a, c, NN, rfl, hN2, rfl⟩
  refine TOps.move rfl rfl ?_
  refine TOps.extract rfl rfl rfl ?_
  refine TOps.extract rfl rfl rfl ?_
  refine TOps.alloc ti24 rfl (fun b3 => ?_)
  refine TOps.storeN rfl rfl ti24 rfl rfl (by repeat (first | exact Upd.here | apply Upd.there)) (by first | decide | (simp; done) | (simp; omega)) ?_
  refine TOps.assign rfl rfl ?_
  refine TOps.hide (fun H2 l2 s2 r3 => ?_)
  replace r3 : Rd H2 b3 0 [.int .i64 F.pushF.vars, slV a 0 F.pushF.nodes.length c, .int .i64 F.pushF.top] := r3
  have l3 := l2.trans (Le.sub (List.sublist_append_right NN H1))
  have hX : RF H2 (.agg (List.toArray [.int .i64 F.pushF.vars, slV a 0 F.pushF.nodes.length c, .int .i64 F.pushF.top])) F.pushF := ⟨a, 0, c, none, rfl, hN2.le (l2.trans (Le.sub (List.sublist_append_left _ _)))⟩
  replace hF0 := hF0.le l3; replace r1 := r1.le l3
  have l4 := l3.trans l1
  refine TOps.next ?_
  refine Tri.seq ?_
  refine Tri.seq (Tri.region ?_)
  refine TOps.loadN rfl ti24 (by first | exact Rd.all (by repeat (first | exact List.Mem.head _ | apply List.Mem.tail)) | (repeat (first | assumption | apply Rd.up))) rfl rfl ?_
  refine TOps.call (vs := [_]) Try.call14 ⟨rfl, trivial⟩ (rcheck_g hF0.r hk) rfl ?_
  rintro _ _ ⟨rfl, rfl⟩
  refine TOps.assign rfl rfl ?_
  refine TOps.next ?_
  refine Tri.seq (Tri.region ?_)
  refine TOps.move rfl rfl ?_
  refine TOps.neqI rfl rfl rfl ?_
  refine TOps.next ?_
  refine Tri.cond rfl (fun hc2 => ?_) (fun hc2 => ?_)
  · try simp only [decide_eq_true_eq, decide_eq_false_iff_not, Bool.and_eq_true, Bool.or_eq_true, Bool.not_eq_true', Bool.and_eq_false_iff, Bool.or_eq_false_iff, Bool.not_eq_false', Int.not_lt, Int.not_le, ne_eq, Decidable.not_not, Option.isSome_iff_ne_none, Option.isNone_iff_eq_none] at hc2
    obtain ⟨er, her⟩ := err_getD' hc2
    have e1 : F.pushE = some er := by unfold Fm.pushE; rw [her]
    have e2 : F.pushF = Fm.zero := by unfold Fm.pushF; rw [her]
    refine Tri.seq (Tri.region ?_)
    refine TOps.loadN rfl ti24 (by first | exact Rd.all (by repeat (first | exact List.Mem.head _ | apply List.Mem.tail)) | (repeat (first | assumption | apply Rd.up))) rfl rfl ?_
    refine TOps.move rfl rfl ?_
    refine TOps.buildStruct (vs := []) (xs := [_, _, _]) [(0, 1), (1, 1), (2, 1)] Try.underlying24 ti24 (fun w => by simp) trivial rfl rfl ?_
    refine TOps.move rfl rfl ?_
    refine TOps.call (vs := [_, _, _, _]) Try.call15 ⟨rfl, rfl, rfl, rfl, trivial⟩ (same_g hX rfZero F.pushE (F.err.getD 0) hko.2.2.2 (fun d hd => (hko.2.2.1 d hd).2.2.2) (fun d hd => by simp [Fm.zero] at hd)) rfl ?_
    rintro _ _ ⟨rfl, rfl⟩
    refine TOps.assign rfl rfl ?_
    refine TOps.next ?_
    refine Tri.ret1 (H' := H) Try.results3 (fun _ _ h => h) (.tmp rfl) l4 ⟨by rw [e1, e2, her]; simp, rfl⟩
  try simp only [decide_eq_true_eq, decide_eq_false_iff_not, Bool.and_eq_true, Bool.or_eq_true, Bool.not_eq_true', Bool.and_eq_false_iff, Bool.or_eq_false_iff, Bool.not_eq_false', Int.not_lt, Int.not_le, ne_eq, Decidable.not_not, Option.isSome_iff_ne_none, Option.isNone_iff_eq_none] at hc2
  have he := err_getD (by simpa using hc2)
  have hg := (Fm.good_iff F).1 he
  have e1 : F.pushE = sizedE F.pushB.trim := by unfold Fm.pushE; rw [he]
  have e2 : F.pushF = sizedF F.pushB.trim := by unfold Fm.pushF; rw [he]
  refine Tri.fin ?_
  refine Nrm.next ?_
  refine Tri.seq (Tri.region ?_)
  refine TOps.loadN rfl ti24 (by first | exact Rd.all (by repeat (first | exact List.Mem.head _ | apply List.Mem.tail)) | (repeat (first | assumption | apply Rd.up))) rfl rfl ?_
  refine TOps.call (vs := [_]) Try.call16 ⟨rfl, trivial⟩ (rpush_g hF0.r hg) rfl ?_
  rintro _ _ ⟨a2, c2, NN2, rfl, hN3, rfl⟩
  refine TOps.move rfl rfl ?_
  refine TOps.extract rfl rfl rfl ?_
  refine TOps.extract rfl rfl rfl ?_
  refine TOps.alloc ti24 rfl (fun b6 => ?_)
  refine TOps.storeN rfl rfl ti24 rfl rfl (by repeat (first | exact Upd.here | apply Upd.there)) (by first | decide | (simp; done) | (simp; omega)) ?_
  refine TOps.assign rfl rfl ?_
  rw [← e2] at hN3 ⊢
  refine TOps.hide (fun H3 l5 s5 r6 => ?_)
  replace r6 : Rd H3 b6 0 [.int .i64 F.pushF.vars, slV a2 0 F.pushF.nodes.length c2, .int .i64 F.pushF.top] := r6
  have l6 := l5.trans (Le.sub (List.sublist_append_right NN2 H2))
  have hY : RF H3 (.agg (List.toArray [.int .i64 F.pushF.vars, slV a2 0 F.pushF.nodes.length c2, .int .i64 F.pushF.top])) F.pushF := ⟨a2, 0, c2, none, rfl, hN3.le (l5.trans (Le.sub (List.sublist_append_left _ _)))⟩
  replace hX := hX.le l6; replace r3 := r3.le l6
  refine TOps.next ?_
  refine Tri.seq (Tri.region ?_)
  refine TOps.loadN rfl ti24 (by first | exact Rd.all (by repeat (first | exact List.Mem.head _ | apply List.Mem.tail)) | (repeat (first | assumption | apply Rd.up))) rfl rfl ?_
  refine TOps.move rfl rfl ?_
  refine TOps.loadN rfl ti24 (by first | exact Rd.all (by repeat (first | exact List.Mem.head _ | apply List.Mem.tail)) | (repeat (first | assumption | apply Rd.up))) rfl rfl ?_
  refine TOps.move rfl rfl ?_
  refine TOps.call (vs := [_, _, _, _]) Try.call15 ⟨rfl, rfl, rfl, rfl, trivial⟩ (same_g hX hY F.pushE ((sizedE F.pushB.trim).getD 0) hko.2.2.2 (fun d hd => (hko.2.2.1 d hd).2.2.2) (fun d hd => (hko.2.2.1 d hd).2.2.2)) rfl ?_
  rintro _ _ ⟨rfl, rfl⟩
  refine TOps.assign rfl rfl ?_
  refine TOps.next ?_
  refine Tri.ret1 (H' := H) Try.results3 (fun _ _ h => h) (.tmp rfl) (l6.trans l4) ⟨by rw [e1]; simp, rfl⟩
end Go.Proofs
