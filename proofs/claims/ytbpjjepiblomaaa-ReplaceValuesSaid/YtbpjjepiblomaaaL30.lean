import Derived.Test.YtbpjjepiblomaaaK30
import Derived.Test.YtbpjjepiblomaaaGL54
namespace Go.Proofs
open Go.GL
set_option linter.unusedVariables false
set_option linter.unusedSimpArgs false
theorem rfZero {H : List Ent} : RF H (.agg (List.toArray [.int .i64 0, slV none 0 0 0, .int .i64 0])) Fm.zero := ⟨none, 0, 0, none, rfl, .inl rfl⟩
theorem replaceCuts_g {H : List Ent} {fv : Value} {F : Fm} (hF : RF H fv F) (hk : F.ok) (arg : Int) (ha : I64 arg) :
    Gives Try.prog 3 [fv, .int .i64 arg] H (R1 (.bool true) H) := by
  have hF0 := hF
  obtain ⟨na, off, cap, nsp, rfl, hN⟩ := hF
  obtain ⟨⟨u1, u2⟩, u3, u4⟩ := Fm.cut_small F arg
  refine Gives.enter Try.func3 rfl (by exact Try.ntmps3) rfl ?_
  refine Tri.seq (Tri.region ?_)
  refine TOps.boxN rfl ti24 rfl rfl (fun b2 => ?_)
  refine TOps.hide (fun H1 l1 s1 r1 => ?_)
  replace hF0 := hF0.le l1
  refine TOps.assign rfl rfl ?_
  refine TOps.next ?_
  refine Tri.seq ?_
  refine Tri.seq (Tri.region ?_)
  refine TOps.call (vs := []) Try.call10 trivial (awake30_g) rfl ?_
  rintro _ _ ⟨rfl, rfl⟩
  refine TOps.not rfl rfl ?_
  refine TOps.move rfl rfl ?_
  refine' TOps.orB 2 rfl rfl rfl rfl (fun hg1_2 => ?_) ?_; rotate_left
  · have hg1_2' := hg1_2
    try simp only [decide_eq_true_eq, decide_eq_false_iff_not, Bool.and_eq_true, Bool.or_eq_true, Bool.not_eq_true', Bool.and_eq_false_iff, Bool.or_eq_false_iff, Bool.not_eq_false', Int.not_lt, Int.not_le, ne_eq, Decidable.not_not] at hg1_2'
    refine TOps.strip 2 false rfl rfl hg1_2 rfl ?_
    refine TOps.loadN rfl ti24 (by first | exact Rd.all (by repeat (first | exact List.Mem.head _ | apply List.Mem.tail)) | (repeat (first | assumption | apply Rd.up))) rfl rfl ?_
    refine TOps.call (vs := [_]) Try.call11 ⟨rfl, trivial⟩ (heavy_g hF0 hk) rfl ?_
    rintro _ _ ⟨rfl, rfl⟩
    refine TOps.blk rfl (by repeat (first | exact Ext.refl _ | refine Ext.cons rfl ?_)) (by repeat (first | exact Le.refl _ | apply Le.drop))
  refine TOps.next ?_
  refine Tri.cond rfl (fun hc1 => ?_) (fun hc1 => ?_)
  · try simp only [decide_eq_true_eq, decide_eq_false_iff_not, Bool.and_eq_true, Bool.or_eq_true, Bool.not_eq_true', Bool.and_eq_false_iff, Bool.or_eq_false_iff, Bool.not_eq_false', Int.not_lt, Int.not_le, ne_eq, Decidable.not_not, Option.isSome_iff_ne_none, Option.isNone_iff_eq_none] at hc1
    refine Tri.seq (Tri.region ?_)
    refine TOps.call (vs := []) Try.call10 trivial (awake30_g) rfl ?_
    rintro _ _ ⟨rfl, rfl⟩
    refine TOps.assign rfl rfl ?_
    refine TOps.next ?_
    refine Tri.ret1 (H' := H) Try.results3 (fun _ _ h => h) (.tmp rfl) l1 ⟨rfl, rfl⟩
  try simp only [decide_eq_true_eq, decide_eq_false_iff_not, Bool.and_eq_true, Bool.or_eq_true, Bool.not_eq_true', Bool.and_eq_false_iff, Bool.or_eq_false_iff, Bool.not_eq_false', Int.not_lt, Int.not_le, ne_eq, Decidable.not_not, Option.isSome_iff_ne_none, Option.isNone_iff_eq_none] at hc1
  refine Tri.fin ?_
  refine Nrm.next ?_
  refine Tri.seq (Tri.region ?_)
  refine TOps.loadN rfl ti24 (by first | exact Rd.all (by repeat (first | exact List.Mem.head _ | apply List.Mem.tail)) | (repeat (first | assumption | apply Rd.up))) rfl rfl ?_
  refine TOps.move rfl rfl ?_
  refine TOps.call (vs := [_, _]) Try.call12 ⟨rfl, rfl, trivial⟩ (cut_g hF0 hk arg ha) rfl ?_
  rintro _ H2 ⟨x, y, rfl, l2, s2, hX, hY⟩
  obtain ⟨e, hE⟩ : ∃ e, F.cutErr arg = e := ⟨_, rfl⟩
  obtain ⟨G1, hG1⟩ : ∃ G1, F.outF arg = G1 := ⟨_, rfl⟩
  obtain ⟨G2, hG2⟩ : ∃ G2, F.inF arg = G2 := ⟨_, rfl⟩
  rw [hE]
  rw [hG1] at hX u1 u2
  rw [hG2] at hY u3 u4
  have hX0 := hX
  have hY0 := hY
  obtain ⟨xa, xo, xc, xs, rfl, hXN⟩ := hX
  obtain ⟨ya, yo, yc, ys, rfl, hYN⟩ := hY
  replace hF0 := hF0.le l2; replace r1 := r1.le l2
  refine TOps.move rfl rfl ?_
  refine TOps.extract rfl rfl rfl ?_
  refine TOps.extract rfl rfl rfl ?_
  refine TOps.extract rfl rfl rfl ?_
  refine TOps.alloc ti24 rfl (fun b5 => ?_)
  refine TOps.alloc ti24 rfl (fun b6 => ?_)
  refine TOps.storeN rfl rfl ti24 rfl rfl (by repeat (first | exact Upd.here | apply Upd.there)) (by first | decide | (simp; done) | (simp; omega)) ?_
  refine TOps.storeN rfl rfl ti24 rfl rfl (by repeat (first | exact Upd.here | apply Upd.there)) (by first | decide | (simp; done) | (simp; omega)) ?_
  refine TOps.hide (fun H3 l3 s3 r6 => ?_)
  replace r6 : Rd H3 b6 0 [.int .i64 G2.vars, slV ya yo G2.nodes.length yc ys, .int .i64 G2.top] := r6
  have r5 : Rd H3 b5 0 [.int .i64 G1.vars, slV xa xo G1.nodes.length xc xs, .int .i64 G1.top] := Rd.le (Rd.all (by repeat (first | exact List.Mem.head _ | apply List.Mem.tail))) l3
  replace l3 := l3.trans (Le.drop (Le.refl H2))
  replace hF0 := hF0.le l3; replace r1 := r1.le l3; replace hX0 := hX0.le l3; replace hY0 := hY0.le l3
  have l4 := l3.trans (l2.trans l1)
  refine TOps.assign rfl rfl ?_
  refine TOps.next ?_
  refine Tri.seq ?_
  refine Tri.seq (Tri.region ?_)
  refine TOps.loadN rfl ti24 (by first | exact Rd.all (by repeat (first | exact List.Mem.head _ | apply List.Mem.tail)) | (repeat (first | assumption | apply Rd.up))) rfl rfl ?_
  refine TOps.call (vs := [_]) Try.call13 ⟨rfl, trivial⟩ (rcheck_g hF0 hk) rfl ?_
  rintro _ _ ⟨rfl, rfl⟩
  refine TOps.assign rfl rfl ?_
  refine TOps.next ?_
  refine Tri.seq (Tri.region ?_)
  refine TOps.move rfl rfl ?_
  refine TOps.neqI rfl rfl rfl ?_
  refine TOps.next ?_
  refine Tri.cond rfl (fun hc2 => ?_) (fun hc2 => ?_)
  · try simp only [decide_eq_true_eq, decide_eq_false_iff_not, Bool.and_eq_true, Bool.or_eq_true, Bool.not_eq_true', Bool.and_eq_false_iff, Bool.or_eq_false_iff, Bool.not_eq_false', Int.not_lt, Int.not_le, ne_eq, Decidable.not_not, Option.isSome_iff_ne_none, Option.isNone_iff_eq_none] at hc2
    obtain ⟨er, her⟩ : ∃ er, F.err = some er := by
      cases h : F.err with
      | none => rw [h] at hc2; simp at hc2
      | some er => exact ⟨er, rfl⟩
    have hce : F.cutErr arg = some er := by unfold Fm.cutErr Fm.isErr; rw [her]
    have hz1 : G1 = Fm.zero := by rw [← hG1]; unfold Fm.outF; rw [hce]; rfl
    have hz2 : G2 = Fm.zero := by rw [← hG2]; unfold Fm.inF; rw [hce]; rfl
    have hee : e = some er := by rw [← hE, hce]
    refine Tri.seq (Tri.region ?_)
    refine TOps.move rfl rfl ?_
    refine TOps.call (vs := [_]) Try.call14 ⟨rfl, trivial⟩ (num_g e) rfl ?_
    rintro _ _ ⟨rfl, rfl⟩
    refine TOps.move rfl rfl ?_
    refine TOps.eqlI rfl rfl rfl ?_
    refine TOps.move rfl rfl ?_
    refine' TOps.andB 3 rfl rfl rfl rfl (fun hg6_4 => ?_) ?_; rotate_left
    · have hg6_4' := hg6_4
      try simp only [decide_eq_true_eq, decide_eq_false_iff_not, Bool.and_eq_true, Bool.or_eq_true, Bool.not_eq_true', Bool.and_eq_false_iff, Bool.or_eq_false_iff, Bool.not_eq_false', Int.not_lt, Int.not_le, ne_eq, Decidable.not_not] at hg6_4'
      refine TOps.strip 4 true rfl rfl hg6_4 rfl ?_
      refine TOps.loadN rfl ti24 (by first | exact Rd.all (by repeat (first | exact List.Mem.head _ | apply List.Mem.tail)) | (repeat (first | assumption | apply Rd.up))) rfl rfl ?_
      refine TOps.buildStruct (vs := []) (xs := [_, _, _]) [(0, 1), (1, 1), (2, 1)] Try.underlying24 ti24 (fun w => by simp) trivial rfl rfl ?_
      refine TOps.call (vs := [_, _]) Try.call15 ⟨rfl, rfl, trivial⟩ (formulaEq_g hX0 rfZero u1 u2 (fun d hd => by simp [Fm.zero] at hd)) rfl ?_
      rintro _ _ ⟨rfl, rfl⟩
      refine TOps.blk rfl (by repeat (first | exact Ext.refl _ | refine Ext.cons rfl ?_)) (by repeat (first | exact Le.refl _ | apply Le.drop))
    refine TOps.move rfl rfl ?_
    refine' TOps.andB 3 rfl rfl rfl rfl (fun hg6_9 => ?_) ?_; rotate_left
    · have hg6_9' := hg6_9
      try simp only [decide_eq_true_eq, decide_eq_false_iff_not, Bool.and_eq_true, Bool.or_eq_true, Bool.not_eq_true', Bool.and_eq_false_iff, Bool.or_eq_false_iff, Bool.not_eq_false', Int.not_lt, Int.not_le, ne_eq, Decidable.not_not] at hg6_9'
      refine TOps.strip 9 true rfl rfl hg6_9 rfl ?_
      refine TOps.loadN rfl ti24 (by first | exact Rd.all (by repeat (first | exact List.Mem.head _ | apply List.Mem.tail)) | (repeat (first | assumption | apply Rd.up))) rfl rfl ?_
      refine TOps.buildStruct (vs := []) (xs := [_, _, _]) [(0, 1), (1, 1), (2, 1)] Try.underlying24 ti24 (fun w => by simp) trivial rfl rfl ?_
      refine TOps.call (vs := [_, _]) Try.call15 ⟨rfl, rfl, trivial⟩ (formulaEq_g hY0 rfZero u3 u4 (fun d hd => by simp [Fm.zero] at hd)) rfl ?_
      rintro _ _ ⟨rfl, rfl⟩
      refine TOps.blk rfl (by repeat (first | exact Ext.refl _ | refine Ext.cons rfl ?_)) (by repeat (first | exact Le.refl _ | apply Le.drop))
    refine TOps.assign rfl rfl ?_
    refine TOps.next ?_
    refine Tri.ret1 (H' := H) Try.results3 (fun _ _ h => h) (.tmp rfl) l4 ⟨by rw [hee, her, hz1, hz2]; simp, rfl⟩
  try simp only [decide_eq_true_eq, decide_eq_false_iff_not, Bool.and_eq_true, Bool.or_eq_true, Bool.not_eq_true', Bool.and_eq_false_iff, Bool.or_eq_false_iff, Bool.not_eq_false', Int.not_lt, Int.not_le, ne_eq, Decidable.not_not, Option.isSome_iff_ne_none, Option.isNone_iff_eq_none] at hc2
  have hg := (Fm.good_iff F).1 (Fm.err_of (by simpa using hc2))
  refine Tri.fin ?_
  refine Nrm.next ?_
  refine Tri.seq (Tri.region ?_)
  refine TOps.loadN rfl ti24 (by first | exact Rd.all (by repeat (first | exact List.Mem.head _ | apply List.Mem.tail)) | (repeat (first | assumption | apply Rd.up))) rfl rfl ?_
  refine TOps.move rfl rfl ?_
  refine TOps.call (vs := [_, _]) Try.call16 ⟨rfl, rfl, trivial⟩ (rcut_g hF0 hk hg arg ha) rfl ?_
  rintro _ H4 ⟨x, y, rfl, l5, s5, hU, hV⟩
  rw [hE]
  rw [hG1] at hU
  rw [hG2] at hV
  have hU0 := hU
  have hV0 := hV
  obtain ⟨ua, uo, uc, us, rfl, hUN⟩ := hU
  obtain ⟨va, vo, vc, vs, rfl, hVN⟩ := hV
  replace hX0 := hX0.le l5; replace hY0 := hY0.le l5; replace r5 := r5.le l5; replace r6 := r6.le l5
  refine TOps.move rfl rfl ?_
  refine TOps.extract rfl rfl rfl ?_
  refine TOps.extract rfl rfl rfl ?_
  refine TOps.extract rfl rfl rfl ?_
  refine TOps.alloc ti24 rfl (fun b9 => ?_)
  refine TOps.alloc ti24 rfl (fun b10 => ?_)
  refine TOps.storeN rfl rfl ti24 rfl rfl (by repeat (first | exact Upd.here | apply Upd.there)) (by first | decide | (simp; done) | (simp; omega)) ?_
  refine TOps.storeN rfl rfl ti24 rfl rfl (by repeat (first | exact Upd.here | apply Upd.there)) (by first | decide | (simp; done) | (simp; omega)) ?_
  refine TOps.hide (fun H5 l6 s6 r10 => ?_)
  replace r10 : Rd H5 b10 0 [.int .i64 G2.vars, slV va vo G2.nodes.length vc vs, .int .i64 G2.top] := r10
  have r9 : Rd H5 b9 0 [.int .i64 G1.vars, slV ua uo G1.nodes.length uc us, .int .i64 G1.top] := Rd.le (Rd.all (by repeat (first | exact List.Mem.head _ | apply List.Mem.tail))) l6
  replace l6 := l6.trans (Le.drop (Le.refl H4))
  replace hX0 := hX0.le l6; replace hY0 := hY0.le l6; replace r5 := r5.le l6; replace r6 := r6.le l6; replace hU0 := hU0.le l6; replace hV0 := hV0.le l6
  have l7 := l6.trans (l5.trans l4)
  refine TOps.assign rfl rfl ?_
  refine TOps.next ?_
  refine Tri.seq (Tri.region ?_)
  refine TOps.move rfl rfl ?_
  refine TOps.call (vs := [_]) Try.call14 ⟨rfl, trivial⟩ (num_g e) rfl ?_
  rintro _ _ ⟨rfl, rfl⟩
  refine TOps.move rfl rfl ?_
  refine TOps.eqlI rfl rfl rfl ?_
  refine TOps.move rfl rfl ?_
  refine' TOps.andB 3 rfl rfl rfl rfl (fun hg8_4 => ?_) ?_; rotate_left
  · have hg8_4' := hg8_4
    try simp only [decide_eq_true_eq, decide_eq_false_iff_not, Bool.and_eq_true, Bool.or_eq_true, Bool.not_eq_true', Bool.and_eq_false_iff, Bool.or_eq_false_iff, Bool.not_eq_false', Int.not_lt, Int.not_le, ne_eq, Decidable.not_not] at hg8_4'
    refine TOps.strip 4 true rfl rfl hg8_4 rfl ?_
    refine TOps.loadN rfl ti24 (by first | exact Rd.all (by repeat (first | exact List.Mem.head _ | apply List.Mem.tail)) | (repeat (first | assumption | apply Rd.up))) rfl rfl ?_
    refine TOps.loadN rfl ti24 (by first | exact Rd.all (by repeat (first | exact List.Mem.head _ | apply List.Mem.tail)) | (repeat (first | assumption | apply Rd.up))) rfl rfl ?_
    refine TOps.call (vs := [_, _]) Try.call15 ⟨rfl, rfl, trivial⟩ (formulaEq_g hX0 hU0 u1 u2 u2) rfl ?_
    rintro _ _ ⟨rfl, rfl⟩
    refine TOps.blk rfl (by repeat (first | exact Ext.refl _ | refine Ext.cons rfl ?_)) (by repeat (first | exact Le.refl _ | apply Le.drop))
  refine TOps.move rfl rfl ?_
  refine' TOps.andB 3 rfl rfl rfl rfl (fun hg8_9 => ?_) ?_; rotate_left
  · have hg8_9' := hg8_9
    try simp only [decide_eq_true_eq, decide_eq_false_iff_not, Bool.and_eq_true, Bool.or_eq_true, Bool.not_eq_true', Bool.and_eq_false_iff, Bool.or_eq_false_iff, Bool.not_eq_false', Int.not_lt, Int.not_le, ne_eq, Decidable.not_not] at hg8_9'
    refine TOps.strip 9 true rfl rfl hg8_9 rfl ?_
    refine TOps.loadN rfl ti24 (by first | exact Rd.all (by repeat (first | exact List.Mem.head _ | apply List.Mem.tail)) | (repeat (first | assumption | apply Rd.up))) rfl rfl ?_
    refine TOps.loadN rfl ti24 (by first | exact Rd.all (by repeat (first | exact List.Mem.head _ | apply List.Mem.tail)) | (repeat (first | assumption | apply Rd.up))) rfl rfl ?_
    refine TOps.call (vs := [_, _]) Try.call15 ⟨rfl, rfl, trivial⟩ (formulaEq_g hY0 hV0 u3 u4 u4) rfl ?_
    rintro _ _ ⟨rfl, rfl⟩
    refine TOps.blk rfl (by repeat (first | exact Ext.refl _ | refine Ext.cons rfl ?_)) (by repeat (first | exact Le.refl _ | apply Le.drop))
  refine TOps.assign rfl rfl ?_
  refine TOps.next ?_
  refine Tri.ret1 (H' := H) Try.results3 (fun _ _ h => h) (.tmp rfl) l7 ⟨by simp, rfl⟩
end Go.Proofs
