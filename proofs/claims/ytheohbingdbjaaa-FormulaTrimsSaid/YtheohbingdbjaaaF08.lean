import Derived.Test.YtheohbingdbjaaaE08
namespace Go.Proofs
open Go.GL
set_option linter.unusedVariables false
set_option linter.unusedSimpArgs false
def exF08 : Fm := ⟨3, [⟨2, 0, [0, 1]⟩, ⟨4, 2, [0, 2, 3]⟩], 4⟩
theorem exF08_ok : exF08.ok := by
  refine ⟨by unfold I64 exF08; simp, by unfold I64 exF08; simp, ?_, by simp [exF08]⟩
  intro d hd
  simp [exF08] at hd
  rcases hd with rfl | rfl <;> (refine ⟨by unfold I64; simp, by unfold I64; simp, ?_, by simp⟩; intro a ha; simp at ha; unfold I64; omega)
theorem example_g {H : List Ent} : Gives Try.prog 31 [] H (NewF exF08 H) := by
  refine Gives.enter Try.func31 rfl (by exact Try.ntmps31) rfl ?_
  refine Tri.seq (Tri.region ?_)
  refine TOps.alloc ti24 rfl (fun b0 => ?_)
  refine TOps.next ?_
  refine Tri.seq (Tri.region ?_)
  refine TOps.buildSlice (vs := [_, _]) (xs := [_, _]) Try.underlying36 ti3 ⟨rfl, rfl, rfl, rfl, trivial⟩ rfl rfl rfl rfl rfl rfl (by decide) rfl (fun b1 => ?_)
  refine TOps.buildStruct (vs := [(0, _), (2, _)]) (xs := [_, _, _]) [(0, 1), (1, 1), (2, 1)] Try.underlying38 ti38 (fun w => by simp) ⟨rfl, rfl, rfl, rfl, trivial⟩ rfl rfl ?_
  refine TOps.buildSlice (vs := [_, _, _]) (xs := [_, _, _]) Try.underlying36 ti3 ⟨rfl, rfl, rfl, rfl, rfl, rfl, trivial⟩ rfl rfl rfl rfl rfl rfl (by decide) rfl (fun b3 => ?_)
  refine TOps.buildStruct (vs := [(0, _), (1, _), (2, _)]) (xs := [_, _, _]) [(0, 1), (1, 1), (2, 1)] Try.underlying38 ti38 (fun w => by simp) ⟨rfl, rfl, rfl, rfl, rfl, rfl, trivial⟩ rfl rfl ?_
  refine TOps.buildSlice (vs := [_, _]) (xs := [_, _, _, _, _, _]) Try.underlying22 ti38 ⟨rfl, rfl, rfl, rfl, trivial⟩ rfl rfl rfl rfl rfl rfl (by decide) rfl (fun b5 => ?_)
  refine TOps.buildStruct (vs := [(0, _), (1, _), (2, _)]) (xs := [_, _, _]) [(0, 1), (1, 1), (2, 1)] Try.underlying24 ti24 (fun w => by simp) ⟨rfl, rfl, rfl, rfl, rfl, rfl, trivial⟩ rfl rfl ?_
  refine TOps.storeN rfl rfl ti24 rfl rfl (by repeat (first | exact Upd.here | apply Upd.there)) (by first | decide | (simp; done) | (simp; omega)) ?_
  refine TOps.next ?_
  refine Tri.ret1 (H' := _) Try.results31 (fun _ _ h => h) (.cellN rfl rfl ti24 (Rd.all (.tail _ (.tail _ (.tail _ (.head _))))) rfl) (Le.refl _) ⟨(by repeat (first | exact Le.refl _ | apply Le.drop)), (by repeat (first | exact List.Sublist.refl _ | apply List.Sublist.cons)), ?_⟩
  refine ⟨some b5, 0, 2, none, rfl, RNodes.ofRow (E := 38) (sz := 3) (cap := 2) (qs := [(some b1, 0, 2, none), (some b3, 0, 3, none)]) (by exact List.Mem.head _) rfl ?_⟩
  intro i d q hd hq
  rcases i with _ | _ | i
  · simp [exF08] at hd hq; subst hd hq; exact RInts.ofRow (xs := [0, 1]) (.tail _ (.tail _ (.head _)))
  · simp [exF08] at hd hq; subst hd hq; exact RInts.ofRow (xs := [0, 2, 3]) (.tail _ (.head _))
  · simp [exF08] at hd
theorem awake_g {H : List Ent} : Gives Try.prog 9 [] H (R1 (.bool true) H) := by
  have e1 : exF08.setErr 3 = none := by decide
  have e2 : exF08.setErr 1 = none := by decide
  have e3 : exF08.value 3 = true := by decide
  have e4 : exF08.value 1 = false := by decide
  have e5 : exF08.err = none := by decide
  have e6 : exF08.support = 7 := by decide
  refine Gives.enter Try.func9 rfl (by exact Try.ntmps9) rfl ?_
  refine Tri.seq (Tri.region ?_)
  refine TOps.assign rfl rfl ?_
  refine TOps.next ?_
  refine Tri.seq (Tri.region ?_)
  refine TOps.call (vs := []) Try.call31 trivial (example_g) rfl ?_
  rintro _ H1 ⟨l1, s1, hF1⟩
  refine TOps.call (vs := [_, _]) Try.call14 ⟨rfl, rfl, trivial⟩ (value_g hF1 exF08_ok _) rfl ?_
  rintro _ _ ⟨rfl, rfl⟩
  refine TOps.le l1 ?_
  rw [e1, e3]
  refine TOps.move rfl rfl ?_
  refine TOps.extract rfl rfl rfl ?_
  refine TOps.extract rfl rfl rfl ?_
  refine TOps.assign rfl rfl ?_
  refine TOps.assign rfl rfl ?_
  refine TOps.next ?_
  refine Tri.seq (Tri.region ?_)
  refine TOps.call (vs := []) Try.call31 trivial (example_g) rfl ?_
  rintro _ H2 ⟨l2, s2, hF2⟩
  refine TOps.call (vs := [_, _]) Try.call14 ⟨rfl, rfl, trivial⟩ (value_g hF2 exF08_ok _) rfl ?_
  rintro _ _ ⟨rfl, rfl⟩
  refine TOps.le l2 ?_
  rw [e2, e4]
  refine TOps.move rfl rfl ?_
  refine TOps.extract rfl rfl rfl ?_
  refine TOps.extract rfl rfl rfl ?_
  refine TOps.assign rfl rfl ?_
  refine TOps.assign rfl rfl ?_
  refine TOps.next ?_
  refine Tri.seq (Tri.region ?_)
  refine TOps.call (vs := []) Try.call31 trivial (example_g) rfl ?_
  rintro _ H3 ⟨l3, s3, hF3⟩
  refine TOps.call (vs := [_]) Try.call13 ⟨rfl, trivial⟩ (support_g hF3 exF08_ok) rfl ?_
  rintro _ _ ⟨rfl, rfl⟩
  refine TOps.le l3 ?_
  rw [e5, e6]
  refine TOps.move rfl rfl ?_
  refine TOps.extract rfl rfl rfl ?_
  refine TOps.extract rfl rfl rfl ?_
  refine TOps.assign rfl rfl ?_
  refine TOps.assign rfl rfl ?_
  refine TOps.next ?_
  refine Tri.seq (Tri.region ?_)
  refine TOps.move rfl rfl ?_
  refine TOps.eqlNil rfl Try.underlying28 rfl ?_
  refine TOps.move rfl rfl ?_
  refine' TOps.andB 2 rfl rfl rfl rfl (fun hg4_2 => ?_) ?_; rotate_left
  · have hg4_2' := hg4_2
    try simp only [decide_eq_true_eq, decide_eq_false_iff_not, Bool.and_eq_true, Bool.or_eq_true, Bool.not_eq_true', Bool.and_eq_false_iff, Bool.or_eq_false_iff, Bool.not_eq_false', Int.not_lt, Int.not_le, ne_eq, Decidable.not_not] at hg4_2'
    refine TOps.strip 2 true rfl rfl hg4_2 rfl ?_
    refine TOps.move rfl rfl ?_
    refine TOps.eqlNil rfl Try.underlying28 rfl ?_
    refine TOps.blk rfl (by repeat (first | exact Ext.refl _ | refine Ext.cons rfl ?_)) (by repeat (first | exact Le.refl _ | apply Le.drop))
  refine TOps.move rfl rfl ?_
  refine' TOps.andB 2 rfl rfl rfl rfl (fun hg4_6 => ?_) ?_; rotate_left
  · have hg4_6' := hg4_6
    try simp only [decide_eq_true_eq, decide_eq_false_iff_not, Bool.and_eq_true, Bool.or_eq_true, Bool.not_eq_true', Bool.and_eq_false_iff, Bool.or_eq_false_iff, Bool.not_eq_false', Int.not_lt, Int.not_le, ne_eq, Decidable.not_not] at hg4_6'
    refine TOps.strip 6 true rfl rfl hg4_6 rfl ?_
    refine TOps.move rfl rfl ?_
    refine TOps.eqlNil rfl Try.underlying28 rfl ?_
    refine TOps.blk rfl (by repeat (first | exact Ext.refl _ | refine Ext.cons rfl ?_)) (by repeat (first | exact Le.refl _ | apply Le.drop))
  refine TOps.move rfl rfl ?_
  refine' TOps.andB 1 rfl rfl rfl rfl (fun hg4_10 => ?_) ?_; rotate_left
  · have hg4_10' := hg4_10
    try simp only [decide_eq_true_eq, decide_eq_false_iff_not, Bool.and_eq_true, Bool.or_eq_true, Bool.not_eq_true', Bool.and_eq_false_iff, Bool.or_eq_false_iff, Bool.not_eq_false', Int.not_lt, Int.not_le, ne_eq, Decidable.not_not] at hg4_10'
    refine TOps.strip 10 true rfl rfl hg4_10 rfl ?_
    refine TOps.move rfl rfl ?_
    refine TOps.blk rfl (by repeat (first | exact Ext.refl _ | refine Ext.cons rfl ?_)) (by repeat (first | exact Le.refl _ | apply Le.drop))
  refine TOps.move rfl rfl ?_
  refine' TOps.andB 2 rfl rfl rfl rfl (fun hg4_13 => ?_) ?_; rotate_left
  · have hg4_13' := hg4_13
    try simp only [decide_eq_true_eq, decide_eq_false_iff_not, Bool.and_eq_true, Bool.or_eq_true, Bool.not_eq_true', Bool.and_eq_false_iff, Bool.or_eq_false_iff, Bool.not_eq_false', Int.not_lt, Int.not_le, ne_eq, Decidable.not_not] at hg4_13'
    refine TOps.strip 13 true rfl rfl hg4_13 rfl ?_
    refine TOps.move rfl rfl ?_
    refine TOps.not rfl rfl ?_
    refine TOps.blk rfl (by repeat (first | exact Ext.refl _ | refine Ext.cons rfl ?_)) (by repeat (first | exact Le.refl _ | apply Le.drop))
  refine TOps.move rfl rfl ?_
  refine' TOps.andB 2 rfl rfl rfl rfl (fun hg4_17 => ?_) ?_; rotate_left
  · have hg4_17' := hg4_17
    try simp only [decide_eq_true_eq, decide_eq_false_iff_not, Bool.and_eq_true, Bool.or_eq_true, Bool.not_eq_true', Bool.and_eq_false_iff, Bool.or_eq_false_iff, Bool.not_eq_false', Int.not_lt, Int.not_le, ne_eq, Decidable.not_not] at hg4_17'
    refine TOps.strip 17 true rfl rfl hg4_17 rfl ?_
    refine TOps.move rfl rfl ?_
    refine TOps.eqlI rfl rfl rfl ?_
    refine TOps.blk rfl (by repeat (first | exact Ext.refl _ | refine Ext.cons rfl ?_)) (by repeat (first | exact Le.refl _ | apply Le.drop))
  refine TOps.assign rfl rfl ?_
  refine TOps.next ?_
  refine Tri.ret1 (H' := H) Try.results9 (fun _ _ h => h) (.tmp rfl) (Le.refl _) ⟨by simp, rfl⟩
end Go.Proofs
