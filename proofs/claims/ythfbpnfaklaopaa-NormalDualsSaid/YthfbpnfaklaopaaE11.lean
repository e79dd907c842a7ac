import Derived.Test.YthfbpnfaklaopaaD11
namespace Go.Proofs
open Go.GL
set_option linter.unusedVariables false
set_option linter.unusedSimpArgs false
theorem exN_rfc {H : List Ent} {b8 b6 b4 c1 c2 c3 : Nat} (h8 : row (some b8) 54 3 c1 [.int .i64 2, .int .i64 0, slV (some b4) 0 2 2, .int .i64 1, .int .i64 0, slV (some b6) 0 1 1] ∈ H)
    (h4 : row (some b4) 3 1 c2 [.int .i64 0, .int .i64 1] ∈ H) (h6 : row (some b6) 3 1 c3 [.int .i64 2] ∈ H) : RFC H (.agg (List.toArray [.int .i64 2, slV (some b8) 0 2 c1, .int .i64 3])) exN := by
  refine ⟨some b8, 0, c1, none, rfl, RNodesC.ofRow (E := 54) (sz := 3) (cap := c1) (qs := [(some b4, 0, 2, none), (some b6, 0, 1, none)]) h8 rfl ?_⟩
  intro i d q hd hq
  rcases i with _ | _ | i
  · simp [exN] at hd hq; subst hd hq; exact ⟨RInts.ofRow (xs := [0, 1]) h4, Nat.le_refl 2⟩
  · simp [exN] at hd hq; subst hd hq; exact ⟨RInts.ofRow (xs := [2]) h6, Nat.le_refl 1⟩
  · simp [exN] at hd
theorem awake11_g {H : List Ent} : Gives Try.prog 11 [] H (R1 (.bool true) H) := by
  have ke := exN_good.ok
  refine Gives.enter Try.func11 rfl (by exact Try.ntmps11) rfl ?_
  refine Tri.seq (Tri.region ?_)
  refine TOps.assign rfl rfl ?_
  refine TOps.next ?_
  refine Tri.seq (Tri.region ?_)
  refine TOps.buildSlice (vs := [_, _]) (xs := [_, _]) Try.underlying52 ti3 ⟨rfl, rfl, rfl, rfl, trivial⟩ rfl rfl rfl rfl rfl rfl (by decide) rfl (fun b4 => ?_)
  refine TOps.buildStruct (vs := [(0, _), (2, _)]) (xs := [_, _, _]) [(0, 1), (1, 1), (2, 1)] Try.underlying54 ti54 (fun w => by simp) ⟨rfl, rfl, rfl, rfl, trivial⟩ rfl rfl ?_
  refine TOps.buildSlice (vs := [_]) (xs := [_]) Try.underlying52 ti3 ⟨rfl, rfl, trivial⟩ rfl rfl rfl rfl rfl rfl (by decide) rfl (fun b6 => ?_)
  refine TOps.buildStruct (vs := [(0, _), (2, _)]) (xs := [_, _, _]) [(0, 1), (1, 1), (2, 1)] Try.underlying54 ti54 (fun w => by simp) ⟨rfl, rfl, rfl, rfl, trivial⟩ rfl rfl ?_
  refine TOps.buildSlice (vs := [_, _]) (xs := [_, _, _, _, _, _]) Try.underlying22 ti54 ⟨rfl, rfl, rfl, rfl, trivial⟩ rfl rfl rfl rfl rfl rfl (by decide) rfl (fun b8 => ?_)
  refine TOps.buildStruct (vs := [(0, _), (1, _), (2, _)]) (xs := [_, _, _]) [(0, 1), (1, 1), (2, 1)] Try.underlying24 ti24 (fun w => by simp) ⟨rfl, rfl, rfl, rfl, rfl, rfl, trivial⟩ rfl rfl ?_
  refine TOps.alloc ti24 rfl (fun b1 => ?_)
  refine TOps.storeN rfl rfl ti24 rfl rfl (by repeat (first | exact Upd.here | apply Upd.there)) (by first | decide | (simp; done) | (simp; omega)) ?_
  refine TOps.next ?_
  refine Tri.seq (Tri.region ?_)
  refine TOps.loadN rfl ti24 (by first | exact Rd.all (by repeat (first | exact List.Mem.head _ | apply List.Mem.tail)) | (repeat (first | assumption | apply Rd.up))) rfl rfl ?_
  refine TOps.call (vs := [_]) Try.call13 ⟨rfl, trivial⟩ (push_g (exN_rfc (b8 := b8) (b6 := b6) (b4 := b4) (by repeat (first | exact List.Mem.head _ | apply List.Mem.tail)) (by repeat (first | exact List.Mem.head _ | apply List.Mem.tail)) (by repeat (first | exact List.Mem.head _ | apply List.Mem.tail))) ke) rfl ?_
  rintro _ _ ⟨a, c, NN, rfl, hN2, rfl⟩
  rw [exN_pe]
  rw [exN_pf] at hN2 ⊢
  refine TOps.move rfl rfl ?_
  refine TOps.extract rfl rfl rfl ?_
  refine TOps.extract rfl rfl rfl ?_
  refine TOps.alloc ti24 rfl (fun b2 => ?_)
  refine TOps.storeN rfl rfl ti24 rfl rfl (by repeat (first | exact Upd.here | apply Upd.there)) (by first | decide | (simp; done) | (simp; omega)) ?_
  refine TOps.hide (fun H2 l2 s2 r2 => ?_)
  replace r2 : Rd H2 b2 0 [.int .i64 2, slV a 0 4 c, .int .i64 5] := r2
  have hX : RNodes H2 a 0 exO.nodes := hN2.le (l2.trans (Le.sub (List.sublist_append_left _ _)))
  have hL : Le H2 H := l2.trans ((Le.sub (List.sublist_append_right _ _)).trans (Le.drop (Le.drop (Le.drop (Le.drop (Le.refl _))))))
  obtain ⟨nb, aa0, ao0, ac0, as0, rfl, -, hn0⟩ := hX.at (i := 0) (by decide)
  obtain ⟨nb2, aa2, ao2, ac2, as2, e2, -, hn2⟩ := hX.at (i := 2) (by decide)
  obtain ⟨nb3, aa3, ao3, ac3, as3, e3, -, hn3⟩ := hX.at (i := 3) (by decide)
  obtain rfl := Option.some.inj e2
  obtain rfl := Option.some.inj e3
  have h0c := hn0.cells
  have h2c := hn2.cells
  have h3c := hn3.cells
  refine TOps.assign rfl rfl ?_
  refine TOps.next ?_
  refine Tri.seq (Tri.region ?_)
  refine TOps.move rfl rfl ?_
  refine TOps.eqlNil (T := 47) (o := none) rfl Try.underlying28 rfl ?_
  refine TOps.move rfl rfl ?_
  refine' TOps.andB 4 rfl rfl rfl rfl (fun hg3_2 => ?_) ?_; rotate_left
  · have hg3_2' := hg3_2
    try simp only [decide_eq_true_eq, decide_eq_false_iff_not, Bool.and_eq_true, Bool.or_eq_true, Bool.not_eq_true', Bool.and_eq_false_iff, Bool.or_eq_false_iff, Bool.not_eq_false', Int.not_lt, Int.not_le, ne_eq, Decidable.not_not] at hg3_2'
    refine TOps.strip 2 true rfl rfl hg3_2 rfl ?_
    first | refine TOps.fieldB 1 rfl Try.underlying24 rfl rfl ti22 rfl rfl rfl ?_ | refine TOps.fieldN 1 rfl Try.underlying24 rfl rfl ti22 rfl rfl rfl ?_
    refine TOps.load1 rfl ti22 (by first | exact Rd.lit (by repeat (first | exact List.Mem.head _ | apply List.Mem.tail)) rfl | (repeat (first | assumption | exact Rd.fld (by assumption) 1 rfl | apply Rd.up))) rfl ?_
    refine TOps.len rfl Try.underlying22 rfl ?_
    refine TOps.eqlI rfl rfl rfl ?_
    refine TOps.blk rfl (by repeat (first | exact Ext.refl _ | refine Ext.cons rfl ?_)) (by repeat (first | exact Le.refl _ | apply Le.drop))
  refine TOps.move rfl rfl ?_
  refine' TOps.andB 3 rfl rfl rfl rfl (fun hg3_8 => ?_) ?_; rotate_left
  · have hg3_8' := hg3_8
    try simp only [decide_eq_true_eq, decide_eq_false_iff_not, Bool.and_eq_true, Bool.or_eq_true, Bool.not_eq_true', Bool.and_eq_false_iff, Bool.or_eq_false_iff, Bool.not_eq_false', Int.not_lt, Int.not_le, ne_eq, Decidable.not_not] at hg3_8'
    refine TOps.strip 8 true rfl rfl hg3_8 rfl ?_
    first | refine TOps.fieldB 2 rfl Try.underlying24 rfl rfl ti3 rfl rfl rfl ?_ | refine TOps.fieldN 2 rfl Try.underlying24 rfl rfl ti3 rfl rfl rfl ?_
    refine TOps.load1 rfl ti3 (by first | exact Rd.lit (by repeat (first | exact List.Mem.head _ | apply List.Mem.tail)) rfl | (repeat (first | assumption | exact Rd.fld (by assumption) 2 rfl | apply Rd.up))) rfl ?_
    refine TOps.eqlI rfl rfl rfl ?_
    refine TOps.blk rfl (by repeat (first | exact Ext.refl _ | refine Ext.cons rfl ?_)) (by repeat (first | exact Le.refl _ | apply Le.drop))
  refine TOps.move rfl rfl ?_
  refine' TOps.andB 6 rfl rfl rfl rfl (fun hg3_13 => ?_) ?_; rotate_left
  · have hg3_13' := hg3_13
    try simp only [decide_eq_true_eq, decide_eq_false_iff_not, Bool.and_eq_true, Bool.or_eq_true, Bool.not_eq_true', Bool.and_eq_false_iff, Bool.or_eq_false_iff, Bool.not_eq_false', Int.not_lt, Int.not_le, ne_eq, Decidable.not_not] at hg3_13'
    refine TOps.strip 13 true rfl rfl hg3_13 rfl ?_
    first | refine TOps.fieldB 1 rfl Try.underlying24 rfl rfl ti22 rfl rfl rfl ?_ | refine TOps.fieldN 1 rfl Try.underlying24 rfl rfl ti22 rfl rfl rfl ?_
    refine TOps.load1 rfl ti22 (by first | exact Rd.lit (by repeat (first | exact List.Mem.head _ | apply List.Mem.tail)) rfl | (repeat (first | assumption | exact Rd.fld (by assumption) 1 rfl | apply Rd.up))) rfl ?_
    refine TOps.indexAddr (off' := 0 + 2 * 3) rfl rfl Try.underlying22 ti54 (by omega) (by omega) (by simp) rfl ?_
    refine TOps.field0 rfl Try.underlying54 rfl rfl ti3 rfl rfl rfl ?_
    refine TOps.load1 rfl ti3 (h2c.part 0 rfl) rfl ?_
    refine TOps.eqlI rfl rfl rfl ?_
    refine TOps.blk rfl (by repeat (first | exact Ext.refl _ | refine Ext.cons rfl ?_)) (by repeat (first | exact Le.refl _ | apply Le.drop))
  refine TOps.move rfl rfl ?_
  refine' TOps.andB 6 rfl rfl rfl rfl (fun hg3_21 => ?_) ?_; rotate_left
  · have hg3_21' := hg3_21
    try simp only [decide_eq_true_eq, decide_eq_false_iff_not, Bool.and_eq_true, Bool.or_eq_true, Bool.not_eq_true', Bool.and_eq_false_iff, Bool.or_eq_false_iff, Bool.not_eq_false', Int.not_lt, Int.not_le, ne_eq, Decidable.not_not] at hg3_21'
    refine TOps.strip 21 true rfl rfl hg3_21 rfl ?_
    first | refine TOps.fieldB 1 rfl Try.underlying24 rfl rfl ti22 rfl rfl rfl ?_ | refine TOps.fieldN 1 rfl Try.underlying24 rfl rfl ti22 rfl rfl rfl ?_
    refine TOps.load1 rfl ti22 (by first | exact Rd.lit (by repeat (first | exact List.Mem.head _ | apply List.Mem.tail)) rfl | (repeat (first | assumption | exact Rd.fld (by assumption) 1 rfl | apply Rd.up))) rfl ?_
    refine TOps.indexAddr (off' := 0 + 3 * 3) rfl rfl Try.underlying22 ti54 (by omega) (by omega) (by simp) rfl ?_
    refine TOps.field0 rfl Try.underlying54 rfl rfl ti3 rfl rfl rfl ?_
    refine TOps.load1 rfl ti3 (h3c.part 0 rfl) rfl ?_
    refine TOps.eqlI rfl rfl rfl ?_
    refine TOps.blk rfl (by repeat (first | exact Ext.refl _ | refine Ext.cons rfl ?_)) (by repeat (first | exact Le.refl _ | apply Le.drop))
  refine TOps.move rfl rfl ?_
  refine' TOps.andB 6 rfl rfl rfl rfl (fun hg3_29 => ?_) ?_; rotate_left
  · have hg3_29' := hg3_29
    try simp only [decide_eq_true_eq, decide_eq_false_iff_not, Bool.and_eq_true, Bool.or_eq_true, Bool.not_eq_true', Bool.and_eq_false_iff, Bool.or_eq_false_iff, Bool.not_eq_false', Int.not_lt, Int.not_le, ne_eq, Decidable.not_not] at hg3_29'
    refine TOps.strip 29 true rfl rfl hg3_29 rfl ?_
    first | refine TOps.fieldB 1 rfl Try.underlying24 rfl rfl ti22 rfl rfl rfl ?_ | refine TOps.fieldN 1 rfl Try.underlying24 rfl rfl ti22 rfl rfl rfl ?_
    refine TOps.load1 rfl ti22 (by first | exact Rd.lit (by repeat (first | exact List.Mem.head _ | apply List.Mem.tail)) rfl | (repeat (first | assumption | exact Rd.fld (by assumption) 1 rfl | apply Rd.up))) rfl ?_
    refine TOps.indexAddr (off' := 0 + 0 * 3) rfl rfl Try.underlying22 ti54 (by omega) (by omega) (by simp) rfl ?_
    refine TOps.field0 rfl Try.underlying54 rfl rfl ti3 rfl rfl rfl ?_
    refine TOps.load1 rfl ti3 (h0c.part 0 rfl) rfl ?_
    refine TOps.eqlI rfl rfl rfl ?_
    refine TOps.blk rfl (by repeat (first | exact Ext.refl _ | refine Ext.cons rfl ?_)) (by repeat (first | exact Le.refl _ | apply Le.drop))
  refine TOps.assign rfl rfl ?_
  refine TOps.next ?_
  refine Tri.ret1 (H' := H) Try.results11 (fun _ _ h => h) (.tmp rfl) hL ⟨by simp [exO], rfl⟩
theorem same_g {H : List Ent} {fv gv : Value} {F G : Fm} (hF : RF H fv F) (hG : RF H gv G) (o : Option Int) (code : Int) (hk1 : F.nodes.length ≤ 9223372036854775807) (hk2 : ∀ d ∈ F.nodes, d.args.length ≤ 9223372036854775807) (hk3 : ∀ d ∈ G.nodes, d.args.length ≤ 9223372036854775807) :
    Gives Try.prog 15 [fv, errV 47 o, gv, .int .i64 code] H (R1 (.bool (decide (o.getD 0 = code) && decide (F = G))) H) := by
  have hF0 := hF
  have hG0 := hG
  obtain ⟨fa, fo, fc, fs, rfl, hFN⟩ := hF
  obtain ⟨ga, go, gc, gs, rfl, hGN⟩ := hG
  refine Gives.enter Try.func15 rfl (by exact Try.ntmps15) rfl ?_
  refine Tri.seq (Tri.region ?_)
  refine TOps.boxN rfl ti24 rfl rfl (fun b4 => ?_)
  refine TOps.hide (fun H1 l1 s1 r4 => ?_)
  replace hF0 := hF0.le l1; replace hG0 := hG0.le l1
  refine TOps.boxN rfl ti24 rfl rfl (fun b6 => ?_)
  refine TOps.hide (fun H2 l2 s2 r6 => ?_)
  replace hF0 := hF0.le l2; replace hG0 := hG0.le l2; replace r4 := r4.le l2
  refine TOps.assign rfl rfl ?_
  refine TOps.next ?_
  refine Tri.seq (Tri.region ?_)
  refine TOps.move rfl rfl ?_
  refine TOps.call (vs := [_]) Try.call36 ⟨rfl, trivial⟩ (num_g o) rfl ?_
  rintro _ _ ⟨rfl, rfl⟩
  refine TOps.move rfl rfl ?_
  refine TOps.eqlI rfl rfl rfl ?_
  refine TOps.move rfl rfl ?_
  refine' TOps.andB 3 rfl rfl rfl rfl (fun hg1_4 => ?_) ?_; rotate_left
  · have hg1_4' := hg1_4
    try simp only [decide_eq_true_eq, decide_eq_false_iff_not, Bool.and_eq_true, Bool.or_eq_true, Bool.not_eq_true', Bool.and_eq_false_iff, Bool.or_eq_false_iff, Bool.not_eq_false', Int.not_lt, Int.not_le, ne_eq, Decidable.not_not] at hg1_4'
    refine TOps.strip 4 true rfl rfl hg1_4 rfl ?_
    refine TOps.loadN rfl ti24 (by first | exact Rd.all (by repeat (first | exact List.Mem.head _ | apply List.Mem.tail)) | (repeat (first | assumption | apply Rd.up))) rfl rfl ?_
    refine TOps.loadN rfl ti24 (by first | exact Rd.all (by repeat (first | exact List.Mem.head _ | apply List.Mem.tail)) | (repeat (first | assumption | apply Rd.up))) rfl rfl ?_
    refine TOps.call (vs := [_, _]) Try.call37 ⟨rfl, rfl, trivial⟩ (formulaEq_g hF0 hG0 hk1 hk2 hk3) rfl ?_
    rintro _ _ ⟨rfl, rfl⟩
    refine TOps.blk rfl (by repeat (first | exact Ext.refl _ | refine Ext.cons rfl ?_)) (by repeat (first | exact Le.refl _ | apply Le.drop))
  refine TOps.assign rfl rfl ?_
  refine TOps.next ?_
  refine Tri.ret1 (H' := H) Try.results15 (fun _ _ h => h) (.tmp rfl) (l2.trans l1) ⟨rfl, rfl⟩
end Go.Proofs
