import Derived.Test.YtpeobpgfbjghjaaE55
namespace Go.Proofs
open Go.GL
set_option linter.unusedVariables false
set_option linter.unusedSimpArgs false
theorem monitorErrors_g {H : List Ent} {fv : Value} {F : Fm} (hF : RF H fv F) (hk : F.ok) {l : List (Int × Int)} {aa sp : Option Nat} {ao acap : Nat} (hr : RdS H aa ao (actCells l) sp) (hl : l.length ≤ 9223372036854775807) (hb : ∀ a ∈ l, 0 ≤ a.1 ∧ a.1 ≤ 255) (ak ae : Int) (hak : 0 ≤ ak ∧ ak ≤ 255) :
    Gives Try.prog 7 [fv, slV aa ao l.length acap sp, .agg (List.toArray [.int .u8 ak, .int .i64 ae])] H (R1 (.bool true) H) := by
  have hF0 := hF
  obtain ⟨na, off, cap, nsp, rfl, hN⟩ := hF
  refine Gives.enter Try.func7 rfl (by exact Try.ntmps7) rfl ?_
  refine Tri.seq (Tri.region ?_)
  refine TOps.boxN rfl ti24 rfl rfl (fun b3 => ?_)
  refine TOps.hide (fun H1 l1 s1 r1 => ?_)
  replace hF0 := hF0.le l1; replace hr := RdS.le hr l1; replace hN := hN.le l1
  refine TOps.boxN rfl ti55 rfl rfl (fun b5 => ?_)
  refine TOps.hide (fun H2 l2 s2 r2 => ?_)
  replace hF0 := hF0.le l2; replace hr := RdS.le hr l2; replace hN := hN.le l2; replace r1 := r1.le l2; replace l2 := l2.trans l1
  refine TOps.assign rfl rfl ?_
  refine TOps.next ?_
  refine Tri.seq ?_
  refine Tri.seq (Tri.region ?_)
  refine TOps.call (vs := []) Try.call8 trivial (awake55_g) rfl ?_
  rintro _ _ ⟨rfl, rfl⟩
  refine TOps.not rfl rfl ?_
  refine TOps.move rfl rfl ?_
  refine' TOps.orB 3 rfl rfl rfl rfl (fun hg1_2 => ?_) ?_; rotate_left
  · have hg1_2' := hg1_2
    try simp only [decide_eq_true_eq, decide_eq_false_iff_not, Bool.and_eq_true, Bool.or_eq_true, Bool.not_eq_true', Bool.and_eq_false_iff, Bool.or_eq_false_iff, Bool.not_eq_false', Int.not_lt, Int.not_le, ne_eq, Decidable.not_not] at hg1_2'
    refine TOps.strip 2 false rfl rfl hg1_2 rfl ?_
    refine TOps.loadN rfl ti24 (by first | exact Rd.all (by repeat (first | exact List.Mem.head _ | apply List.Mem.tail)) | (repeat (first | assumption | apply Rd.up))) rfl rfl ?_
    refine TOps.call (vs := [_]) Try.call9 ⟨rfl, trivial⟩ (light_g hF0 hk) rfl ?_
    rintro _ _ ⟨rfl, rfl⟩
    refine TOps.not rfl rfl ?_
    refine TOps.blk rfl (by repeat (first | exact Ext.refl _ | refine Ext.cons rfl ?_)) (by repeat (first | exact Le.refl _ | apply Le.drop))
  refine TOps.move rfl rfl ?_
  refine' TOps.orB 3 rfl rfl rfl rfl (fun hg1_7 => ?_) ?_; rotate_left
  · have hg1_7' := hg1_7
    try simp only [decide_eq_true_eq, decide_eq_false_iff_not, Bool.and_eq_true, Bool.or_eq_true, Bool.not_eq_true', Bool.and_eq_false_iff, Bool.or_eq_false_iff, Bool.not_eq_false', Int.not_lt, Int.not_le, ne_eq, Decidable.not_not] at hg1_7'
    refine TOps.strip 7 false rfl rfl hg1_7 rfl ?_
    refine TOps.move rfl rfl ?_
    refine TOps.len rfl Try.underlying25 rfl ?_
    refine TOps.gtr rfl rfl rfl ?_
    refine TOps.blk rfl (by repeat (first | exact Ext.refl _ | refine Ext.cons rfl ?_)) (by repeat (first | exact Le.refl _ | apply Le.drop))
  refine TOps.move rfl rfl ?_
  refine' TOps.orB 3 rfl rfl rfl rfl (fun hg1_12 => ?_) ?_; rotate_left
  · have hg1_12' := hg1_12
    try simp only [decide_eq_true_eq, decide_eq_false_iff_not, Bool.and_eq_true, Bool.or_eq_true, Bool.not_eq_true', Bool.and_eq_false_iff, Bool.or_eq_false_iff, Bool.not_eq_false', Int.not_lt, Int.not_le, ne_eq, Decidable.not_not] at hg1_12'
    refine TOps.strip 12 false rfl rfl hg1_12 rfl ?_
    refine TOps.loadN rfl ti24 (by first | exact Rd.all (by repeat (first | exact List.Mem.head _ | apply List.Mem.tail)) | (repeat (first | assumption | apply Rd.up))) rfl rfl ?_
    refine TOps.call (vs := [_]) Try.call10 ⟨rfl, trivial⟩ (check_g hF0 hk) rfl ?_
    rintro _ _ ⟨rfl, rfl⟩
    refine TOps.neqNil rfl Try.underlying29 rfl ?_
    refine TOps.blk rfl (by repeat (first | exact Ext.refl _ | refine Ext.cons rfl ?_)) (by repeat (first | exact Le.refl _ | apply Le.drop))
  refine TOps.next ?_
  refine Tri.cond rfl (fun hc1 => ?_) (fun hc1 => ?_)
  · try simp only [decide_eq_true_eq, decide_eq_false_iff_not, Bool.and_eq_true, Bool.or_eq_true, Bool.not_eq_true', Bool.and_eq_false_iff, Bool.or_eq_false_iff, Bool.not_eq_false', Int.not_lt, Int.not_le, ne_eq, Decidable.not_not, Option.isSome_iff_ne_none, Option.isNone_iff_eq_none] at hc1
    refine Tri.seq (Tri.region ?_)
    refine TOps.call (vs := []) Try.call8 trivial (awake55_g) rfl ?_
    rintro _ _ ⟨rfl, rfl⟩
    refine TOps.assign rfl rfl ?_
    refine TOps.next ?_
    refine Tri.ret1 (H' := H) Try.results7 (fun _ _ h => h) (.tmp rfl) l2 ⟨rfl, rfl⟩
  try simp only [decide_eq_true_eq, decide_eq_false_iff_not, Bool.and_eq_true, Bool.or_eq_true, Bool.not_eq_true', Bool.and_eq_false_iff, Bool.or_eq_false_iff, Bool.not_eq_false', Int.not_lt, Int.not_le, ne_eq, Decidable.not_not, Option.isSome_iff_ne_none, Option.isNone_iff_eq_none] at hc1
  have he : F.err = none := by simpa using hc1.2
  have hg := (Fm.good_iff F).1 he
  have g0 := hg.v0; have g1 := hg.v1; have g2 := hg.n1
  refine Tri.fin ?_
  refine Nrm.next ?_
  refine Tri.seq (Tri.region ?_)
  refine TOps.assign rfl rfl ?_
  refine TOps.next ?_
  refine Tri.seq (Tri.region ?_)
  refine TOps.move rfl rfl ?_
  refine TOps.call (vs := [_, _]) Try.call19 ⟨rfl, rfl, trivial⟩ (mfailNil_g 0) rfl ?_
  rintro _ _ ⟨rfl, rfl⟩
  refine TOps.move rfl rfl ?_
  refine TOps.extract rfl rfl rfl ?_
  refine TOps.extract rfl rfl rfl ?_
  refine TOps.assign rfl rfl ?_
  refine TOps.assign rfl rfl ?_
  refine TOps.next ?_
  refine Tri.seq (Tri.region ?_)
  refine TOps.move rfl rfl ?_
  refine TOps.call (vs := [_, _]) Try.call20 ⟨rfl, rfl, trivial⟩ (mrepairNil_g 0) rfl ?_
  rintro _ _ ⟨rfl, rfl⟩
  refine TOps.move rfl rfl ?_
  refine TOps.extract rfl rfl rfl ?_
  refine TOps.extract rfl rfl rfl ?_
  refine TOps.assign rfl rfl ?_
  refine TOps.assign rfl rfl ?_
  refine TOps.next ?_
  refine Tri.seq (Tri.region ?_)
  refine TOps.move rfl rfl ?_
  refine TOps.call (vs := [_]) Try.call24 ⟨rfl, trivial⟩ (mmarginNil_g) rfl ?_
  rintro _ _ ⟨zz, rfl, rfl⟩
  refine TOps.move rfl rfl ?_
  refine TOps.extract rfl rfl rfl ?_
  refine TOps.extract rfl rfl rfl ?_
  refine TOps.assign rfl rfl ?_
  refine TOps.assign rfl rfl ?_
  refine TOps.next ?_
  refine Tri.seq (Tri.region ?_)
  refine TOps.move rfl rfl ?_
  refine TOps.call (vs := [_]) Try.call25 ⟨rfl, trivial⟩ (mnextNil_g) rfl ?_
  rintro _ _ ⟨rfl, rfl⟩
  refine TOps.move rfl rfl ?_
  refine TOps.extract rfl rfl rfl ?_
  refine TOps.extract rfl rfl rfl ?_
  refine TOps.assign rfl rfl ?_
  refine TOps.assign rfl rfl ?_
  refine TOps.next ?_
  refine Tri.seq ?_
  refine Tri.seq (Tri.region ?_)
  refine TOps.move rfl rfl ?_
  refine TOps.move rfl rfl ?_
  refine TOps.move rfl rfl ?_
  refine TOps.move rfl rfl ?_
  refine TOps.move rfl rfl ?_
  refine TOps.call (vs := [_]) Try.call22 ⟨rfl, trivial⟩ (mundoNil_g) rfl ?_
  rintro _ _ ⟨rfl, rfl⟩
  refine TOps.buildSlice (vs := [_, _, _, _, _]) (xs := [_, _, _, _, _]) Try.underlying61 ti29 ⟨rfl, rfl, rfl, rfl, rfl, rfl, rfl, rfl, rfl, rfl, trivial⟩ rfl rfl rfl rfl rfl rfl (by decide) rfl (fun b70 => ?_)
  refine TOps.len rfl Try.underlying61 rfl ?_
  refine TOps.move rfl rfl ?_
  refine TOps.next ?_
  refine Tri.range (X := Unit) (fun x k => [(1, slV aa ao l.length acap sp), (3, .pointer (some ⟨b3, 0, none⟩)), (5, .pointer (some ⟨b5, 0, none⟩)), (7, .pointer none), (70, slV (some b70) 0 5 5)]) (fun x k => row (some b70) 29 1 5 [errV 47 (some 1), errV 47 (some 1), errV 47 (some 1), errV 47 (some 1), errV 47 (some 1)] :: H2) (fun x k => True) (by omega) rfl rfl rfl (fun _ _ => ⟨rfl, rfl, rfl, rfl⟩) () trivial ⟨rfl, rfl, rfl, rfl, rfl, trivial⟩ (by repeat (first | exact Le.refl _ | assumption | apply Le.drop)) (fun k x hlt hp => ?_) (fun x ac wc hp hS hM => ?_)
  · skip
    refine Tri.seq (Tri.region ?_)
    refine TOps.indexAddr (off' := k) rfl rfl Try.underlying61 ti29 (by omega) (by omega) (by simp) rfl ?_
    refine TOps.load1 (v := errV 47 (some 1)) rfl ti29 (Rd.lit (List.Mem.head _) (by rcases k with _|_|_|_|_|k <;> first | rfl | omega)) rfl ?_
    refine TOps.assign rfl rfl ?_
    refine TOps.next ?_
    refine Tri.seq (Tri.region ?_)
    refine TOps.move rfl rfl ?_
    refine TOps.call (vs := [_, _]) Try.call23 ⟨rfl, rfl, trivial⟩ (is_g (some 1) 1) rfl ?_
    rintro _ _ ⟨rfl, rfl⟩
    refine TOps.not rfl rfl ?_
    refine TOps.next ?_
    refine Tri.cond rfl (fun hc2 => ?_) (fun hc2 => ?_)
    · try simp only [decide_eq_true_eq, decide_eq_false_iff_not, Bool.and_eq_true, Bool.or_eq_true, Bool.not_eq_true', Bool.and_eq_false_iff, Bool.or_eq_false_iff, Bool.not_eq_false', Int.not_lt, Int.not_le, ne_eq, Decidable.not_not, Option.isSome_iff_ne_none, Option.isNone_iff_eq_none] at hc2
      have hfalse : False := by simp at hc2
      refine Tri.seq (Tri.region ?_)
      refine TOps.assign rfl rfl ?_
      refine TOps.next ?_
      exact hfalse.elim
    try simp only [decide_eq_true_eq, decide_eq_false_iff_not, Bool.and_eq_true, Bool.or_eq_true, Bool.not_eq_true', Bool.and_eq_false_iff, Bool.or_eq_false_iff, Bool.not_eq_false', Int.not_lt, Int.not_le, ne_eq, Decidable.not_not, Option.isSome_iff_ne_none, Option.isNone_iff_eq_none] at hc2
    refine Tri.fin ?_
    refine Nrm.body () trivial ⟨rfl, rfl, rfl, rfl, rfl, rfl, rfl, trivial⟩ (by repeat (first | exact Le.refl _ | assumption | apply Le.drop))
  refine Nrm.of hS hM ?_
  refine Nrm.next ?_
  refine Tri.seq ?_
  refine Tri.seq (Tri.region ?_)
  refine TOps.move rfl rfl ?_
  refine TOps.call (vs := [_]) Try.call12 ⟨rfl, trivial⟩ (mfailedNil_g) rfl ?_
  rintro _ _ ⟨rfl, rfl⟩
  refine TOps.neqIr (r := false) rfl rfl rfl rfl ?_
  refine TOps.move rfl rfl ?_
  refine' TOps.orB 2 rfl rfl rfl rfl (fun hg14_3 => ?_) ?_; rotate_left
  · have hg14_3' := hg14_3
    try simp only [decide_eq_true_eq, decide_eq_false_iff_not, Bool.and_eq_true, Bool.or_eq_true, Bool.not_eq_true', Bool.and_eq_false_iff, Bool.or_eq_false_iff, Bool.not_eq_false', Int.not_lt, Int.not_le, ne_eq, Decidable.not_not] at hg14_3'
    refine TOps.strip 3 false rfl rfl hg14_3 rfl ?_
    refine TOps.move rfl rfl ?_
    refine TOps.call (vs := [_]) Try.call15 ⟨rfl, trivial⟩ (mtopNil_g) rfl ?_
    rintro _ _ ⟨rfl, rfl⟩
    refine TOps.blk rfl (by repeat (first | exact Ext.refl _ | refine Ext.cons rfl ?_)) (by repeat (first | exact Le.refl _ | apply Le.drop))
  refine TOps.move rfl rfl ?_
  refine' TOps.orB 4 rfl rfl rfl rfl (fun hg14_7 => ?_) ?_; rotate_left
  · have hg14_7' := hg14_7
    try simp only [decide_eq_true_eq, decide_eq_false_iff_not, Bool.and_eq_true, Bool.or_eq_true, Bool.not_eq_true', Bool.and_eq_false_iff, Bool.or_eq_false_iff, Bool.not_eq_false', Int.not_lt, Int.not_le, ne_eq, Decidable.not_not] at hg14_7'
    refine TOps.strip 7 false rfl rfl hg14_7 rfl ?_
    refine TOps.move rfl rfl ?_
    refine TOps.call (vs := [_]) Try.call18 ⟨rfl, trivial⟩ (mlogNil_g) rfl ?_
    rintro _ _ ⟨rfl, rfl⟩
    refine TOps.len rfl Try.underlying39 rfl ?_
    refine TOps.neqIr (r := false) rfl rfl rfl rfl ?_
    refine TOps.blk rfl (by repeat (first | exact Ext.refl _ | refine Ext.cons rfl ?_)) (by repeat (first | exact Le.refl _ | apply Le.drop))
  refine TOps.move rfl rfl ?_
  refine' TOps.orB 3 rfl rfl rfl rfl (fun hg14_13 => ?_) ?_; rotate_left
  · have hg14_13' := hg14_13
    try simp only [decide_eq_true_eq, decide_eq_false_iff_not, Bool.and_eq_true, Bool.or_eq_true, Bool.not_eq_true', Bool.and_eq_false_iff, Bool.or_eq_false_iff, Bool.not_eq_false', Int.not_lt, Int.not_le, ne_eq, Decidable.not_not] at hg14_13'
    refine TOps.strip 13 false rfl rfl hg14_13 rfl ?_
    refine TOps.move rfl rfl ?_
    refine TOps.call (vs := [_]) Try.call13 ⟨rfl, trivial⟩ (mcriticalNil_g) rfl ?_
    rintro _ _ ⟨rfl, rfl⟩
    refine TOps.neqIr (r := false) rfl rfl rfl rfl ?_
    refine TOps.blk rfl (by repeat (first | exact Ext.refl _ | refine Ext.cons rfl ?_)) (by repeat (first | exact Le.refl _ | apply Le.drop))
  refine TOps.move rfl rfl ?_
  refine' TOps.orB 3 rfl rfl rfl rfl (fun hg14_18 => ?_) ?_; rotate_left
  · have hg14_18' := hg14_18
    try simp only [decide_eq_true_eq, decide_eq_false_iff_not, Bool.and_eq_true, Bool.or_eq_true, Bool.not_eq_true', Bool.and_eq_false_iff, Bool.or_eq_false_iff, Bool.not_eq_false', Int.not_lt, Int.not_le, ne_eq, Decidable.not_not] at hg14_18'
    refine TOps.strip 18 false rfl rfl hg14_18 rfl ?_
    refine TOps.move rfl rfl ?_
    refine TOps.call (vs := [_]) Try.call14 ⟨rfl, trivial⟩ (mhealingNil_g) rfl ?_
    rintro _ _ ⟨rfl, rfl⟩
    refine TOps.neqIr (r := false) rfl rfl rfl rfl ?_
    refine TOps.blk rfl (by repeat (first | exact Ext.refl _ | refine Ext.cons rfl ?_)) (by repeat (first | exact Le.refl _ | apply Le.drop))
  refine TOps.next ?_
  refine Tri.cond rfl (fun hc3 => ?_) (fun hc3 => ?_)
  · try simp only [decide_eq_true_eq, decide_eq_false_iff_not, Bool.and_eq_true, Bool.or_eq_true, Bool.not_eq_true', Bool.and_eq_false_iff, Bool.or_eq_false_iff, Bool.not_eq_false', Int.not_lt, Int.not_le, ne_eq, Decidable.not_not, Option.isSome_iff_ne_none, Option.isNone_iff_eq_none] at hc3
    have hfalse : False := by simp at hc3
    refine Tri.seq (Tri.region ?_)
    refine TOps.assign rfl rfl ?_
    refine TOps.next ?_
    exact hfalse.elim
  try simp only [decide_eq_true_eq, decide_eq_false_iff_not, Bool.and_eq_true, Bool.or_eq_true, Bool.not_eq_true', Bool.and_eq_false_iff, Bool.or_eq_false_iff, Bool.not_eq_false', Int.not_lt, Int.not_le, ne_eq, Decidable.not_not, Option.isSome_iff_ne_none, Option.isNone_iff_eq_none] at hc3
  refine Tri.fin ?_
  refine Nrm.next ?_
  refine Tri.seq ?_
  refine Tri.le (H' := H2) (Le.drop (Le.refl _)) ?_
  obtain ⟨qs, hqs, hys⟩ := hN.cells
  have hcl := nsCells_length F.nodes qs hqs.1
  have hc1' := nsCells_one' F.nodes qs
  obtain ⟨CELLS, hCE⟩ : ∃ CELLS, CELLS = nsCells F.nodes qs := ⟨_, rfl⟩
  rw [← hCE] at hcl hc1' hys
  have hll : ∀ (x : OX CELLS) (D : List Nat), Le (on D [2] [5] [row (some x.b2) 64 3 0 []] ++ (on D [5] [] [row x.a5.1 64 3 x.c5 CELLS] ++ (on D [9] [10] [row (some x.b9) 24 3 1 [.int .i64 0, slV none 0 0 0, .int .i64 0]] ++ (on D [10] [] [row (some x.b9) 24 3 1 [.int .i64 F.vars, slV x.a5.1 0 (0 + F.nodes.length) x.c5, .int .i64 F.top]] ++ H2)))) H2 := fun x D => Le.sub (by repeat (first | exact List.Sublist.refl _ | apply sub_on))
  refine Tri.drawM (X := OX CELLS) rfl [(1, slV aa ao l.length acap sp), (3, .pointer (some ⟨b3, 0, none⟩)), (5, .pointer (some ⟨b5, 0, none⟩))] [] (fun x => [_, _, slV (some x.b2) 0 0 0, _, _, slV x.a5.1 0 (0 + F.nodes.length) x.c5, _, _, .agg (List.toArray [.int .i64 F.vars, slV x.a5.1 0 (0 + F.nodes.length) x.c5, .int .i64 F.top]), .pointer (some ⟨x.b9, 0, none⟩), undef]) (fun x D => on D [2] [5] [row (some x.b2) 64 3 0 []] ++ (on D [5] [] [row x.a5.1 64 3 x.c5 CELLS] ++ (on D [9] [10] [row (some x.b9) 24 3 1 [.int .i64 0, slV none 0 0 0, .int .i64 0]] ++ (on D [10] [] [row (some x.b9) 24 3 1 [.int .i64 F.vars, slV x.a5.1 0 (0 + F.nodes.length) x.c5, .int .i64 F.top]] ++ H2)))) [2, 5, 9, 10] [0, 1, 0, 0, 8, 28, 0, 64, 255, 0, 1023] [[], [9], [2], [2, 9], [2, 5], [2, 5, 9], [2, 5, 9, 10]] ⟨0, OA.zero _, 0, 0⟩ [9] rfl rfl (by kernel_rfl) (by kernel_rfl) ⟨rfl, rfl, rfl, trivial⟩ trivial (by repeat (first | exact Le.refl _ | assumption | apply Le.drop)) (by
    refine ⟨?_, ?_, ?_, ?_, ?_, ?_, ?_, ?_, ?_, ?_, ?_, trivial⟩
    · refine ⟨fun x S D he hw hd hD _ => ?_, trivial⟩
      refine TOps.field0 (he _ _ rfl) Try.underlying24 rfl rfl ti3 rfl rfl rfl ?_
      exact TOps.fin (Nrm.drawM x (fun _ _ _ => rfl) rfl (by first | exact Le.refl _ | assumption | exact (by repeat (first | exact Le.refl _ | assumption | apply Le.drop))))
    · refine ⟨fun x S D he hw hd hD _ => ?_, trivial⟩
      obtain ⟨h0, -⟩ := hd
      refine TOps.load1 h0 ti3 (Rd.le (by first | exact Rd.lit (by repeat (first | exact List.Mem.head _ | apply List.Mem.tail)) rfl | (repeat (first | assumption | exact Rd.fld (by assumption) 0 rfl | apply Rd.up))) (hll x D)) rfl ?_
      exact TOps.fin (Nrm.drawM x (fun _ _ _ => rfl) rfl (by first | exact Le.refl _ | assumption | exact (by repeat (first | exact Le.refl _ | assumption | apply Le.drop))))
    · refine ⟨fun x S D he hw hd hD _ => ?_, trivial⟩
      replace hD := mem_of_eq (L' := [[], [9]]) hD (by kernel_rfl)
      simp only [List.mem_cons, List.not_mem_nil, or_false] at hD
      rcases hD with rfl | rfl
      all_goals refine TOps.buildSlice0 Try.underlying22 ti64 rfl (fun b52 => ?_)
      all_goals refine TOps.fin (Nrm.drawM {x with b2 := b52} ?_ rfl (Sp.le (by repeat (first | exact Sp.refl _ | exact Sp.sub (by assumption) | refine Sp.cons (by repeat (first | exact Pick.here | apply Pick.there)) ?_ | exact Sp.nil | apply Sp.skip))))
      all_goals (intro j hj hcj; rcases j with _|_|_|_|_|_|_|_|_|_|_|j <;> first | rfl | exact absurd rfl hj | exact absurd hcj (by decide))
    · refine ⟨fun x S D he hw hd hD _ => ?_, trivial⟩
      first | refine TOps.fieldB 1 (he _ _ rfl) Try.underlying24 rfl rfl ti22 rfl rfl rfl ?_ | refine TOps.fieldN 1 (he _ _ rfl) Try.underlying24 rfl rfl ti22 rfl rfl rfl ?_
      exact TOps.fin (Nrm.drawM x (fun _ _ _ => rfl) rfl (by first | exact Le.refl _ | assumption | exact (by repeat (first | exact Le.refl _ | assumption | apply Le.drop))))
    · refine ⟨fun x S D he hw hd hD _ => ?_, trivial⟩
      obtain ⟨h3, -⟩ := hd
      refine TOps.load1 h3 ti22 (Rd.le (by first | exact Rd.lit (by repeat (first | exact List.Mem.head _ | apply List.Mem.tail)) rfl | (repeat (first | assumption | exact Rd.fld (by assumption) 1 rfl | apply Rd.up))) (hll x D)) rfl ?_
      exact TOps.fin (Nrm.drawM x (fun _ _ _ => rfl) rfl (by first | exact Le.refl _ | assumption | exact (by repeat (first | exact Le.refl _ | assumption | apply Le.drop))))
    · refine ⟨fun x S D he hw hd hD _ => ?_, trivial⟩
      obtain ⟨h2, h4, -⟩ := hd
      replace hD := mem_of_eq (L' := [[2], [2, 9]]) hD (by kernel_rfl)
      simp only [List.mem_cons, List.not_mem_nil, or_false] at hD
      rcases hD with rfl | rfl
      all_goals refine TOps.append (ys := CELLS) h2 h4 Try.underlying22 ti64 rfl (fun _ _ => (by repeat (first | exact Upd.here | apply Upd.there))) (RdS.le hys (hll x _)) hcl rfl hc1' (by omega) (by omega) rfl (fun a' c' ha' => ?_)
      all_goals refine TOps.fin (Nrm.drawM {x with a5 := ⟨a', ha'⟩, c5 := c'} ?_ rfl (Sp.le (by repeat (first | exact Sp.refl _ | exact Sp.sub (by assumption) | refine Sp.cons (by repeat (first | exact Pick.here | apply Pick.there)) ?_ | exact Sp.nil | apply Sp.skip))))
      all_goals (intro j hj hcj; rcases j with _|_|_|_|_|_|_|_|_|_|_|j <;> first | rfl | exact absurd rfl hj | exact absurd hcj (by decide))
    · refine ⟨fun x S D he hw hd hD _ => ?_, trivial⟩
      first | refine TOps.fieldB 2 (he _ _ rfl) Try.underlying24 rfl rfl ti3 rfl rfl rfl ?_ | refine TOps.fieldN 2 (he _ _ rfl) Try.underlying24 rfl rfl ti3 rfl rfl rfl ?_
      exact TOps.fin (Nrm.drawM x (fun _ _ _ => rfl) rfl (by first | exact Le.refl _ | assumption | exact (by repeat (first | exact Le.refl _ | assumption | apply Le.drop))))
    · refine ⟨fun x S D he hw hd hD _ => ?_, trivial⟩
      obtain ⟨h6, -⟩ := hd
      refine TOps.load1 h6 ti3 (Rd.le (by first | exact Rd.lit (by repeat (first | exact List.Mem.head _ | apply List.Mem.tail)) rfl | (repeat (first | assumption | exact Rd.fld (by assumption) 2 rfl | apply Rd.up))) (hll x D)) rfl ?_
      exact TOps.fin (Nrm.drawM x (fun _ _ _ => rfl) rfl (by first | exact Le.refl _ | assumption | exact (by repeat (first | exact Le.refl _ | assumption | apply Le.drop))))
    · refine ⟨fun x S D he hw hd hD _ => ?_, trivial⟩
      obtain ⟨h1, h5, h7, -⟩ := hd
      refine TOps.buildStruct (vs := [(0, _), (1, _), (2, _)]) (xs := [_, _, _]) [(0, 1), (1, 1), (2, 1)] Try.underlying24 ti24 (fun w => by simp) ⟨rfl, h1, rfl, h5, rfl, h7, trivial⟩ rfl rfl ?_
      exact TOps.fin (Nrm.drawM x (fun _ _ _ => rfl) rfl (by first | exact Le.refl _ | assumption | exact (by repeat (first | exact Le.refl _ | assumption | apply Le.drop))))
    · refine ⟨fun x S D he hw hd hD _ => ?_, trivial⟩
      replace hD := mem_of_eq (L' := [[], [2], [2, 5]]) hD (by kernel_rfl)
      simp only [List.mem_cons, List.not_mem_nil, or_false] at hD
      rcases hD with rfl | rfl | rfl
      all_goals refine TOps.alloc ti24 rfl (fun b67 => ?_)
      all_goals refine TOps.fin (Nrm.drawM {x with b9 := b67} ?_ rfl (Sp.le (by repeat (first | exact Sp.refl _ | exact Sp.sub (by assumption) | refine Sp.cons (by repeat (first | exact Pick.here | apply Pick.there)) ?_ | exact Sp.nil | apply Sp.skip))))
      all_goals (intro j hj hcj; rcases j with _|_|_|_|_|_|_|_|_|_|_|j <;> first | rfl | exact absurd rfl hj | exact absurd hcj (by decide))
    · refine ⟨fun x S D he hw hd hD _ => ?_, trivial⟩
      obtain ⟨h9, h8, h5, h0, h1, h2, h3, h4, _, h6, h7, _, _, -⟩ := hd
      replace hD := mem_of_eq (L' := [[2, 5, 9]]) hD (by kernel_rfl)
      simp only [List.mem_cons, List.not_mem_nil, or_false] at hD
      rcases hD with rfl
      all_goals refine TOps.storeN h9 h8 ti24 rfl rfl (by repeat (first | exact Upd.here | apply Upd.there)) (by simp) ?_
      all_goals exact TOps.fin (Nrm.drawM x (fun _ _ _ => rfl) rfl (Sp.le (by repeat (first | exact Sp.refl _ | exact Sp.sub (by assumption) | refine Sp.cons (by repeat (first | exact Pick.here | apply Pick.there)) ?_ | exact Sp.nil | apply Sp.skip))))
    ) (fun z => ?_)
  clear hll
  obtain ⟨zb2, ⟨oa, hoa⟩, oc, ob⟩ := z
  dsimp only
  rw [Nat.zero_add]
  refine Nrm.le (H' := row (some ob) 24 3 1 [.int .i64 F.vars, slV oa 0 F.nodes.length oc, .int .i64 F.top] :: row oa 64 3 oc CELLS :: H2) (Sp.le (by repeat (first | exact Sp.refl _ | exact Sp.sub (by assumption) | refine Sp.cons (by repeat (first | exact Pick.here | apply Pick.there)) ?_ | exact Sp.nil | apply Sp.skip))) ?_
  have hRF : RF (row (some ob) 24 3 1 [.int .i64 F.vars, slV oa 0 F.nodes.length oc, .int .i64 F.top] :: row oa 64 3 oc CELLS :: H2) (.agg (List.toArray [.int .i64 F.vars, slV oa 0 F.nodes.length oc, .int .i64 F.top])) F := ⟨oa, 0, oc, none, rfl, RNodes.ofA (E := 64) (sz := 3) (cap := oc) (by rw [← hCE]; exact List.Mem.tail _ (List.Mem.head _)) (ArgsIn.le hqs (Le.drop (Le.drop (Le.refl _)))) (fun h => hoa (fun h0 => h (List.eq_nil_of_length_eq_zero (by rw [h0] at hcl; simp at hcl; omega))))⟩
  refine Nrm.next ?_
  refine Tri.seq (Tri.region ?_)
  refine TOps.loadN rfl ti24 (by first | exact Rd.all (by repeat (first | exact List.Mem.head _ | apply List.Mem.tail)) | (repeat (first | assumption | apply Rd.up))) rfl rfl ?_
  refine TOps.move rfl rfl ?_
  refine TOps.call (vs := [_, _]) Try.call11 ⟨rfl, rfl, trivial⟩ (playedN_g hRF hg (RdS.up (RdS.up hr)) hl hb) rfl ?_
  rintro _ _ ⟨m, nv, la, lcap, N, rfl, hFN, hla, rfl⟩
  have hok := (Reach.acts F l).ok
  generalize F.acts l = Z at *
  have hff := hok.lt
  have hll4 := hok.len
  have hcz := logCells_length Z.log
  refine TOps.le (H' := row (some m) 70 5 1 [.int .i64 F.vars, nv, .int .i64 F.top, .int .i64 Z.f, slV la 0 Z.log.length lcap] :: row la 42 3 lcap (logCells Z.log) :: row oa 64 3 oc CELLS :: row (some ob) 24 3 1 [.int .i64 F.vars, slV oa 0 F.nodes.length oc, .int .i64 F.top] :: (N ++ H2)) Le.mid2 ?_
  have hFB : RF (N ++ H2) (.agg (List.toArray [.int .i64 F.vars, nv, .int .i64 F.top])) F := hFN.le (Le.sub (List.sublist_append_left _ _))
  have lB : Le (N ++ H2) H2 := Le.sub (List.sublist_append_right _ _)
  replace r2 := r2.le lB; replace lB := lB.trans l2
  clear hRF hF0 hr hN hqs hys r1 hFN l1 l2
  generalize N ++ H2 = HB at *
  have hl3 : RdS (row (some m) 70 5 1 [.int .i64 F.vars, nv, .int .i64 F.top, .int .i64 Z.f, slV la 0 Z.log.length lcap] :: row la 42 3 lcap (logCells Z.log) :: row oa 64 3 oc CELLS :: row (some ob) 24 3 1 [.int .i64 F.vars, slV oa 0 F.nodes.length oc, .int .i64 F.top] :: HB) la 0 (logCells Z.log) := RdS.ofRowA (List.Mem.tail _ (List.Mem.head _)) (fun h => hla (fun h0 => h (by rw [h0]; rfl)))
  refine TOps.assign rfl rfl ?_
  refine TOps.next ?_
  refine Tri.seq ?_
  refine Tri.seq (Tri.region ?_)
  refine TOps.move rfl rfl ?_
  refine TOps.eqlPtrNil rfl Try.underlying31 rfl ?_
  refine TOps.next ?_
  refine Tri.cond rfl (fun hc4 => ?_) (fun hc4 => ?_)
  · exact absurd hc4 (by first | decide | simp)
  try simp only [decide_eq_true_eq, decide_eq_false_iff_not, Bool.and_eq_true, Bool.or_eq_true, Bool.not_eq_true', Bool.and_eq_false_iff, Bool.or_eq_false_iff, Bool.not_eq_false', Int.not_lt, Int.not_le, ne_eq, Decidable.not_not, Option.isSome_iff_ne_none, Option.isNone_iff_eq_none] at hc4
  refine Tri.fin ?_
  refine Nrm.next ?_
  refine Tri.seq (Tri.region ?_)
  refine TOps.move rfl rfl ?_
  refine TOps.call (vs := [_]) Try.call12 ⟨rfl, trivial⟩ (mfailed_g (F := F) (nv := nv) (f := Z.f) (Rd.all (List.Mem.head _)) (hFB.le (Le.drop (Le.drop (Le.drop (Le.drop (Le.refl _)))))) hg hff) rfl ?_
  rintro _ _ ⟨rfl, rfl⟩
  refine TOps.move rfl rfl ?_
  refine TOps.call (vs := [_]) Try.call15 ⟨rfl, trivial⟩ (mtop_g (F := F) (nv := nv) (f := Z.f) (Rd.all (List.Mem.head _)) (hFB.le (Le.drop (Le.drop (Le.drop (Le.drop (Le.refl _)))))) hg hff) rfl ?_
  rintro _ _ ⟨rfl, rfl⟩
  refine TOps.move rfl rfl ?_
  refine TOps.call (vs := [_]) Try.call18 ⟨rfl, trivial⟩ (mlog_g (l := Z.log) (Rd.all (List.Mem.head _)) hl3 hll4) rfl ?_
  rintro _ _ ⟨ka, kcap, rfl, hka, rfl⟩
  refine TOps.assign rfl rfl ?_
  refine TOps.assign rfl rfl ?_
  refine TOps.assign rfl rfl ?_
  refine TOps.next ?_
  refine Tri.seq ?_
  refine Tri.seq (Tri.region ?_)
  refine TOps.move rfl rfl ?_
  refine TOps.len rfl Try.underlying39 rfl ?_
  refine TOps.move rfl rfl ?_
  refine TOps.next ?_
  refine Tri.range (X := List Value) (fun x k => [(5, .pointer (some ⟨b5, 0, none⟩)), (18, .pointer (some ⟨ob, 0, none⟩)), (19, .pointer (some ⟨m, 0, none⟩)), (20, .int .i64 Z.f), (21, .bool (F.value (Z.f : Nat))), (22, slV ka 0 Z.log.length kcap)]) (fun x k => row ka 42 3 kcap x :: row (some m) 70 5 1 [.int .i64 F.vars, nv, .int .i64 F.top, .int .i64 Z.f, slV la 0 Z.log.length lcap] :: row la 42 3 lcap (logCells Z.log) :: row oa 64 3 oc CELLS :: row (some ob) 24 3 1 [.int .i64 F.vars, slV oa 0 F.nodes.length oc, .int .i64 F.top] :: HB) (fun x k => x.length = Z.log.length * 3 ∧ ∀ j, k * 3 ≤ j → x[j]? = (logCells Z.log)[j]?) (by omega) rfl rfl rfl (fun _ _ => ⟨rfl, rfl, rfl, rfl⟩) (logCells Z.log) ⟨hcz, fun j _ => rfl⟩ ⟨rfl, rfl, rfl, rfl, rfl, rfl, trivial⟩ (Le.refl _) (fun k x hlt hp => ?_) (fun x ac wc hp hS hM => ?_)
  · skip
    obtain ⟨hp1, hp2⟩ := hp
    obtain ⟨kb, rfl⟩ := hka (fun h => by rw [h] at hcz; simp at hcz; omega)
    have hev := hok.ev _ (List.getElem_mem hlt)
    have hg0 := logCells_get hlt 0 (.int .i64 Z.log[k].ev) rfl
    rw [Nat.add_zero, ← hp2 _ (Nat.le_refl _)] at hg0
    generalize Z.log[k].ev = ev at *
    refine Tri.seq (Tri.region ?_)
    refine TOps.move rfl rfl ?_
    refine TOps.assign rfl rfl ?_
    refine TOps.next ?_
    refine Tri.region ?_
    refine TOps.move rfl rfl ?_
    refine TOps.move rfl rfl ?_
    refine TOps.indexAddr (off' := k * 3) rfl rfl Try.underlying39 ti42 (by omega) (by omega) (by simp) rfl ?_
    refine TOps.field0 rfl Try.underlying42 rfl rfl ti3 rfl rfl rfl ?_
    refine TOps.load1 rfl ti3 (Rd.lit (List.Mem.head _) hg0) rfl ?_
    refine TOps.add (r := ev + 1) rfl rfl (wrapI (by omega) (by omega)) rfl ?_
    refine TOps.indexAddr (off' := k * 3) rfl rfl Try.underlying39 ti42 (by omega) (by omega) (by simp) rfl ?_
    refine TOps.field0 rfl Try.underlying42 rfl rfl ti3 rfl rfl rfl ?_
    refine TOps.store1 rfl rfl ti3 rfl rfl Upd.here (by omega) ?_
    refine TOps.fin ?_
    refine Nrm.body (x.set (k * 3) (.int .i64 (ev + 1))) ⟨by rw [List.length_set]; exact hp1, fun j hj => by rw [List.getElem?_set_ne (by omega)]; exact hp2 j (by omega)⟩ ⟨rfl, rfl, rfl, rfl, rfl, rfl, rfl, rfl, trivial⟩ (Le.refl _)
  obtain ⟨hp1, hp2⟩ := hp
  generalize x = LC at *
  refine Nrm.of hS hM ?_
  refine Nrm.next ?_
  refine Tri.seq ?_
  refine Tri.seq (Tri.region ?_)
  first | refine TOps.fieldB 1 rfl Try.underlying24 rfl rfl ti22 rfl rfl rfl ?_ | refine TOps.fieldN 1 rfl Try.underlying24 rfl rfl ti22 rfl rfl rfl ?_
  refine TOps.load1 rfl ti22 (by first | exact Rd.lit (by repeat (first | exact List.Mem.head _ | apply List.Mem.tail)) rfl | (repeat (first | assumption | exact Rd.fld (by assumption) 1 rfl | apply Rd.up))) rfl ?_
  refine TOps.len rfl Try.underlying22 rfl ?_
  refine TOps.move rfl rfl ?_
  refine TOps.next ?_
  refine Tri.range (X := List Value) (fun x k => [(5, .pointer (some ⟨b5, 0, none⟩)), (18, .pointer (some ⟨ob, 0, none⟩)), (19, .pointer (some ⟨m, 0, none⟩)), (20, .int .i64 Z.f), (21, .bool (F.value (Z.f : Nat))), (22, slV ka 0 Z.log.length kcap)]) (fun x k => row oa 64 3 oc x :: row (some ob) 24 3 1 [.int .i64 F.vars, slV oa 0 F.nodes.length oc, .int .i64 F.top] :: row ka 42 3 kcap LC :: row (some m) 70 5 1 [.int .i64 F.vars, nv, .int .i64 F.top, .int .i64 Z.f, slV la 0 Z.log.length lcap] :: row la 42 3 lcap (logCells Z.log) :: HB) (fun x k => x.length = F.nodes.length * 3) (by omega) rfl rfl rfl (fun _ _ => ⟨rfl, rfl, rfl, rfl⟩) CELLS hcl ⟨rfl, rfl, rfl, rfl, rfl, rfl, trivial⟩ (Sp.le (by repeat (first | exact Sp.refl _ | exact Sp.sub (by assumption) | refine Sp.cons (by repeat (first | exact Pick.here | apply Pick.there)) ?_ | exact Sp.nil | apply Sp.skip))) (fun k x hlt hp => ?_) (fun x ac wc hp hS hM => ?_)
  · skip
    obtain ⟨ob2, rfl⟩ := hoa (fun h => by rw [h] at hcl; simp at hcl; omega)
    refine Tri.seq (Tri.region ?_)
    refine TOps.move rfl rfl ?_
    refine TOps.assign rfl rfl ?_
    refine TOps.next ?_
    refine Tri.region ?_
    first | refine TOps.fieldB 1 rfl Try.underlying24 rfl rfl ti22 rfl rfl rfl ?_ | refine TOps.fieldN 1 rfl Try.underlying24 rfl rfl ti22 rfl rfl rfl ?_
    refine TOps.load1 rfl ti22 (Rd.lit (List.Mem.tail _ (List.Mem.head _)) rfl) rfl ?_
    refine TOps.move rfl rfl ?_
    refine TOps.buildStruct (vs := [(0, _)]) (xs := [_, _, _]) [(0, 1), (1, 1), (2, 1)] Try.underlying64 ti64 (fun w => by simp) ⟨rfl, rfl, trivial⟩ rfl rfl ?_
    refine TOps.indexAddr (off' := k * 3) rfl rfl Try.underlying22 ti64 (by omega) (by omega) (by simp) rfl ?_
    refine TOps.storeN rfl rfl ti64 rfl rfl Upd.here (by omega) ?_
    refine TOps.fin ?_
    refine Nrm.body (setL x (k * 3) [.int .i64 0, .int .i64 0, slV none 0 0 0]) (by rw [setL_len]; exact hp) ⟨rfl, rfl, rfl, rfl, rfl, rfl, rfl, rfl, trivial⟩ (Le.refl _)
  have hFR : RF (row oa 64 3 oc x :: row (some ob) 24 3 1 [.int .i64 F.vars, slV oa 0 F.nodes.length oc, .int .i64 F.top] :: row ka 42 3 kcap LC :: HB) (.agg (List.toArray [.int .i64 F.vars, nv, .int .i64 F.top])) F := hFB.le (Le.drop (Le.drop (Le.drop (Le.refl _))))
  have r5 : Rd (row oa 64 3 oc x :: row (some ob) 24 3 1 [.int .i64 F.vars, slV oa 0 F.nodes.length oc, .int .i64 F.top] :: row ka 42 3 kcap LC :: HB) b5 0 [.int .u8 ak, .int .i64 ae] := r2.le (Le.drop (Le.drop (Le.drop (Le.refl _))))
  have lR : Le (row oa 64 3 oc x :: row (some ob) 24 3 1 [.int .i64 F.vars, slV oa 0 F.nodes.length oc, .int .i64 F.top] :: row ka 42 3 kcap LC :: HB) H := (Le.drop (Le.drop (Le.drop (Le.refl _)))).trans lB
  have hMM : Mem (row (some m) 70 5 1 [.int .i64 F.vars, nv, .int .i64 F.top, .int .i64 Z.f, slV la 0 Z.log.length lcap] :: row la 42 3 lcap (logCells Z.log) :: row oa 64 3 oc x :: row (some ob) 24 3 1 [.int .i64 F.vars, slV oa 0 F.nodes.length oc, .int .i64 F.top] :: row ka 42 3 kcap LC :: HB) wc := (show Le _ _ from (Sp.le (by repeat (first | exact Sp.refl _ | exact Sp.sub (by assumption) | refine Sp.cons (by repeat (first | exact Pick.here | apply Pick.there)) ?_ | exact Sp.nil | apply Sp.skip)))) wc hM
  clear hM
  have hM := hMM
  clear hMM
  generalize row oa 64 3 oc x :: row (some ob) 24 3 1 [.int .i64 F.vars, slV oa 0 F.nodes.length oc, .int .i64 F.top] :: row ka 42 3 kcap LC :: HB = H7 at *
  have hF7 : ∀ (a b : Ent), RF (a :: b :: H7) (.agg (List.toArray [.int .i64 F.vars, nv, .int .i64 F.top])) F := fun a b => hFR.le (Le.drop (Le.drop (Le.refl _)))
  refine Nrm.of hS hM ?_
  refine Nrm.next ?_
  refine Tri.seq (Tri.region ?_)
  refine TOps.assign rfl rfl ?_
  refine TOps.next ?_
  refine Tri.seq ?_
  refine Tri.seq (Tri.region ?_)
  refine TOps.field0 rfl Try.underlying55 rfl rfl ti5 rfl rfl rfl ?_
  refine TOps.load1 rfl ti5 ((r5.up.up).fld 0 rfl) rfl ?_
  refine TOps.rem rfl rfl (by decide) rfl rfl ?_
  refine TOps.eqlI rfl rfl rfl ?_
  refine TOps.next ?_
  refine Tri.cond rfl (fun hc5 => ?_) (fun hc5 => ?_)
  · try simp only [decide_eq_true_eq, decide_eq_false_iff_not, Bool.and_eq_true, Bool.or_eq_true, Bool.not_eq_true', Bool.and_eq_false_iff, Bool.or_eq_false_iff, Bool.not_eq_false', Int.not_lt, Int.not_le, ne_eq, Decidable.not_not, Option.isSome_iff_ne_none, Option.isNone_iff_eq_none] at hc5
    obtain ⟨fl, hfl⟩ : ∃ fl, fl = true := ⟨_, rfl⟩
    have q1 : F.play Z ae true = F.play Z ae fl := by rw [hfl]
    have q2 : F.playErr Z ae true = F.playErr Z ae fl := by rw [hfl]
    refine Tri.region ?_
    refine TOps.move rfl rfl ?_
    first | refine TOps.fieldB 1 rfl Try.underlying55 rfl rfl ti3 rfl rfl rfl ?_ | refine TOps.fieldN 1 rfl Try.underlying55 rfl rfl ti3 rfl rfl rfl ?_
    refine TOps.load1 rfl ti3 ((r5.up.up).fld 1 rfl) rfl ?_
    refine TOps.call (vs := [_, _]) Try.call19 ⟨rfl, rfl, trivial⟩ (mfail_g hFR hg hok hla ae) rfl ?_
    rintro _ _ ⟨la', lcap', hla', rfl, rfl⟩
    rw [q1] at hla' ⊢
    rw [q2]
    refine TOps.move rfl rfl ?_
    refine TOps.extract rfl rfl rfl ?_
    refine TOps.extract rfl rfl rfl ?_
    refine TOps.assign rfl rfl ?_
    refine TOps.fin ?_
    refine Nrm.next ?_
    refine Tri.seq ?_
    refine Tri.seq (Tri.region ?_)
    refine TOps.move rfl rfl ?_
    refine TOps.eqlNil (T := 47) (o := F.playErr Z ae fl) rfl Try.underlying29 rfl ?_
    refine TOps.move rfl rfl ?_
    refine' TOps.andBH (H2 := row (some m) 70 5 1 [.int .i64 F.vars, nv, .int .i64 F.top, .int .i64 Z.f, slV la' 0 Z.log.length lcap'] :: row la' 42 3 lcap' (logCells Z.log) :: H7) 3 rfl rfl rfl rfl (fun hg35_2 => (by obtain ⟨e, hpe⟩ : ∃ e, F.playErr Z ae fl = some e := (by cases h : F.playErr Z ae fl with | none => rw [h] at hg35_2; cases hg35_2 | some e => exact ⟨e, rfl⟩); rw [Fm.play_err hpe]; exact Le.refl _)) (fun hg35_2 => ?_) ?_; rotate_left
    · have hg35_2' := hg35_2
      try simp only [decide_eq_true_eq, decide_eq_false_iff_not, Bool.and_eq_true, Bool.or_eq_true, Bool.not_eq_true', Bool.and_eq_false_iff, Bool.or_eq_false_iff, Bool.not_eq_false', Int.not_lt, Int.not_le, ne_eq, Decidable.not_not] at hg35_2'
      refine TOps.strip 2 true rfl rfl hg35_2 rfl ?_
      refine TOps.move rfl rfl ?_
      refine TOps.call (vs := [_]) Try.call22 ⟨rfl, trivial⟩ (mundo_g hg (hok.play ae fl) hla') rfl ?_
      rintro _ _ ⟨hla2, rfl, rfl⟩
      have hpe : F.playErr Z ae fl = none := by cases h : F.playErr Z ae fl with | none => rfl | some e => rw [h] at hg35_2; cases hg35_2
      obtain ⟨n, hn⟩ := Int.eq_ofNat_of_zero_le (Fm.playErr_none hpe).1.1
      rw [hn] at hpe
      obtain ⟨u1, u2, -⟩ := Fm.undo_play hpe
      rw [hn, u2, u1]
      refine TOps.neqNil (T := 47) (o := none) rfl Try.underlying29 rfl ?_
      refine TOps.blk rfl (by repeat (first | exact Ext.refl _ | refine Ext.cons rfl ?_)) (by repeat (first | exact Le.refl _ | apply Le.drop))
    refine TOps.next ?_
    refine Tri.cond rfl (fun hc6 => ?_) (fun hc6 => ?_)
    · try simp only [decide_eq_true_eq, decide_eq_false_iff_not, Bool.and_eq_true, Bool.or_eq_true, Bool.not_eq_true', Bool.and_eq_false_iff, Bool.or_eq_false_iff, Bool.not_eq_false', Int.not_lt, Int.not_le, ne_eq, Decidable.not_not, Option.isSome_iff_ne_none, Option.isNone_iff_eq_none] at hc6
      have hfalse : False := by simp at hc6
      refine Tri.seq (Tri.region ?_)
      refine TOps.assign rfl rfl ?_
      refine TOps.next ?_
      exact hfalse.elim
    try simp only [decide_eq_true_eq, decide_eq_false_iff_not, Bool.and_eq_true, Bool.or_eq_true, Bool.not_eq_true', Bool.and_eq_false_iff, Bool.or_eq_false_iff, Bool.not_eq_false', Int.not_lt, Int.not_le, ne_eq, Decidable.not_not, Option.isSome_iff_ne_none, Option.isNone_iff_eq_none] at hc6
    refine Tri.fin ?_
    refine Nrm.next ?_
    refine Tri.seq (Tri.region ?_)
    have hlz : Z.log ≠ [] → ∃ b, la' = some b := by
      cases hpe : F.playErr Z ae fl with
      | some e => rw [Fm.play_err hpe] at hla'; exact hla'
      | none => rw [Fm.play_ok hpe] at hla'; exact fun _ => hla' (by simp)
    refine TOps.move rfl rfl ?_
    refine TOps.call (vs := [_]) Try.call12 ⟨rfl, trivial⟩ (mfailed_g (F := F) (nv := nv) (f := Z.f) (Rd.all (List.Mem.head _)) (hF7 _ _) hg hff) rfl ?_
    rintro _ _ ⟨rfl, rfl⟩
    refine TOps.move rfl rfl ?_
    refine TOps.eqlIr (r := true) rfl rfl (by simp) rfl ?_
    refine TOps.move rfl rfl ?_
    refine' TOps.andB 4 rfl rfl rfl rfl (fun hg37_4 => ?_) ?_; rotate_left
    · have hg37_4' := hg37_4
      try simp only [decide_eq_true_eq, decide_eq_false_iff_not, Bool.and_eq_true, Bool.or_eq_true, Bool.not_eq_true', Bool.and_eq_false_iff, Bool.or_eq_false_iff, Bool.not_eq_false', Int.not_lt, Int.not_le, ne_eq, Decidable.not_not] at hg37_4'
      refine TOps.strip 4 true rfl rfl hg37_4 rfl ?_
      refine TOps.move rfl rfl ?_
      refine TOps.call (vs := [_]) Try.call15 ⟨rfl, trivial⟩ (mtop_g (F := F) (nv := nv) (f := Z.f) (Rd.all (List.Mem.head _)) (hF7 _ _) hg hff) rfl ?_
      rintro _ _ ⟨rfl, rfl⟩
      refine TOps.move rfl rfl ?_
      refine TOps.eqlBr (r := true) rfl rfl (by simp) Try.underlying4 rfl ?_
      refine TOps.blk rfl (by repeat (first | exact Ext.refl _ | refine Ext.cons rfl ?_)) (by repeat (first | exact Le.refl _ | apply Le.drop))
    refine TOps.move rfl rfl ?_
    refine' TOps.andB 6 rfl rfl rfl rfl (fun hg37_10 => ?_) ?_; rotate_left
    · have hg37_10' := hg37_10
      try simp only [decide_eq_true_eq, decide_eq_false_iff_not, Bool.and_eq_true, Bool.or_eq_true, Bool.not_eq_true', Bool.and_eq_false_iff, Bool.or_eq_false_iff, Bool.not_eq_false', Int.not_lt, Int.not_le, ne_eq, Decidable.not_not] at hg37_10'
      refine TOps.strip 10 true rfl rfl hg37_10 rfl ?_
      refine TOps.move rfl rfl ?_
      refine TOps.call (vs := [_]) Try.call18 ⟨rfl, trivial⟩ (mlog_g (l := Z.log) (Rd.all (List.Mem.head _)) (RdS.ofRowA (List.Mem.tail _ (List.Mem.head _)) (fun h => hlz (fun h0 => h (by rw [h0]; rfl)))) hll4) rfl ?_
      rintro _ _ ⟨ua, ucap, rfl, hua, rfl⟩
      refine TOps.len rfl Try.underlying39 rfl ?_
      refine TOps.move rfl rfl ?_
      refine TOps.len rfl Try.underlying39 rfl ?_
      refine TOps.eqlIr (r := true) rfl rfl (by simp) rfl ?_
      refine TOps.blk rfl (by repeat (first | exact Ext.refl _ | refine Ext.cons rfl ?_)) (by repeat (first | exact Le.refl _ | apply Le.drop))
    refine TOps.assign rfl rfl ?_
    refine TOps.next ?_
    refine Tri.ret1 (H' := H) Try.results7 (fun _ _ h => h) (.tmp rfl) (Le.drop (Le.drop lR)) ⟨rfl, rfl⟩
  try simp only [decide_eq_true_eq, decide_eq_false_iff_not, Bool.and_eq_true, Bool.or_eq_true, Bool.not_eq_true', Bool.and_eq_false_iff, Bool.or_eq_false_iff, Bool.not_eq_false', Int.not_lt, Int.not_le, ne_eq, Decidable.not_not, Option.isSome_iff_ne_none, Option.isNone_iff_eq_none] at hc5
  obtain ⟨fl, hfl⟩ : ∃ fl, fl = false := ⟨_, rfl⟩
  have q1 : F.play Z ae false = F.play Z ae fl := by rw [hfl]
  have q2 : F.playErr Z ae false = F.playErr Z ae fl := by rw [hfl]
  refine Tri.region ?_
  refine TOps.move rfl rfl ?_
  first | refine TOps.fieldB 1 rfl Try.underlying55 rfl rfl ti3 rfl rfl rfl ?_ | refine TOps.fieldN 1 rfl Try.underlying55 rfl rfl ti3 rfl rfl rfl ?_
  refine TOps.load1 rfl ti3 ((r5.up.up).fld 1 rfl) rfl ?_
  refine TOps.call (vs := [_, _]) Try.call20 ⟨rfl, rfl, trivial⟩ (mrepair_g hFR hg hok hla ae) rfl ?_
  rintro _ _ ⟨la', lcap', hla', rfl, rfl⟩
  rw [q1] at hla' ⊢
  rw [q2]
  refine TOps.move rfl rfl ?_
  refine TOps.extract rfl rfl rfl ?_
  refine TOps.extract rfl rfl rfl ?_
  refine TOps.assign rfl rfl ?_
  refine TOps.fin ?_
  refine Nrm.next ?_
  refine Tri.seq ?_
  refine Tri.seq (Tri.region ?_)
  refine TOps.move rfl rfl ?_
  refine TOps.eqlNil (T := 47) (o := F.playErr Z ae fl) rfl Try.underlying29 rfl ?_
  refine TOps.move rfl rfl ?_
  refine' TOps.andBH (H2 := row (some m) 70 5 1 [.int .i64 F.vars, nv, .int .i64 F.top, .int .i64 Z.f, slV la' 0 Z.log.length lcap'] :: row la' 42 3 lcap' (logCells Z.log) :: H7) 3 rfl rfl rfl rfl (fun hg35_2 => (by obtain ⟨e, hpe⟩ : ∃ e, F.playErr Z ae fl = some e := (by cases h : F.playErr Z ae fl with | none => rw [h] at hg35_2; cases hg35_2 | some e => exact ⟨e, rfl⟩); rw [Fm.play_err hpe]; exact Le.refl _)) (fun hg35_2 => ?_) ?_; rotate_left
  · have hg35_2' := hg35_2
    try simp only [decide_eq_true_eq, decide_eq_false_iff_not, Bool.and_eq_true, Bool.or_eq_true, Bool.not_eq_true', Bool.and_eq_false_iff, Bool.or_eq_false_iff, Bool.not_eq_false', Int.not_lt, Int.not_le, ne_eq, Decidable.not_not] at hg35_2'
    refine TOps.strip 2 true rfl rfl hg35_2 rfl ?_
    refine TOps.move rfl rfl ?_
    refine TOps.call (vs := [_]) Try.call22 ⟨rfl, trivial⟩ (mundo_g hg (hok.play ae fl) hla') rfl ?_
    rintro _ _ ⟨hla2, rfl, rfl⟩
    have hpe : F.playErr Z ae fl = none := by cases h : F.playErr Z ae fl with | none => rfl | some e => rw [h] at hg35_2; cases hg35_2
    obtain ⟨n, hn⟩ := Int.eq_ofNat_of_zero_le (Fm.playErr_none hpe).1.1
    rw [hn] at hpe
    obtain ⟨u1, u2, -⟩ := Fm.undo_play hpe
    rw [hn, u2, u1]
    refine TOps.neqNil (T := 47) (o := none) rfl Try.underlying29 rfl ?_
    refine TOps.blk rfl (by repeat (first | exact Ext.refl _ | refine Ext.cons rfl ?_)) (by repeat (first | exact Le.refl _ | apply Le.drop))
  refine TOps.next ?_
  refine Tri.cond rfl (fun hc7 => ?_) (fun hc7 => ?_)
  · try simp only [decide_eq_true_eq, decide_eq_false_iff_not, Bool.and_eq_true, Bool.or_eq_true, Bool.not_eq_true', Bool.and_eq_false_iff, Bool.or_eq_false_iff, Bool.not_eq_false', Int.not_lt, Int.not_le, ne_eq, Decidable.not_not, Option.isSome_iff_ne_none, Option.isNone_iff_eq_none] at hc7
    have hfalse : False := by simp at hc7
    refine Tri.seq (Tri.region ?_)
    refine TOps.assign rfl rfl ?_
    refine TOps.next ?_
    exact hfalse.elim
  try simp only [decide_eq_true_eq, decide_eq_false_iff_not, Bool.and_eq_true, Bool.or_eq_true, Bool.not_eq_true', Bool.and_eq_false_iff, Bool.or_eq_false_iff, Bool.not_eq_false', Int.not_lt, Int.not_le, ne_eq, Decidable.not_not, Option.isSome_iff_ne_none, Option.isNone_iff_eq_none] at hc7
  refine Tri.fin ?_
  refine Nrm.next ?_
  refine Tri.seq (Tri.region ?_)
  have hlz : Z.log ≠ [] → ∃ b, la' = some b := by
    cases hpe : F.playErr Z ae fl with
    | some e => rw [Fm.play_err hpe] at hla'; exact hla'
    | none => rw [Fm.play_ok hpe] at hla'; exact fun _ => hla' (by simp)
  refine TOps.move rfl rfl ?_
  refine TOps.call (vs := [_]) Try.call12 ⟨rfl, trivial⟩ (mfailed_g (F := F) (nv := nv) (f := Z.f) (Rd.all (List.Mem.head _)) (hF7 _ _) hg hff) rfl ?_
  rintro _ _ ⟨rfl, rfl⟩
  refine TOps.move rfl rfl ?_
  refine TOps.eqlIr (r := true) rfl rfl (by simp) rfl ?_
  refine TOps.move rfl rfl ?_
  refine' TOps.andB 4 rfl rfl rfl rfl (fun hg37_4 => ?_) ?_; rotate_left
  · have hg37_4' := hg37_4
    try simp only [decide_eq_true_eq, decide_eq_false_iff_not, Bool.and_eq_true, Bool.or_eq_true, Bool.not_eq_true', Bool.and_eq_false_iff, Bool.or_eq_false_iff, Bool.not_eq_false', Int.not_lt, Int.not_le, ne_eq, Decidable.not_not] at hg37_4'
    refine TOps.strip 4 true rfl rfl hg37_4 rfl ?_
    refine TOps.move rfl rfl ?_
    refine TOps.call (vs := [_]) Try.call15 ⟨rfl, trivial⟩ (mtop_g (F := F) (nv := nv) (f := Z.f) (Rd.all (List.Mem.head _)) (hF7 _ _) hg hff) rfl ?_
    rintro _ _ ⟨rfl, rfl⟩
    refine TOps.move rfl rfl ?_
    refine TOps.eqlBr (r := true) rfl rfl (by simp) Try.underlying4 rfl ?_
    refine TOps.blk rfl (by repeat (first | exact Ext.refl _ | refine Ext.cons rfl ?_)) (by repeat (first | exact Le.refl _ | apply Le.drop))
  refine TOps.move rfl rfl ?_
  refine' TOps.andB 6 rfl rfl rfl rfl (fun hg37_10 => ?_) ?_; rotate_left
  · have hg37_10' := hg37_10
    try simp only [decide_eq_true_eq, decide_eq_false_iff_not, Bool.and_eq_true, Bool.or_eq_true, Bool.not_eq_true', Bool.and_eq_false_iff, Bool.or_eq_false_iff, Bool.not_eq_false', Int.not_lt, Int.not_le, ne_eq, Decidable.not_not] at hg37_10'
    refine TOps.strip 10 true rfl rfl hg37_10 rfl ?_
    refine TOps.move rfl rfl ?_
    refine TOps.call (vs := [_]) Try.call18 ⟨rfl, trivial⟩ (mlog_g (l := Z.log) (Rd.all (List.Mem.head _)) (RdS.ofRowA (List.Mem.tail _ (List.Mem.head _)) (fun h => hlz (fun h0 => h (by rw [h0]; rfl)))) hll4) rfl ?_
    rintro _ _ ⟨ua, ucap, rfl, hua, rfl⟩
    refine TOps.len rfl Try.underlying39 rfl ?_
    refine TOps.move rfl rfl ?_
    refine TOps.len rfl Try.underlying39 rfl ?_
    refine TOps.eqlIr (r := true) rfl rfl (by simp) rfl ?_
    refine TOps.blk rfl (by repeat (first | exact Ext.refl _ | refine Ext.cons rfl ?_)) (by repeat (first | exact Le.refl _ | apply Le.drop))
  refine TOps.assign rfl rfl ?_
  refine TOps.next ?_
  refine Tri.ret1 (H' := H) Try.results7 (fun _ _ h => h) (.tmp rfl) (Le.drop (Le.drop lR)) ⟨rfl, rfl⟩
end Go.Proofs
