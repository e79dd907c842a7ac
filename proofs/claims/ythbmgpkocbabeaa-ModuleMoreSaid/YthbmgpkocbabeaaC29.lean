import Derived.Test.YthbmgpkocbabeaaB29
import Derived.Test.YthbmgpkocbabeaaGL29
namespace Go.Proofs
open Go.GL
set_option linter.unusedVariables false
set_option linter.unusedSimpArgs false
theorem example29_g {H : List Ent} (t : Bool) : Gives Try.prog 28 [.bool t] H (NewF (exF29 t) H) := by
  refine Gives.enter Try.func28 rfl (by exact Try.ntmps28) rfl ?_
  refine Tri.seq (Tri.region ?_)
  refine TOps.alloc ti24 rfl (fun b2 => ?_)
  refine TOps.next ?_
  refine Tri.seq (Tri.region ?_)
  refine TOps.buildSlice (vs := [_, _]) (xs := [_, _]) Try.underlying30 ti3 ⟨rfl, rfl, rfl, rfl, trivial⟩ rfl rfl rfl rfl rfl rfl (by decide) rfl (fun b4 => ?_)
  refine TOps.buildStruct (vs := [(0, _), (2, _)]) (xs := [_, _, _]) [(0, 1), (1, 1), (2, 1)] Try.underlying34 ti34 (fun w => by simp) ⟨rfl, rfl, rfl, rfl, trivial⟩ rfl rfl ?_
  refine TOps.buildSlice (vs := [_, _]) (xs := [_, _]) Try.underlying30 ti3 ⟨rfl, rfl, rfl, rfl, trivial⟩ rfl rfl rfl rfl rfl rfl (by decide) rfl (fun b6 => ?_)
  refine TOps.buildStruct (vs := [(0, _), (2, _)]) (xs := [_, _, _]) [(0, 1), (1, 1), (2, 1)] Try.underlying34 ti34 (fun w => by simp) ⟨rfl, rfl, rfl, rfl, trivial⟩ rfl rfl ?_
  refine TOps.buildSlice (vs := [_, _]) (xs := [_, _]) Try.underlying30 ti3 ⟨rfl, rfl, rfl, rfl, trivial⟩ rfl rfl rfl rfl rfl rfl (by decide) rfl (fun b8 => ?_)
  refine TOps.buildStruct (vs := [(0, _), (2, _)]) (xs := [_, _, _]) [(0, 1), (1, 1), (2, 1)] Try.underlying34 ti34 (fun w => by simp) ⟨rfl, rfl, rfl, rfl, trivial⟩ rfl rfl ?_
  refine TOps.buildSlice (vs := [_, _, _]) (xs := [_, _, _]) Try.underlying30 ti3 ⟨rfl, rfl, rfl, rfl, rfl, rfl, trivial⟩ rfl rfl rfl rfl rfl rfl (by decide) rfl (fun b10 => ?_)
  refine TOps.buildStruct (vs := [(0, _), (2, _)]) (xs := [_, _, _]) [(0, 1), (1, 1), (2, 1)] Try.underlying34 ti34 (fun w => by simp) ⟨rfl, rfl, rfl, rfl, trivial⟩ rfl rfl ?_
  refine TOps.buildSlice (vs := [_, _, _, _]) (xs := [_, _, _, _, _, _, _, _, _, _, _, _]) Try.underlying22 ti34 ⟨rfl, rfl, rfl, rfl, rfl, rfl, rfl, rfl, trivial⟩ rfl rfl rfl rfl rfl rfl (by decide) rfl (fun b12 => ?_)
  refine TOps.buildStruct (vs := [(0, _), (2, _), (1, _)]) (xs := [_, _, _]) [(0, 1), (1, 1), (2, 1)] Try.underlying24 ti24 (fun w => by simp) ⟨rfl, rfl, rfl, rfl, rfl, rfl, trivial⟩ rfl rfl ?_
  refine TOps.alloc ti24 rfl (fun b3 => ?_)
  refine TOps.storeN rfl rfl ti24 rfl rfl (by repeat (first | exact Upd.here | apply Upd.there)) (by first | decide | (simp; done) | (simp; omega)) ?_
  refine TOps.next ?_
  refine Tri.seq ?_
  refine Tri.seq (Tri.region ?_)
  refine TOps.move rfl rfl ?_
  refine TOps.next ?_
  refine Tri.cond rfl (fun hc1 => ?_) (fun hc1 => ?_)
  · try simp only [decide_eq_true_eq, decide_eq_false_iff_not, Bool.and_eq_true, Bool.or_eq_true, Bool.not_eq_true', Bool.and_eq_false_iff, Bool.or_eq_false_iff, Bool.not_eq_false', Int.not_lt, Int.not_le, ne_eq, Decidable.not_not, Option.isSome_iff_ne_none, Option.isNone_iff_eq_none] at hc1
    refine Tri.region ?_
    first | refine TOps.fieldB 1 rfl Try.underlying24 rfl rfl ti22 rfl rfl rfl ?_ | refine TOps.fieldN 1 rfl Try.underlying24 rfl rfl ti22 rfl rfl rfl ?_
    refine TOps.load1 rfl ti22 (by first | exact Rd.lit (by repeat (first | exact List.Mem.head _ | apply List.Mem.tail)) rfl | (repeat (first | assumption | exact Rd.fld (by assumption) 1 rfl | apply Rd.up))) rfl ?_
    refine TOps.indexAddr rfl rfl Try.underlying22 ti34 (by omega) (by omega) rfl rfl ?_
    first | refine TOps.fieldB 2 rfl Try.underlying34 rfl rfl ti30 rfl rfl rfl ?_ | refine TOps.fieldN 2 rfl Try.underlying34 rfl rfl ti30 rfl rfl rfl ?_
    refine TOps.load1 rfl ti30 (by first | exact Rd.lit (by repeat (first | exact List.Mem.head _ | apply List.Mem.tail)) rfl | (repeat (first | assumption | exact Rd.fld (by assumption) 2 rfl | apply Rd.up))) rfl ?_
    refine TOps.indexAddr rfl rfl Try.underlying30 ti3 (by omega) (by omega) rfl rfl ?_
    refine TOps.store1 rfl rfl ti3 rfl rfl (by repeat (first | exact Upd.here | apply Upd.there)) (by first | decide | (simp; done) | (simp; omega)) ?_
    refine TOps.fin ?_
    refine Nrm.next ?_
    refine Tri.seq (Tri.region ?_)
    refine TOps.loadN rfl ti24 (by first | exact Rd.all (by repeat (first | exact List.Mem.head _ | apply List.Mem.tail)) | (repeat (first | assumption | apply Rd.up))) rfl rfl ?_
    refine TOps.storeN rfl rfl ti24 rfl rfl (by repeat (first | exact Upd.here | apply Upd.there)) (by first | decide | (simp; done) | (simp; omega)) ?_
    refine TOps.next ?_
    subst hc1
    refine Tri.ret1 (H' := _) Try.results28 (fun _ _ h => h) (.cellN rfl rfl ti24 (Rd.all (by repeat (first | exact List.Mem.head _ | apply List.Mem.tail))) rfl) (Le.refl _) ⟨(by repeat (first | exact Le.refl _ | apply Le.drop)), (by repeat (first | exact List.Sublist.refl _ | apply List.Sublist.cons)), ?_⟩
    refine ⟨some b12, 0, 4, none, rfl, RNodes.ofRow (E := 34) (sz := 3) (cap := 4) (qs := [(some b4, 0, 2, none), (some b6, 0, 2, none), (some b8, 0, 2, none), (some b10, 0, 3, none)]) (by repeat (first | exact List.Mem.head _ | apply List.Mem.tail)) rfl ?_⟩
    intro i d q hd hq
    rcases i with _ | _ | _ | _ | i
    · simp [exF29] at hd hq; subst hd hq; exact RInts.ofRow (xs := [0, 1]) (by repeat (first | exact List.Mem.head _ | apply List.Mem.tail))
    · simp [exF29] at hd hq; subst hd hq; exact RInts.ofRow (xs := [2, 2]) (by repeat (first | exact List.Mem.head _ | apply List.Mem.tail))
    · simp [exF29] at hd hq; subst hd hq; exact RInts.ofRow (xs := [2, 3]) (by repeat (first | exact List.Mem.head _ | apply List.Mem.tail))
    · simp [exF29] at hd hq; subst hd hq; exact RInts.ofRow (xs := [4, 5, 6]) (by repeat (first | exact List.Mem.head _ | apply List.Mem.tail))
    · simp [exF29] at hd
  try simp only [decide_eq_true_eq, decide_eq_false_iff_not, Bool.and_eq_true, Bool.or_eq_true, Bool.not_eq_true', Bool.and_eq_false_iff, Bool.or_eq_false_iff, Bool.not_eq_false', Int.not_lt, Int.not_le, ne_eq, Decidable.not_not, Option.isSome_iff_ne_none, Option.isNone_iff_eq_none] at hc1
  refine Tri.fin ?_
  refine Nrm.next ?_
  refine Tri.seq (Tri.region ?_)
  refine TOps.loadN rfl ti24 (by first | exact Rd.all (by repeat (first | exact List.Mem.head _ | apply List.Mem.tail)) | (repeat (first | assumption | apply Rd.up))) rfl rfl ?_
  refine TOps.storeN rfl rfl ti24 rfl rfl (by repeat (first | exact Upd.here | apply Upd.there)) (by first | decide | (simp; done) | (simp; omega)) ?_
  refine TOps.next ?_
  subst hc1
  refine Tri.ret1 (H' := _) Try.results28 (fun _ _ h => h) (.cellN rfl rfl ti24 (Rd.all (by repeat (first | exact List.Mem.head _ | apply List.Mem.tail))) rfl) (Le.refl _) ⟨(by repeat (first | exact Le.refl _ | apply Le.drop)), (by repeat (first | exact List.Sublist.refl _ | apply List.Sublist.cons)), ?_⟩
  refine ⟨some b12, 0, 4, none, rfl, RNodes.ofRow (E := 34) (sz := 3) (cap := 4) (qs := [(some b4, 0, 2, none), (some b6, 0, 2, none), (some b8, 0, 2, none), (some b10, 0, 3, none)]) (by repeat (first | exact List.Mem.head _ | apply List.Mem.tail)) rfl ?_⟩
  intro i d q hd hq
  rcases i with _ | _ | _ | _ | i
  · simp [exF29] at hd hq; subst hd hq; exact RInts.ofRow (xs := [0, 1]) (by repeat (first | exact List.Mem.head _ | apply List.Mem.tail))
  · simp [exF29] at hd hq; subst hd hq; exact RInts.ofRow (xs := [1, 2]) (by repeat (first | exact List.Mem.head _ | apply List.Mem.tail))
  · simp [exF29] at hd hq; subst hd hq; exact RInts.ofRow (xs := [2, 3]) (by repeat (first | exact List.Mem.head _ | apply List.Mem.tail))
  · simp [exF29] at hd hq; subst hd hq; exact RInts.ofRow (xs := [4, 5, 6]) (by repeat (first | exact List.Mem.head _ | apply List.Mem.tail))
  · simp [exF29] at hd
theorem heavy_g {H : List Ent} {fv : Value} {F : Fm} (hF : RF H fv F) (hk : F.ok) : Gives Try.prog 10 [fv] H (R1 (.bool F.heavy) H) := by
  have h3 := hk.2.2.2
  obtain ⟨na, off, ncap, nsp, rfl, hN⟩ := hF
  refine Gives.enter Try.func10 rfl (by exact Try.ntmps10) rfl ?_
  refine Tri.seq (Tri.region ?_)
  refine TOps.boxN rfl ti24 rfl rfl (fun b1 => ?_)
  refine TOps.hide (fun H1 l1 s1 r1 => ?_)
  replace hN := hN.le l1
  refine TOps.assign rfl rfl ?_
  refine TOps.next ?_
  refine Tri.seq (Tri.region ?_)
  refine TOps.assign rfl rfl ?_
  refine TOps.next ?_
  refine Tri.seq ?_
  refine Tri.seq (Tri.region ?_)
  first | refine TOps.fieldB 1 rfl Try.underlying24 rfl rfl ti22 rfl rfl rfl ?_ | refine TOps.fieldN 1 rfl Try.underlying24 rfl rfl ti22 rfl rfl rfl ?_
  refine TOps.load1 rfl ti22 (by first | exact Rd.lit (by repeat (first | exact List.Mem.head _ | apply List.Mem.tail)) rfl | (repeat (first | assumption | exact Rd.fld (by assumption) 1 rfl | apply Rd.up))) rfl ?_
  refine TOps.len rfl Try.underlying22 rfl ?_
  refine TOps.move rfl rfl ?_
  refine TOps.next ?_
  refine Tri.range (X := Unit) (fun x k => [(1, .pointer (some ⟨b1, 0, none⟩)), (3, .int .i64 (argSumI (F.nodes.take k))), (7, slV na off F.nodes.length ncap nsp)]) (fun x k => H1) (fun x k => True) (by omega) rfl rfl rfl (fun _ _ => ⟨rfl, rfl, rfl, rfl⟩) () trivial ⟨rfl, rfl, rfl, trivial⟩ (by repeat (first | exact Le.refl _ | assumption | apply Le.drop)) (fun k x hlt hp => ?_) (fun x ac wc hp hS hM => ?_)
  · skip
    obtain ⟨nb, aa, ao, acap, asp, rfl, rfl, hn⟩ := hN.at hlt
    have hcells := hn.cells
    refine Tri.seq (Tri.region ?_)
    refine TOps.indexAddr (off' := off + k * 3) rfl rfl Try.underlying22 ti34 (by omega) (by omega) (by simp) rfl ?_
    refine TOps.loadN rfl ti34 (by first | exact Rd.all (by repeat (first | exact List.Mem.head _ | apply List.Mem.tail)) | (repeat (first | assumption | apply Rd.up))) rfl rfl ?_
    refine TOps.alloc ti34 rfl (fun b5 => ?_)
    refine TOps.storeN rfl rfl ti34 rfl rfl (by repeat (first | exact Upd.here | apply Upd.there)) (by first | decide | (simp; done) | (simp; omega)) ?_
    refine TOps.next ?_
    refine Tri.region ?_
    refine TOps.move rfl rfl ?_
    first | refine TOps.fieldB 2 rfl Try.underlying34 rfl rfl ti30 rfl rfl rfl ?_ | refine TOps.fieldN 2 rfl Try.underlying34 rfl rfl ti30 rfl rfl rfl ?_
    refine TOps.load1 rfl ti30 (by first | exact Rd.lit (by repeat (first | exact List.Mem.head _ | apply List.Mem.tail)) rfl | (repeat (first | assumption | exact Rd.fld (by assumption) 2 rfl | apply Rd.up))) rfl ?_
    refine TOps.len rfl Try.underlying30 rfl ?_
    refine TOps.add (r := argSumI (F.nodes.take (k + 1))) rfl rfl (argSumI_take_succ hlt).symm rfl ?_
    refine TOps.assign rfl rfl ?_
    refine TOps.fin ?_
    refine Nrm.body () trivial ⟨rfl, rfl, rfl, rfl, rfl, trivial⟩ (by repeat (first | exact Le.refl _ | assumption | apply Le.drop))
  rw [List.take_length] at hS
  refine Nrm.of hS hM ?_
  refine Nrm.next ?_
  refine Tri.seq (Tri.region ?_)
  first | refine TOps.fieldB 1 rfl Try.underlying24 rfl rfl ti22 rfl rfl rfl ?_ | refine TOps.fieldN 1 rfl Try.underlying24 rfl rfl ti22 rfl rfl rfl ?_
  refine TOps.load1 rfl ti22 (by first | exact Rd.lit (by repeat (first | exact List.Mem.head _ | apply List.Mem.tail)) rfl | (repeat (first | assumption | exact Rd.fld (by assumption) 1 rfl | apply Rd.up))) rfl ?_
  refine TOps.len rfl Try.underlying22 rfl ?_
  refine TOps.gtr rfl rfl rfl ?_
  refine TOps.move rfl rfl ?_
  refine' TOps.andB 4 rfl rfl rfl rfl (fun hg7_4 => ?_) ?_; rotate_left
  · have hg7_4' := hg7_4
    try simp only [decide_eq_true_eq, decide_eq_false_iff_not, Bool.and_eq_true, Bool.or_eq_true, Bool.not_eq_true', Bool.and_eq_false_iff, Bool.or_eq_false_iff, Bool.not_eq_false', Int.not_lt, Int.not_le, ne_eq, Decidable.not_not] at hg7_4'
    refine TOps.strip 4 true rfl rfl hg7_4 rfl ?_
    first | refine TOps.fieldB 1 rfl Try.underlying24 rfl rfl ti22 rfl rfl rfl ?_ | refine TOps.fieldN 1 rfl Try.underlying24 rfl rfl ti22 rfl rfl rfl ?_
    refine TOps.load1 rfl ti22 (by first | exact Rd.lit (by repeat (first | exact List.Mem.head _ | apply List.Mem.tail)) rfl | (repeat (first | assumption | exact Rd.fld (by assumption) 1 rfl | apply Rd.up))) rfl ?_
    refine TOps.len rfl Try.underlying22 rfl ?_
    refine TOps.leq rfl rfl rfl ?_
    refine TOps.blk rfl (by repeat (first | exact Ext.refl _ | refine Ext.cons rfl ?_)) (by repeat (first | exact Le.refl _ | apply Le.drop))
  refine TOps.move rfl rfl ?_
  refine' TOps.orB 4 rfl rfl rfl rfl (fun hg7_10 => ?_) ?_; rotate_left
  · have hg7_10' := hg7_10
    try simp only [decide_eq_true_eq, decide_eq_false_iff_not, Bool.and_eq_true, Bool.or_eq_true, Bool.not_eq_true', Bool.and_eq_false_iff, Bool.or_eq_false_iff, Bool.not_eq_false', Int.not_lt, Int.not_le, ne_eq, Decidable.not_not] at hg7_10'
    refine TOps.strip 10 false rfl rfl hg7_10 rfl ?_
    first | refine TOps.fieldB 1 rfl Try.underlying24 rfl rfl ti22 rfl rfl rfl ?_ | refine TOps.fieldN 1 rfl Try.underlying24 rfl rfl ti22 rfl rfl rfl ?_
    refine TOps.load1 rfl ti22 (by first | exact Rd.lit (by repeat (first | exact List.Mem.head _ | apply List.Mem.tail)) rfl | (repeat (first | assumption | exact Rd.fld (by assumption) 1 rfl | apply Rd.up))) rfl ?_
    refine TOps.len rfl Try.underlying22 rfl ?_
    refine TOps.gtr rfl rfl rfl ?_
    refine TOps.blk rfl (by repeat (first | exact Ext.refl _ | refine Ext.cons rfl ?_)) (by repeat (first | exact Le.refl _ | apply Le.drop))
  refine TOps.move rfl rfl ?_
  refine' TOps.orB 2 rfl rfl rfl rfl (fun hg7_16 => ?_) ?_; rotate_left
  · have hg7_16' := hg7_16
    try simp only [decide_eq_true_eq, decide_eq_false_iff_not, Bool.and_eq_true, Bool.or_eq_true, Bool.not_eq_true', Bool.and_eq_false_iff, Bool.or_eq_false_iff, Bool.not_eq_false', Int.not_lt, Int.not_le, ne_eq, Decidable.not_not] at hg7_16'
    refine TOps.strip 16 false rfl rfl hg7_16 rfl ?_
    refine TOps.move rfl rfl ?_
    refine TOps.gtr rfl rfl rfl ?_
    refine TOps.blk rfl (by repeat (first | exact Ext.refl _ | refine Ext.cons rfl ?_)) (by repeat (first | exact Le.refl _ | apply Le.drop))
  refine TOps.assign rfl rfl ?_
  refine TOps.next ?_
  refine Tri.ret1 (H' := H) Try.results10 (fun _ _ h => h) (.tmp rfl) l1 ⟨rfl, rfl⟩
theorem awake29_g {H : List Ent} : Gives Try.prog 9 [] H (R1 (.bool true) H) := by
  have e1 := (Fm.good_iff _).2 (exF29_good false)
  have e2 := (Fm.good_iff _).2 (exF29_good true)
  refine Gives.enter Try.func9 rfl (by exact Try.ntmps9) rfl ?_
  refine Tri.seq (Tri.region ?_)
  refine TOps.assign rfl rfl ?_
  refine TOps.next ?_
  refine Tri.seq (Tri.region ?_)
  refine TOps.call (vs := [_]) Try.call28 ⟨rfl, trivial⟩ (example29_g false) rfl ?_
  rintro _ H1 ⟨l1, s1, hF1⟩
  refine TOps.call (vs := [_]) Try.call12 ⟨rfl, trivial⟩ (find_g hF1 (exF29_good false).ok) rfl ?_
  rintro _ _ ⟨xs, xa, xcap, hxs, rfl, hxa, rfl⟩
  obtain rfl : xs = [7] := by rw [hxs, e1, exF29_find.1]; rfl
  rw [e1]
  have rx : RInts (row xa 3 1 xcap (nats [7]) :: H1) xa 0 [7] := RdS.ofRowA (List.Mem.head _) hxa
  generalize hH2 : row xa 3 1 xcap (nats [7]) :: H1 = H2 at *
  have l2 : Le H2 H := by rw [← hH2]; exact Le.drop l1
  refine TOps.move rfl rfl ?_
  refine TOps.extract rfl rfl rfl ?_
  refine TOps.extract rfl rfl rfl ?_
  refine TOps.assign rfl rfl ?_
  refine TOps.assign rfl rfl ?_
  refine TOps.next ?_
  refine Tri.seq (Tri.region ?_)
  refine TOps.call (vs := [_]) Try.call28 ⟨rfl, trivial⟩ (example29_g true) rfl ?_
  rintro _ H3 ⟨l3, s3, hF3⟩
  refine TOps.call (vs := [_]) Try.call12 ⟨rfl, trivial⟩ (find_g hF3 (exF29_good true).ok) rfl ?_
  rintro _ _ ⟨ys, ya, ycap, hys, rfl, hya, rfl⟩
  obtain rfl : ys = [4, 7] := by rw [hys, e2, exF29_find.2]; rfl
  rw [e2]
  have ry : RInts (row ya 3 1 ycap (nats [4, 7]) :: H3) ya 0 [4, 7] := RdS.ofRowA (List.Mem.head _) hya
  replace rx := RdS.le rx (Le.drop l3 : Le (row ya 3 1 ycap (nats [4, 7]) :: H3) H2)
  generalize hH4 : row ya 3 1 ycap (nats [4, 7]) :: H3 = H4 at *
  have l4 : Le H4 H := by rw [← hH4]; exact Le.drop (l3.trans l2)
  refine TOps.move rfl rfl ?_
  refine TOps.extract rfl rfl rfl ?_
  refine TOps.extract rfl rfl rfl ?_
  refine TOps.assign rfl rfl ?_
  refine TOps.assign rfl rfl ?_
  refine TOps.next ?_
  refine Tri.seq (Tri.region ?_)
  refine TOps.move rfl rfl ?_
  refine TOps.eqlNil (T := 43) (o := none) rfl Try.underlying28 rfl ?_
  refine TOps.move rfl rfl ?_
  refine' TOps.andB 2 rfl rfl rfl rfl (fun hg3_2 => ?_) ?_; rotate_left
  · have hg3_2' := hg3_2
    try simp only [decide_eq_true_eq, decide_eq_false_iff_not, Bool.and_eq_true, Bool.or_eq_true, Bool.not_eq_true', Bool.and_eq_false_iff, Bool.or_eq_false_iff, Bool.not_eq_false', Int.not_lt, Int.not_le, ne_eq, Decidable.not_not] at hg3_2'
    refine TOps.strip 2 true rfl rfl hg3_2 rfl ?_
    refine TOps.move rfl rfl ?_
    refine TOps.eqlNil (T := 43) (o := none) rfl Try.underlying28 rfl ?_
    refine TOps.blk rfl (by repeat (first | exact Ext.refl _ | refine Ext.cons rfl ?_)) (by repeat (first | exact Le.refl _ | apply Le.drop))
  refine TOps.move rfl rfl ?_
  refine' TOps.andB 3 rfl rfl rfl rfl (fun hg3_6 => ?_) ?_; rotate_left
  · have hg3_6' := hg3_6
    try simp only [decide_eq_true_eq, decide_eq_false_iff_not, Bool.and_eq_true, Bool.or_eq_true, Bool.not_eq_true', Bool.and_eq_false_iff, Bool.or_eq_false_iff, Bool.not_eq_false', Int.not_lt, Int.not_le, ne_eq, Decidable.not_not] at hg3_6'
    refine TOps.strip 6 true rfl rfl hg3_6 rfl ?_
    refine TOps.move rfl rfl ?_
    refine TOps.buildSlice (vs := [_]) (xs := [_]) Try.underlying30 ti3 ⟨rfl, rfl, trivial⟩ rfl rfl rfl rfl rfl rfl (by decide) rfl (fun b23 => ?_)
    refine TOps.call (vs := [_, _]) Try.call23 ⟨rfl, rfl, trivial⟩ (ints_g (xs := [7]) (ys := [7]) (RdS.le rx (Le.drop (Le.refl _))) (RInts.ofRow (List.Mem.head _)) (by decide) (by decide)) rfl ?_
    rintro _ _ ⟨rfl, rfl⟩
    refine TOps.blk rfl (by repeat (first | exact Ext.refl _ | refine Ext.cons rfl ?_)) (by repeat (first | exact Le.refl _ | apply Le.drop))
  refine TOps.move rfl rfl ?_
  refine' TOps.andB 3 rfl rfl rfl rfl (fun hg3_11 => ?_) ?_; rotate_left
  · have hg3_11' := hg3_11
    try simp only [decide_eq_true_eq, decide_eq_false_iff_not, Bool.and_eq_true, Bool.or_eq_true, Bool.not_eq_true', Bool.and_eq_false_iff, Bool.or_eq_false_iff, Bool.not_eq_false', Int.not_lt, Int.not_le, ne_eq, Decidable.not_not] at hg3_11'
    refine TOps.strip 11 true rfl rfl hg3_11 rfl ?_
    refine TOps.move rfl rfl ?_
    refine TOps.buildSlice (vs := [_, _]) (xs := [_, _]) Try.underlying30 ti3 ⟨rfl, rfl, rfl, rfl, trivial⟩ rfl rfl rfl rfl rfl rfl (by decide) rfl (fun b28 => ?_)
    refine TOps.call (vs := [_, _]) Try.call23 ⟨rfl, rfl, trivial⟩ (ints_g (xs := [4, 7]) (ys := [4, 7]) (RdS.le ry (Le.drop (Le.refl _))) (RInts.ofRow (List.Mem.head _)) (by decide) (by decide)) rfl ?_
    rintro _ _ ⟨rfl, rfl⟩
    refine TOps.blk rfl (by repeat (first | exact Ext.refl _ | refine Ext.cons rfl ?_)) (by repeat (first | exact Le.refl _ | apply Le.drop))
  refine TOps.assign rfl rfl ?_
  refine TOps.next ?_
  refine Tri.ret1 (H' := H) Try.results9 (fun _ _ h => h) (.tmp rfl) l4 ⟨by simp, rfl⟩
theorem mBelowOk_g {H : List Ent} {fv : Value} {F : Fm} (hF : RF H fv F) (hg : F.Good) (q : Nat) (hq : q < F.vars.toNat + F.nodes.length) :
    Gives Try.prog 13 [fv, .int .i64 q] H (R1 (.tuple (List.toArray [.int .i64 (F.evs q : Nat), errV 43 none])) H) := by
  have g0 := hg.v0; have g1 := hg.v1; have g2 := hg.n1
  have h := mBelow_g hF hg.ok (q : Int) ⟨by omega, by omega⟩
  have hv : F.valid (q : Int) = true := by unfold Fm.valid; simp; omega
  rw [(Fm.good_iff F).2 hg, hv] at h
  exact h
theorem moduleNests_g {H : List Ent} {fv : Value} {F : Fm} (hF : RF H fv F) (hk : F.ok) :
    Gives Try.prog 3 [fv] H (R1 (.bool true) H) := by
  have hF0 := hF
  obtain ⟨na, off, ncap, nsp, rfl, hN⟩ := hF
  refine Gives.enter Try.func3 rfl (by exact Try.ntmps3) rfl ?_
  refine Tri.seq (Tri.region ?_)
  refine TOps.boxN rfl ti24 rfl rfl (fun b1 => ?_)
  refine TOps.hide (fun H1 l1 s1 r1 => ?_)
  replace hF0 := hF0.le l1; replace hN := hN.le l1
  refine TOps.assign rfl rfl ?_
  refine TOps.next ?_
  refine Tri.seq ?_
  refine Tri.seq (Tri.region ?_)
  refine TOps.call (vs := []) Try.call9 trivial (awake29_g) rfl ?_
  rintro _ _ ⟨rfl, rfl⟩
  refine TOps.not rfl rfl ?_
  refine TOps.move rfl rfl ?_
  refine' TOps.orB 2 rfl rfl rfl rfl (fun hg1_2 => ?_) ?_; rotate_left
  · have hg1_2' := hg1_2
    try simp only [decide_eq_true_eq, decide_eq_false_iff_not, Bool.and_eq_true, Bool.or_eq_true, Bool.not_eq_true', Bool.and_eq_false_iff, Bool.or_eq_false_iff, Bool.not_eq_false', Int.not_lt, Int.not_le, ne_eq, Decidable.not_not] at hg1_2'
    refine TOps.strip 2 false rfl rfl hg1_2 rfl ?_
    refine TOps.loadN rfl ti24 (by first | exact Rd.all (by repeat (first | exact List.Mem.head _ | apply List.Mem.tail)) | (repeat (first | assumption | apply Rd.up))) rfl rfl ?_
    refine TOps.call (vs := [_]) Try.call10 ⟨rfl, trivial⟩ (heavy_g hF0 hk) rfl ?_
    rintro _ _ ⟨rfl, rfl⟩
    refine TOps.blk rfl (by repeat (first | exact Ext.refl _ | refine Ext.cons rfl ?_)) (by repeat (first | exact Le.refl _ | apply Le.drop))
  refine TOps.move rfl rfl ?_
  refine' TOps.orB 3 rfl rfl rfl rfl (fun hg1_6 => ?_) ?_; rotate_left
  · have hg1_6' := hg1_6
    try simp only [decide_eq_true_eq, decide_eq_false_iff_not, Bool.and_eq_true, Bool.or_eq_true, Bool.not_eq_true', Bool.and_eq_false_iff, Bool.or_eq_false_iff, Bool.not_eq_false', Int.not_lt, Int.not_le, ne_eq, Decidable.not_not] at hg1_6'
    refine TOps.strip 6 false rfl rfl hg1_6 rfl ?_
    refine TOps.loadN rfl ti24 (by first | exact Rd.all (by repeat (first | exact List.Mem.head _ | apply List.Mem.tail)) | (repeat (first | assumption | apply Rd.up))) rfl rfl ?_
    refine TOps.call (vs := [_]) Try.call11 ⟨rfl, trivial⟩ (check_g hF0 hk) rfl ?_
    rintro _ _ ⟨rfl, rfl⟩
    refine TOps.neqNil rfl Try.underlying28 rfl ?_
    refine TOps.blk rfl (by repeat (first | exact Ext.refl _ | refine Ext.cons rfl ?_)) (by repeat (first | exact Le.refl _ | apply Le.drop))
  refine TOps.next ?_
  refine Tri.cond rfl (fun hc1 => ?_) (fun hc1 => ?_)
  · try simp only [decide_eq_true_eq, decide_eq_false_iff_not, Bool.and_eq_true, Bool.or_eq_true, Bool.not_eq_true', Bool.and_eq_false_iff, Bool.or_eq_false_iff, Bool.not_eq_false', Int.not_lt, Int.not_le, ne_eq, Decidable.not_not, Option.isSome_iff_ne_none, Option.isNone_iff_eq_none] at hc1
    refine Tri.seq (Tri.region ?_)
    refine TOps.call (vs := []) Try.call9 trivial (awake29_g) rfl ?_
    rintro _ _ ⟨rfl, rfl⟩
    refine TOps.assign rfl rfl ?_
    refine TOps.next ?_
    refine Tri.ret1 (H' := H) Try.results3 (fun _ _ h => h) (.tmp rfl) l1 ⟨rfl, rfl⟩
  try simp only [decide_eq_true_eq, decide_eq_false_iff_not, Bool.and_eq_true, Bool.or_eq_true, Bool.not_eq_true', Bool.and_eq_false_iff, Bool.or_eq_false_iff, Bool.not_eq_false', Int.not_lt, Int.not_le, ne_eq, Decidable.not_not, Option.isSome_iff_ne_none, Option.isNone_iff_eq_none] at hc1
  have he : F.err = none := by simpa using hc1.2
  have hg := (Fm.good_iff F).1 he
  have g0 := hg.v0; have g1 := hg.v1; have g2 := hg.n1; have gt := hg.topLt
  have hfl := F.find_len
  refine Tri.fin ?_
  refine Nrm.next ?_
  refine Tri.seq (Tri.region ?_)
  refine TOps.loadN rfl ti24 (by first | exact Rd.all (by repeat (first | exact List.Mem.head _ | apply List.Mem.tail)) | (repeat (first | assumption | apply Rd.up))) rfl rfl ?_
  refine TOps.call (vs := [_]) Try.call12 ⟨rfl, trivial⟩ (find_g hF0 hk) rfl ?_
  rintro _ _ ⟨xs, la, lcap, hxs, rfl, hla, rfl⟩
  obtain rfl : xs = F.find := by rw [hxs, he]; rfl
  rw [he]
  replace hF0 := hF0.le (Le.drop (e := row la 3 1 lcap (nats F.find)) (Le.refl _)); replace hN := hN.le (Le.drop (e := row la 3 1 lcap (nats F.find)) (Le.refl _)); replace r1 := r1.up (e := row la 3 1 lcap (nats F.find))
  have hlr : RdS (row la 3 1 lcap (nats F.find) :: H1) la 0 (nats F.find) := RdS.ofRowA (List.Mem.head _) hla
  refine TOps.rowCapA (List.Mem.head _) (fun hcap => ?_)
  rw [List.length_map] at hcap
  generalize hH2 : row la 3 1 lcap (nats F.find) :: H1 = H2 at *
  have l2 : Le H2 H := by rw [← hH2]; exact Le.drop l1
  have hT : ∀ T, T = (decide (F.top < F.vars) || (decide (F.top - F.vars < F.nodes.length) && decide ((((F.nodes.getD (F.top - F.vars).toNat ⟨0, 0, []⟩).args.length : Nat) : Int) = 0))) → (T || F.find.any (fun m => decide ((m : Int) = F.top))) = true := by
    intro T hT
    subst hT
    by_cases h1 : F.top < F.vars
    · rw [decide_eq_true h1]; rfl
    · by_cases h2 : (F.nodes.getD (F.top - F.vars).toNat ⟨0, 0, []⟩).args = []
      · rw [h2, decide_eq_true (show F.top - F.vars < F.nodes.length by omega)]; simp
      · have := law_topmod hg (by omega) h2
        rw [show F.find.any (fun m => decide ((m : Int) = F.top)) = true from List.any_eq_true.2 ⟨_, this, by simp; omega⟩]; simp
  refine TOps.move rfl rfl ?_
  refine TOps.extract rfl rfl rfl ?_
  refine TOps.extract rfl rfl rfl ?_
  refine TOps.assign rfl rfl ?_
  refine TOps.assign rfl rfl ?_
  refine TOps.next ?_
  refine Tri.seq ?_
  refine Tri.seq (Tri.region ?_)
  refine TOps.move rfl rfl ?_
  refine TOps.neqNil (T := 43) (o := none) rfl Try.underlying28 rfl ?_
  refine TOps.next ?_
  refine Tri.cond rfl (fun hc2 => ?_) (fun hc2 => ?_)
  · try simp only [decide_eq_true_eq, decide_eq_false_iff_not, Bool.and_eq_true, Bool.or_eq_true, Bool.not_eq_true', Bool.and_eq_false_iff, Bool.or_eq_false_iff, Bool.not_eq_false', Int.not_lt, Int.not_le, ne_eq, Decidable.not_not, Option.isSome_iff_ne_none, Option.isNone_iff_eq_none] at hc2
    have hfalse : False := by simp at hc2
    refine Tri.seq (Tri.region ?_)
    refine TOps.assign rfl rfl ?_
    refine TOps.next ?_
    exact hfalse.elim
  try simp only [decide_eq_true_eq, decide_eq_false_iff_not, Bool.and_eq_true, Bool.or_eq_true, Bool.not_eq_true', Bool.and_eq_false_iff, Bool.or_eq_false_iff, Bool.not_eq_false', Int.not_lt, Int.not_le, ne_eq, Decidable.not_not, Option.isSome_iff_ne_none, Option.isNone_iff_eq_none] at hc2
  refine Tri.fin ?_
  refine Nrm.next ?_
  refine Tri.seq (Tri.region ?_)
  first | refine TOps.fieldB 2 rfl Try.underlying24 rfl rfl ti3 rfl rfl rfl ?_ | refine TOps.fieldN 2 rfl Try.underlying24 rfl rfl ti3 rfl rfl rfl ?_
  refine TOps.load1 rfl ti3 (by first | exact Rd.lit (by repeat (first | exact List.Mem.head _ | apply List.Mem.tail)) rfl | (repeat (first | assumption | exact Rd.fld (by assumption) 2 rfl | apply Rd.up))) rfl ?_
  refine TOps.field0 rfl Try.underlying24 rfl rfl ti3 rfl rfl rfl ?_
  refine TOps.load1 rfl ti3 (by first | exact Rd.lit (by repeat (first | exact List.Mem.head _ | apply List.Mem.tail)) rfl | (repeat (first | assumption | exact Rd.fld (by assumption) 0 rfl | apply Rd.up))) rfl ?_
  refine TOps.lss rfl rfl rfl ?_
  refine TOps.move rfl rfl ?_
  refine' TOps.orB 23 rfl rfl rfl rfl (fun hg6_5 => ?_) ?_; rotate_left
  · have hg6_5' := hg6_5
    try simp only [decide_eq_true_eq, decide_eq_false_iff_not, Bool.and_eq_true, Bool.or_eq_true, Bool.not_eq_true', Bool.and_eq_false_iff, Bool.or_eq_false_iff, Bool.not_eq_false', Int.not_lt, Int.not_le, ne_eq, Decidable.not_not] at hg6_5'
    refine TOps.strip 5 false rfl rfl hg6_5 rfl ?_
    first | refine TOps.fieldB 2 rfl Try.underlying24 rfl rfl ti3 rfl rfl rfl ?_ | refine TOps.fieldN 2 rfl Try.underlying24 rfl rfl ti3 rfl rfl rfl ?_
    refine TOps.load1 rfl ti3 (by first | exact Rd.lit (by repeat (first | exact List.Mem.head _ | apply List.Mem.tail)) rfl | (repeat (first | assumption | exact Rd.fld (by assumption) 2 rfl | apply Rd.up))) rfl ?_
    refine TOps.field0 rfl Try.underlying24 rfl rfl ti3 rfl rfl rfl ?_
    refine TOps.load1 rfl ti3 (by first | exact Rd.lit (by repeat (first | exact List.Mem.head _ | apply List.Mem.tail)) rfl | (repeat (first | assumption | exact Rd.fld (by assumption) 0 rfl | apply Rd.up))) rfl ?_
    refine TOps.sub (r := F.top - F.vars) rfl rfl (by rw [wrapI (by omega) (by omega)]) rfl ?_
    first | refine TOps.fieldB 1 rfl Try.underlying24 rfl rfl ti22 rfl rfl rfl ?_ | refine TOps.fieldN 1 rfl Try.underlying24 rfl rfl ti22 rfl rfl rfl ?_
    refine TOps.load1 rfl ti22 (by first | exact Rd.lit (by repeat (first | exact List.Mem.head _ | apply List.Mem.tail)) rfl | (repeat (first | assumption | exact Rd.fld (by assumption) 1 rfl | apply Rd.up))) rfl ?_
    refine TOps.len rfl Try.underlying22 rfl ?_
    refine TOps.lss rfl rfl rfl ?_
    refine TOps.move rfl rfl ?_
    refine' TOps.andB 12 rfl rfl rfl rfl (fun hg6_15 => ?_) ?_; rotate_left
    · have hg6_15' := hg6_15
      try simp only [decide_eq_true_eq, decide_eq_false_iff_not, Bool.and_eq_true, Bool.or_eq_true, Bool.not_eq_true', Bool.and_eq_false_iff, Bool.or_eq_false_iff, Bool.not_eq_false', Int.not_lt, Int.not_le, ne_eq, Decidable.not_not] at hg6_15'
      refine TOps.strip 15 true rfl rfl hg6_15 rfl ?_
      obtain ⟨tb, taa, tao, tacap, tasp, rfl, rfl, htn⟩ := hN.at (i := (F.top - F.vars).toNat) (by omega)
      have htc := htn.cells
      first | refine TOps.fieldB 1 rfl Try.underlying24 rfl rfl ti22 rfl rfl rfl ?_ | refine TOps.fieldN 1 rfl Try.underlying24 rfl rfl ti22 rfl rfl rfl ?_
      refine TOps.load1 rfl ti22 (by first | exact Rd.lit (by repeat (first | exact List.Mem.head _ | apply List.Mem.tail)) rfl | (repeat (first | assumption | exact Rd.fld (by assumption) 1 rfl | apply Rd.up))) rfl ?_
      first | refine TOps.fieldB 2 rfl Try.underlying24 rfl rfl ti3 rfl rfl rfl ?_ | refine TOps.fieldN 2 rfl Try.underlying24 rfl rfl ti3 rfl rfl rfl ?_
      refine TOps.load1 rfl ti3 (by first | exact Rd.lit (by repeat (first | exact List.Mem.head _ | apply List.Mem.tail)) rfl | (repeat (first | assumption | exact Rd.fld (by assumption) 2 rfl | apply Rd.up))) rfl ?_
      refine TOps.field0 rfl Try.underlying24 rfl rfl ti3 rfl rfl rfl ?_
      refine TOps.load1 rfl ti3 (by first | exact Rd.lit (by repeat (first | exact List.Mem.head _ | apply List.Mem.tail)) rfl | (repeat (first | assumption | exact Rd.fld (by assumption) 0 rfl | apply Rd.up))) rfl ?_
      refine TOps.sub (r := F.top - F.vars) rfl rfl (by rw [wrapI (by omega) (by omega)]) rfl ?_
      refine TOps.indexAddr (off' := off + (F.top - F.vars).toNat * 3) rfl rfl Try.underlying22 ti34 (by omega) (by omega) (by simp) rfl ?_
      refine TOps.fieldN 2 rfl Try.underlying34 rfl rfl ti30 rfl rfl rfl ?_
      refine TOps.load1 rfl ti30 (htc.part 2 rfl) rfl ?_
      refine TOps.len (m := (F.nodes.getD (F.top - F.vars).toNat ⟨0, 0, []⟩).args.length) (by rw [show F.nodes.getD (F.top - F.vars).toNat ⟨0, 0, []⟩ = F.nodes[(F.top - F.vars).toNat]'(by omega) from by simp [show (F.top - F.vars).toNat < F.nodes.length by omega]]; rfl) Try.underlying30 rfl ?_
      refine TOps.eqlI rfl rfl rfl ?_
      refine TOps.blk rfl (by repeat (first | exact Ext.refl _ | refine Ext.cons rfl ?_)) (by repeat (first | exact Le.refl _ | apply Le.drop))
    refine TOps.blk rfl (by repeat (first | exact Ext.refl _ | refine Ext.cons rfl ?_)) (by repeat (first | exact Le.refl _ | apply Le.drop))
  refine TOps.assign rfl rfl ?_
  refine TOps.next ?_
  refine Tri.seq ?_
  refine Tri.seq (Tri.region ?_)
  obtain ⟨T, hTe⟩ : ∃ T, T = (decide (F.top < F.vars) || (decide (F.top - F.vars < F.nodes.length) && decide ((((F.nodes.getD (F.top - F.vars).toNat ⟨0, 0, []⟩).args.length : Nat) : Int) = 0))) := ⟨_, rfl⟩
  replace hT := hT T hTe
  rw [← hTe]
  refine TOps.move rfl rfl ?_
  refine TOps.len rfl Try.underlying30 rfl ?_
  refine TOps.move rfl rfl ?_
  refine TOps.next ?_
  refine Tri.range (X := Unit) (fun x k => [(1, .pointer (some ⟨b1, 0, none⟩)), (3, slV la 0 F.find.length lcap), (5, .bool (T || (F.find.take k).any (fun m => decide ((m : Int) = F.top)))), (63, slV la 0 F.find.length lcap)]) (fun x k => H2) (fun x k => True) (by omega) rfl rfl rfl (fun _ _ => ⟨rfl, rfl, rfl, rfl⟩) () trivial ⟨rfl, rfl, (by simp only [List.take_zero, List.any_nil, Bool.or_false]; rfl), rfl, trivial⟩ (by repeat (first | exact Le.refl _ | assumption | apply Le.drop)) (fun k x hlt hp => ?_) (fun x ac wc hp hS hM => ?_)
  · skip
    obtain ⟨lb, rfl, -, hl⟩ := nats_at hlr hlt
    rw [Nat.zero_add] at hl
    have hlk := Fm.find_lt hlt
    have hek := F.evs_lt F.find[k]
    have h24 := pow24 (k := F.vars.toNat) (by omega)
    refine Tri.seq (Tri.region ?_)
    refine TOps.move rfl rfl ?_
    refine TOps.indexAddr (off' := k) rfl rfl Try.underlying30 ti3 (by omega) (by omega) (by simp) rfl ?_
    refine TOps.load1 rfl ti3 (by first | exact Rd.lit (by repeat (first | exact List.Mem.head _ | apply List.Mem.tail)) rfl | (repeat (first | assumption | apply Rd.up))) rfl ?_
    refine TOps.assign rfl rfl ?_
    refine TOps.assign rfl rfl ?_
    refine TOps.next ?_
    refine Tri.seq (Tri.region ?_)
    refine TOps.loadN rfl ti24 (by first | exact Rd.all (by repeat (first | exact List.Mem.head _ | apply List.Mem.tail)) | (repeat (first | assumption | apply Rd.up))) rfl rfl ?_
    refine TOps.move rfl rfl ?_
    refine TOps.call (vs := [_, _]) Try.call13 ⟨rfl, rfl, trivial⟩ (mBelowOk_g hF0 hg F.find[k] hlk) rfl ?_
    rintro _ _ ⟨rfl, rfl⟩
    refine TOps.move rfl rfl ?_
    refine TOps.extract rfl rfl rfl ?_
    refine TOps.extract rfl rfl rfl ?_
    refine TOps.assign rfl rfl ?_
    refine TOps.assign rfl rfl ?_
    refine TOps.next ?_
    refine Tri.seq ?_
    refine Tri.seq (Tri.region ?_)
    refine TOps.move rfl rfl ?_
    refine TOps.neqNil (T := 43) (o := none) rfl Try.underlying28 rfl ?_
    refine TOps.move rfl rfl ?_
    refine' TOps.orB 11 rfl rfl rfl rfl (fun hg11_2 => ?_) ?_; rotate_left
    · have hg11_2' := hg11_2
      try simp only [decide_eq_true_eq, decide_eq_false_iff_not, Bool.and_eq_true, Bool.or_eq_true, Bool.not_eq_true', Bool.and_eq_false_iff, Bool.or_eq_false_iff, Bool.not_eq_false', Int.not_lt, Int.not_le, ne_eq, Decidable.not_not] at hg11_2'
      refine TOps.strip 2 false rfl rfl hg11_2 rfl ?_
      refine TOps.move rfl rfl ?_
      refine TOps.gtr rfl rfl rfl ?_
      refine TOps.move rfl rfl ?_
      refine' TOps.andB 7 rfl rfl rfl rfl (fun hg11_5 => ?_) ?_; rotate_left
      · have hg11_5' := hg11_5
        try simp only [decide_eq_true_eq, decide_eq_false_iff_not, Bool.and_eq_true, Bool.or_eq_true, Bool.not_eq_true', Bool.and_eq_false_iff, Bool.or_eq_false_iff, Bool.not_eq_false', Int.not_lt, Int.not_le, ne_eq, Decidable.not_not] at hg11_5'
        refine TOps.strip 5 true rfl rfl hg11_5 rfl ?_
        refine TOps.move rfl rfl ?_
        refine TOps.move rfl rfl ?_
        refine TOps.move rfl rfl ?_
        refine TOps.sub (r := ((k - 1 : Nat) : Int)) rfl rfl (by rw [wrapI (by omega) (by omega)]; omega) rfl ?_
        have hk1 : k - 1 < F.find.length := by omega
        obtain ⟨lb', hlbe, -, hl1⟩ := nats_at hlr hk1
        cases hlbe
        rw [Nat.zero_add] at hl1
        refine TOps.indexAddr (off' := k - 1) rfl rfl Try.underlying30 ti3 (by omega) (by omega) (by simp) rfl ?_
        refine TOps.load1 (v := .int .i64 (F.find.getD (k - 1) 0 : Nat)) rfl ti3 (by rw [show F.find.getD (k - 1) 0 = F.find[k - 1] from by simp [hk1]]; exact hl1) rfl ?_
        refine TOps.leq rfl rfl rfl ?_
        refine TOps.blk rfl (by repeat (first | exact Ext.refl _ | refine Ext.cons rfl ?_)) (by repeat (first | exact Le.refl _ | apply Le.drop))
      refine TOps.blk rfl (by repeat (first | exact Ext.refl _ | refine Ext.cons rfl ?_)) (by repeat (first | exact Le.refl _ | apply Le.drop))
    refine TOps.next ?_
    refine Tri.cond rfl (fun hc3 => ?_) (fun hc3 => ?_)
    · try simp only [decide_eq_true_eq, decide_eq_false_iff_not, Bool.and_eq_true, Bool.or_eq_true, Bool.not_eq_true', Bool.and_eq_false_iff, Bool.or_eq_false_iff, Bool.not_eq_false', Int.not_lt, Int.not_le, ne_eq, Decidable.not_not, Option.isSome_iff_ne_none, Option.isNone_iff_eq_none] at hc3
      have hfalse : False := by
        rcases hc3 with h | h
        · simp at h
        · have := Fm.find_mono (F := F) (j := k - 1) (k := k) (by omega) hlt
          rw [show F.find.getD (k - 1) 0 = F.find[k - 1] from by simp [show k - 1 < F.find.length by omega]] at h
          omega
      refine Tri.seq (Tri.region ?_)
      refine TOps.assign rfl rfl ?_
      refine TOps.next ?_
      exact hfalse.elim
    try simp only [decide_eq_true_eq, decide_eq_false_iff_not, Bool.and_eq_true, Bool.or_eq_true, Bool.not_eq_true', Bool.and_eq_false_iff, Bool.or_eq_false_iff, Bool.not_eq_false', Int.not_lt, Int.not_le, ne_eq, Decidable.not_not, Option.isSome_iff_ne_none, Option.isNone_iff_eq_none] at hc3
    refine Tri.fin ?_
    refine Nrm.next ?_
    refine Tri.seq ?_
    refine Tri.seq (Tri.region ?_)
    refine TOps.move rfl rfl ?_
    refine TOps.move rfl rfl ?_
    refine TOps.sliceHi (u := k) rfl rfl Try.underlying30 ti3 (by omega) rfl ?_
    refine TOps.len rfl Try.underlying30 rfl ?_
    refine TOps.move rfl rfl ?_
    refine TOps.next ?_
    refine Tri.range (X := Unit) (fun y j => [(1, .pointer (some ⟨b1, 0, none⟩)), (3, slV (some lb) 0 F.find.length lcap), (5, .bool (T || (F.find.take k).any (fun m => decide ((m : Int) = F.top)))), (63, slV (some lb) 0 F.find.length lcap), (64, .int .i64 F.find.length), (65, .int .i64 k), (7, .int .i64 (F.find[k] : Nat)), (8, .int .i64 (F.evs F.find[k] : Nat)), (93, slV (some lb) 0 k lcap)]) (fun y j => H2) (fun y j => True) (by omega) rfl rfl rfl (fun _ _ => ⟨rfl, rfl, rfl, rfl⟩) () trivial ⟨rfl, rfl, rfl, rfl, rfl, rfl, rfl, rfl, rfl, trivial⟩ (by repeat (first | exact Le.refl _ | assumption | apply Le.drop)) (fun j y hltj hpj => ?_) (fun y ac wc hpj hS hM => ?_)
    · skip
      have hjl : j < F.find.length := by omega
      obtain ⟨lb', hlbe, -, hl1⟩ := nats_at hlr hjl
      cases hlbe
      rw [Nat.zero_add] at hl1
      have hlj := Fm.find_lt hjl
      have hej := F.evs_lt F.find[j]
      have hnest := law_nests hg (List.getElem_mem hlt) (List.getElem_mem hjl) (Fm.find_mono (F := F) hltj hlt)
      have hand : F.evs F.find[k] &&& F.evs F.find[j] ≤ F.evs F.find[k] := Nat.and_le_left
      refine Tri.seq (Tri.region ?_)
      refine TOps.indexAddr (off' := j) rfl rfl Try.underlying30 ti3 (by omega) (by omega) (by simp) rfl ?_
      refine TOps.load1 rfl ti3 (by first | exact Rd.lit (by repeat (first | exact List.Mem.head _ | apply List.Mem.tail)) rfl | (repeat (first | assumption | apply Rd.up))) rfl ?_
      refine TOps.assign rfl rfl ?_
      refine TOps.next ?_
      refine Tri.seq (Tri.region ?_)
      refine TOps.loadN rfl ti24 (by first | exact Rd.all (by repeat (first | exact List.Mem.head _ | apply List.Mem.tail)) | (repeat (first | assumption | apply Rd.up))) rfl rfl ?_
      refine TOps.move rfl rfl ?_
      refine TOps.call (vs := [_, _]) Try.call13 ⟨rfl, rfl, trivial⟩ (mBelowOk_g hF0 hg F.find[j] hlj) rfl ?_
      rintro _ _ ⟨rfl, rfl⟩
      refine TOps.move rfl rfl ?_
      refine TOps.extract rfl rfl rfl ?_
      refine TOps.extract rfl rfl rfl ?_
      refine TOps.assign rfl rfl ?_
      refine TOps.assign rfl rfl ?_
      refine TOps.next ?_
      refine Tri.seq (Tri.region ?_)
      refine TOps.move rfl rfl ?_
      refine TOps.neqNil (T := 43) (o := none) rfl Try.underlying28 rfl ?_
      refine TOps.move rfl rfl ?_
      refine' TOps.orB 18 rfl rfl rfl rfl (fun hg17_2 => ?_) ?_; rotate_left
      · have hg17_2' := hg17_2
        try simp only [decide_eq_true_eq, decide_eq_false_iff_not, Bool.and_eq_true, Bool.or_eq_true, Bool.not_eq_true', Bool.and_eq_false_iff, Bool.or_eq_false_iff, Bool.not_eq_false', Int.not_lt, Int.not_le, ne_eq, Decidable.not_not] at hg17_2'
        refine TOps.strip 2 false rfl rfl hg17_2 rfl ?_
        refine TOps.move rfl rfl ?_
        refine TOps.move rfl rfl ?_
        refine TOps.and rfl rfl (iand_nat (by omega) (by omega)) rfl ?_
        refine TOps.neqI rfl rfl rfl ?_
        refine TOps.move rfl rfl ?_
        refine' TOps.andB 5 rfl rfl rfl rfl (fun hg17_7 => ?_) ?_; rotate_left
        · have hg17_7' := hg17_7
          try simp only [decide_eq_true_eq, decide_eq_false_iff_not, Bool.and_eq_true, Bool.or_eq_true, Bool.not_eq_true', Bool.and_eq_false_iff, Bool.or_eq_false_iff, Bool.not_eq_false', Int.not_lt, Int.not_le, ne_eq, Decidable.not_not] at hg17_7'
          refine TOps.strip 7 true rfl rfl hg17_7 rfl ?_
          refine TOps.move rfl rfl ?_
          refine TOps.move rfl rfl ?_
          refine TOps.and rfl rfl (iand_nat (by omega) (by omega)) rfl ?_
          refine TOps.move rfl rfl ?_
          refine TOps.neqI rfl rfl rfl ?_
          refine TOps.blk rfl (by repeat (first | exact Ext.refl _ | refine Ext.cons rfl ?_)) (by repeat (first | exact Le.refl _ | apply Le.drop))
        refine TOps.move rfl rfl ?_
        refine' TOps.andB 5 rfl rfl rfl rfl (fun hg17_14 => ?_) ?_; rotate_left
        · have hg17_14' := hg17_14
          try simp only [decide_eq_true_eq, decide_eq_false_iff_not, Bool.and_eq_true, Bool.or_eq_true, Bool.not_eq_true', Bool.and_eq_false_iff, Bool.or_eq_false_iff, Bool.not_eq_false', Int.not_lt, Int.not_le, ne_eq, Decidable.not_not] at hg17_14'
          refine TOps.strip 14 true rfl rfl hg17_14 rfl ?_
          refine TOps.move rfl rfl ?_
          refine TOps.move rfl rfl ?_
          refine TOps.and rfl rfl (iand_nat (by omega) (by omega)) rfl ?_
          refine TOps.move rfl rfl ?_
          refine TOps.neqI rfl rfl rfl ?_
          refine TOps.blk rfl (by repeat (first | exact Ext.refl _ | refine Ext.cons rfl ?_)) (by repeat (first | exact Le.refl _ | apply Le.drop))
        refine TOps.blk rfl (by repeat (first | exact Ext.refl _ | refine Ext.cons rfl ?_)) (by repeat (first | exact Le.refl _ | apply Le.drop))
      refine TOps.next ?_
      refine Tri.cond rfl (fun hc4 => ?_) (fun hc4 => ?_)
      · try simp only [decide_eq_true_eq, decide_eq_false_iff_not, Bool.and_eq_true, Bool.or_eq_true, Bool.not_eq_true', Bool.and_eq_false_iff, Bool.or_eq_false_iff, Bool.not_eq_false', Int.not_lt, Int.not_le, ne_eq, Decidable.not_not, Option.isSome_iff_ne_none, Option.isNone_iff_eq_none] at hc4
        have hfalse : False := by
          rcases hc4 with h | h
          · simp at h
          · rcases hnest with h2 | h2 <;> omega
        refine Tri.seq (Tri.region ?_)
        refine TOps.assign rfl rfl ?_
        refine TOps.next ?_
        exact hfalse.elim
      try simp only [decide_eq_true_eq, decide_eq_false_iff_not, Bool.and_eq_true, Bool.or_eq_true, Bool.not_eq_true', Bool.and_eq_false_iff, Bool.or_eq_false_iff, Bool.not_eq_false', Int.not_lt, Int.not_le, ne_eq, Decidable.not_not, Option.isSome_iff_ne_none, Option.isNone_iff_eq_none] at hc4
      refine Tri.fin ?_
      refine Nrm.body () trivial ⟨rfl, rfl, rfl, rfl, rfl, rfl, rfl, rfl, rfl, rfl, rfl, trivial⟩ (by repeat (first | exact Le.refl _ | assumption | apply Le.drop))
    refine Nrm.of hS hM ?_
    refine Nrm.next ?_
    refine Tri.region ?_
    refine TOps.move rfl rfl ?_
    refine TOps.move rfl rfl ?_
    refine' TOps.orB 4 rfl rfl rfl rfl (fun hg20_1 => ?_) ?_; rotate_left
    · have hg20_1' := hg20_1
      try simp only [decide_eq_true_eq, decide_eq_false_iff_not, Bool.and_eq_true, Bool.or_eq_true, Bool.not_eq_true', Bool.and_eq_false_iff, Bool.or_eq_false_iff, Bool.not_eq_false', Int.not_lt, Int.not_le, ne_eq, Decidable.not_not] at hg20_1'
      refine TOps.strip 1 false rfl rfl hg20_1 rfl ?_
      refine TOps.move rfl rfl ?_
      first | refine TOps.fieldB 2 rfl Try.underlying24 rfl rfl ti3 rfl rfl rfl ?_ | refine TOps.fieldN 2 rfl Try.underlying24 rfl rfl ti3 rfl rfl rfl ?_
      refine TOps.load1 rfl ti3 (by first | exact Rd.lit (by repeat (first | exact List.Mem.head _ | apply List.Mem.tail)) rfl | (repeat (first | assumption | exact Rd.fld (by assumption) 2 rfl | apply Rd.up))) rfl ?_
      refine TOps.eqlI rfl rfl rfl ?_
      refine TOps.blk rfl (by repeat (first | exact Ext.refl _ | refine Ext.cons rfl ?_)) (by repeat (first | exact Le.refl _ | apply Le.drop))
    refine TOps.assign rfl rfl ?_
    refine TOps.fin ?_
    refine Nrm.body () trivial ⟨rfl, rfl, rfl, rfl, (by refine congrArg (fun z : Bool => some (Value.bool z)) ?_; rw [any_take_succ' _ hlt, Bool.or_assoc]), rfl, trivial⟩ (by repeat (first | exact Le.refl _ | assumption | apply Le.drop))
  rw [List.take_length] at hS
  refine Nrm.of hS hM ?_
  refine Nrm.next ?_
  refine Tri.seq (Tri.region ?_)
  refine TOps.move rfl rfl ?_
  refine TOps.assign rfl rfl ?_
  refine TOps.next ?_
  refine Tri.ret1 (H' := H) Try.results3 (fun _ _ h => h) (.tmp rfl) l2 ⟨by rw [hT], rfl⟩
end Go.Proofs
