import Derived.Test.YtffghipagnjggaaE27
import Derived.Test.YtffghipagnjggaaGL86
namespace Go.Proofs
open Go.GL
set_option linter.unusedVariables false
set_option linter.unusedSimpArgs false
theorem votes_g {H : List Ent} {fv : Value} {F : Fm} (hF : RF H fv F) (hk : F.ok) : Gives Try.prog 12 [fv] H (NewN 40 (F.expF 0) (F.expE 0) H) := by
  have hF0 := hF
  obtain ⟨na, off, cap, nsp, rfl, hN⟩ := hF
  refine Gives.enter Try.func12 rfl (by exact Try.ntmps12) rfl ?_
  refine Tri.seq (Tri.region ?_)
  refine TOps.boxN rfl ti24 rfl rfl (fun b1 => ?_)
  refine TOps.hide (fun H1 l1 s1 r1 => ?_)
  replace hF0 := hF0.le l1
  refine TOps.alloc ti24 rfl (fun b2 => ?_)
  refine TOps.assign rfl rfl ?_
  refine TOps.next ?_
  refine Tri.seq (Tri.region ?_)
  refine TOps.loadN rfl ti24 (by first | exact Rd.all (by repeat (first | exact List.Mem.head _ | apply List.Mem.tail)) | (repeat (first | assumption | apply Rd.up))) rfl rfl ?_
  refine TOps.call (vs := [_, _]) Try.call30 ⟨rfl, rfl, trivial⟩ (emapped_g (what := 0) (hF0.le (Le.drop (Le.refl _))) hk Try.call31 votes1_g) rfl ?_
  rintro _ _ ⟨a, c, NN, rfl, hN2, rfl⟩
  refine TOps.extract rfl rfl rfl ?_
  refine TOps.extract rfl rfl rfl ?_
  refine TOps.storeN rfl rfl ti24 rfl rfl (Upd.app Upd.here NN) (by simp) ?_
  refine TOps.assign rfl rfl ?_
  refine TOps.next ?_
  refine Tri.ret2 (H' := NN ++ H) Try.results12 (fun _ _ h => h) (.cellN rfl rfl ti24 (Rd.all (List.mem_append_right _ (List.Mem.head _))) rfl) (.tmp rfl) (sub_app (List.Sublist.cons _ s1)) ⟨a, c, NN, rfl, hN2, rfl⟩
theorem xors_g {H : List Ent} {fv : Value} {F : Fm} (hF : RF H fv F) (hk : F.ok) : Gives Try.prog 17 [fv] H (NewN 40 (F.expF 1) (F.expE 1) H) := by
  have hF0 := hF
  obtain ⟨na, off, cap, nsp, rfl, hN⟩ := hF
  refine Gives.enter Try.func17 rfl (by exact Try.ntmps17) rfl ?_
  refine Tri.seq (Tri.region ?_)
  refine TOps.boxN rfl ti24 rfl rfl (fun b1 => ?_)
  refine TOps.hide (fun H1 l1 s1 r1 => ?_)
  replace hF0 := hF0.le l1
  refine TOps.alloc ti24 rfl (fun b2 => ?_)
  refine TOps.assign rfl rfl ?_
  refine TOps.next ?_
  refine Tri.seq (Tri.region ?_)
  refine TOps.loadN rfl ti24 (by first | exact Rd.all (by repeat (first | exact List.Mem.head _ | apply List.Mem.tail)) | (repeat (first | assumption | apply Rd.up))) rfl rfl ?_
  refine TOps.call (vs := [_, _]) Try.call30 ⟨rfl, rfl, trivial⟩ (emapped_g (what := 1) (hF0.le (Le.drop (Le.refl _))) hk Try.call36 xors1_g) rfl ?_
  rintro _ _ ⟨a, c, NN, rfl, hN2, rfl⟩
  refine TOps.extract rfl rfl rfl ?_
  refine TOps.extract rfl rfl rfl ?_
  refine TOps.storeN rfl rfl ti24 rfl rfl (Upd.app Upd.here NN) (by simp) ?_
  refine TOps.assign rfl rfl ?_
  refine TOps.next ?_
  refine Tri.ret2 (H' := NN ++ H) Try.results17 (fun _ _ h => h) (.cellN rfl rfl ti24 (Rd.all (List.mem_append_right _ (List.Mem.head _))) rfl) (.tmp rfl) (sub_app (List.Sublist.cons _ s1)) ⟨a, c, NN, rfl, hN2, rfl⟩
theorem binary_g {H : List Ent} {fv : Value} {F : Fm} (hF : RF H fv F) (hk : F.ok) : Gives Try.prog 22 [fv] H (NewN 40 (F.expF 2) (F.expE 2) H) := by
  have hF0 := hF
  obtain ⟨na, off, cap, nsp, rfl, hN⟩ := hF
  refine Gives.enter Try.func22 rfl (by exact Try.ntmps22) rfl ?_
  refine Tri.seq (Tri.region ?_)
  refine TOps.boxN rfl ti24 rfl rfl (fun b1 => ?_)
  refine TOps.hide (fun H1 l1 s1 r1 => ?_)
  replace hF0 := hF0.le l1
  refine TOps.alloc ti24 rfl (fun b2 => ?_)
  refine TOps.assign rfl rfl ?_
  refine TOps.next ?_
  refine Tri.seq (Tri.region ?_)
  refine TOps.loadN rfl ti24 (by first | exact Rd.all (by repeat (first | exact List.Mem.head _ | apply List.Mem.tail)) | (repeat (first | assumption | apply Rd.up))) rfl rfl ?_
  refine TOps.call (vs := [_, _]) Try.call30 ⟨rfl, rfl, trivial⟩ (emapped_g (what := 2) (hF0.le (Le.drop (Le.refl _))) hk Try.call40 binary1_g) rfl ?_
  rintro _ _ ⟨a, c, NN, rfl, hN2, rfl⟩
  refine TOps.extract rfl rfl rfl ?_
  refine TOps.extract rfl rfl rfl ?_
  refine TOps.storeN rfl rfl ti24 rfl rfl (Upd.app Upd.here NN) (by simp) ?_
  refine TOps.assign rfl rfl ?_
  refine TOps.next ?_
  refine Tri.ret2 (H' := NN ++ H) Try.results22 (fun _ _ h => h) (.cellN rfl rfl ti24 (Rd.all (List.mem_append_right _ (List.Mem.head _))) rfl) (.tmp rfl) (sub_app (List.Sublist.cons _ s1)) ⟨a, c, NN, rfl, hN2, rfl⟩
theorem plain_g {H : List Ent} {fv : Value} {F : Fm} (hF : RF H fv F) (hk : F.ok) : Gives Try.prog 18 [fv] H (NewN 40 F.plainF F.plainE H) := by
  have hF0 := hF
  have hok := expF_ok F 0
  obtain ⟨na, off, cap, nsp, rfl, hN⟩ := hF
  refine Gives.enter Try.func18 rfl (by exact Try.ntmps18) rfl ?_
  refine Tri.seq (Tri.region ?_)
  refine TOps.boxN rfl ti24 rfl rfl (fun b1 => ?_)
  refine TOps.hide (fun H1 l1 s1 r1 => ?_)
  replace hF0 := hF0.le l1
  refine TOps.alloc ti24 rfl (fun b2 => ?_)
  refine TOps.assign rfl rfl ?_
  refine TOps.next ?_
  refine Tri.seq (Tri.region ?_)
  refine TOps.loadN rfl ti24 (by first | exact Rd.all (by repeat (first | exact List.Mem.head _ | apply List.Mem.tail)) | (repeat (first | assumption | apply Rd.up))) rfl rfl ?_
  refine TOps.call (vs := [_]) Try.call12 ⟨rfl, trivial⟩ (votes_g (hF0.le (Le.drop (Le.refl _))) hk) rfl ?_
  rintro _ _ ⟨a, c, NN, rfl, hN2, rfl⟩
  refine TOps.move rfl rfl ?_
  refine TOps.extract rfl rfl rfl ?_
  refine TOps.extract rfl rfl rfl ?_
  refine TOps.alloc ti24 rfl (fun b4 => ?_)
  refine TOps.storeN rfl rfl ti24 rfl rfl (by repeat (first | exact Upd.here | apply Upd.there)) (by first | decide | (simp; done) | (simp; omega)) ?_
  have hX : RF (row (some b4) 24 3 1 [.int .i64 (F.expF 0).vars, slV a 0 (F.expF 0).nodes.length c, .int .i64 (F.expF 0).top] :: (NN ++ (row (some b2) 24 3 1 [.int .i64 0, slV none 0 0 0, .int .i64 0] :: H1))) (.agg (List.toArray [.int .i64 (F.expF 0).vars, slV a 0 (F.expF 0).nodes.length c, .int .i64 (F.expF 0).top])) (F.expF 0) := ⟨a, 0, c, none, rfl, hN2.le (Le.drop (Le.sub (List.sublist_append_left _ _)))⟩
  refine TOps.assign rfl rfl ?_
  refine TOps.next ?_
  refine Tri.seq ?_
  refine Tri.seq (Tri.region ?_)
  refine TOps.move rfl rfl ?_
  refine TOps.neqNil rfl Try.underlying28 rfl ?_
  refine TOps.next ?_
  refine Tri.cond rfl (fun hc1 => ?_) (fun hc1 => ?_)
  · try simp only [decide_eq_true_eq, decide_eq_false_iff_not, Bool.and_eq_true, Bool.or_eq_true, Bool.not_eq_true', Bool.and_eq_false_iff, Bool.or_eq_false_iff, Bool.not_eq_false', Int.not_lt, Int.not_le, ne_eq, Decidable.not_not, Option.isSome_iff_ne_none, Option.isNone_iff_eq_none] at hc1
    obtain ⟨er, her⟩ := Option.ne_none_iff_exists'.1 hc1
    have e1 : F.plainE = some er := by unfold Fm.plainE; rw [her]
    have e2 : F.plainF = Fm.zero := by unfold Fm.plainF; rw [her]
    refine Tri.seq (Tri.region ?_)
    refine TOps.buildStruct (vs := []) (xs := [_, _, _]) [(0, 1), (1, 1), (2, 1)] Try.underlying24 ti24 (fun w => by simp) trivial rfl rfl ?_
    refine TOps.move rfl rfl ?_
    refine TOps.storeN rfl rfl ti24 rfl rfl (Upd.there (Upd.app Upd.here NN)) (by simp) ?_
    refine TOps.assign rfl rfl ?_
    refine TOps.next ?_
    refine Tri.ret2 (H' := H) Try.results18 (fun _ _ h => h) (.cellN rfl rfl ti24 (Rd.all (List.Mem.tail _ (List.mem_append_right _ (List.Mem.head _)))) rfl) (.tmp rfl) (Le.drop ((Le.sub (List.sublist_append_right _ _)).trans (Le.drop l1))) ⟨none, 0, [], by rw [e1, e2, her]; rfl, by rw [e2]; exact .inl rfl, rfl⟩
  try simp only [decide_eq_true_eq, decide_eq_false_iff_not, Bool.and_eq_true, Bool.or_eq_true, Bool.not_eq_true', Bool.and_eq_false_iff, Bool.or_eq_false_iff, Bool.not_eq_false', Int.not_lt, Int.not_le, ne_eq, Decidable.not_not, Option.isSome_iff_ne_none, Option.isNone_iff_eq_none] at hc1
  have he : F.expE 0 = none := by simpa using hc1
  have e1 : F.plainE = (F.expF 0).expE 1 := by unfold Fm.plainE; rw [he]
  have e2 : F.plainF = (F.expF 0).expF 1 := by unfold Fm.plainF; rw [he]
  refine Tri.fin ?_
  refine Nrm.next ?_
  refine Tri.seq (Tri.region ?_)
  refine TOps.loadN rfl ti24 (by first | exact Rd.all (by repeat (first | exact List.Mem.head _ | apply List.Mem.tail)) | (repeat (first | assumption | apply Rd.up))) rfl rfl ?_
  refine TOps.call (vs := [_]) Try.call17 ⟨rfl, trivial⟩ (xors_g hX hok) rfl ?_
  rintro _ _ ⟨a2, c2, N3, rfl, hN3, rfl⟩
  refine TOps.extract rfl rfl rfl ?_
  refine TOps.extract rfl rfl rfl ?_
  refine TOps.storeN rfl rfl ti24 rfl rfl (Upd.app (Upd.there (Upd.app Upd.here NN)) N3) (by simp) ?_
  refine TOps.assign rfl rfl ?_
  refine TOps.next ?_
  rw [e1, e2]
  refine Tri.ret2 (H' := N3 ++ H) Try.results18 (fun _ _ h => h) (.cellN rfl rfl ti24 (Rd.all (List.mem_append_right _ (List.Mem.tail _ (List.mem_append_right _ (List.Mem.head _))))) rfl) (.tmp rfl) (Le.sub ((List.Sublist.refl _).append (List.Sublist.cons _ ((List.Sublist.cons _ s1).trans (List.sublist_append_right _ _))))) ⟨a2, c2, N3, rfl, hN3, rfl⟩
theorem heavy27_g {H : List Ent} {fv : Value} {F : Fm} (hF : RF H fv F) (hk : F.ok) : Gives Try.prog 11 [fv] H (R1 (.bool F.heavy27) H) := by
  have h3 := hk.2.2.2
  obtain ⟨na, off, ncap, nsp, rfl, hN⟩ := hF
  refine Gives.enter Try.func11 rfl (by exact Try.ntmps11) rfl ?_
  refine Tri.seq (Tri.region ?_)
  refine TOps.boxN rfl ti24 rfl rfl (fun b1 => ?_)
  refine TOps.hide (fun H1 l1 s1 r1 => ?_)
  replace hN := hN.le l1
  refine TOps.assign rfl rfl ?_
  refine TOps.next ?_
  refine Tri.seq (Tri.region ?_)
  refine TOps.assign rfl rfl ?_
  refine TOps.next ?_
  refine Tri.seq ?_
  refine Tri.seq (Tri.region ?_)
  first | refine TOps.fieldB 1 rfl Try.underlying24 rfl rfl ti22 rfl rfl rfl ?_ | refine TOps.fieldN 1 rfl Try.underlying24 rfl rfl ti22 rfl rfl rfl ?_
  refine TOps.load1 rfl ti22 (by first | exact Rd.lit (by repeat (first | exact List.Mem.head _ | apply List.Mem.tail)) rfl | (repeat (first | assumption | exact Rd.fld (by assumption) 1 rfl | apply Rd.up))) rfl ?_
  refine TOps.len rfl Try.underlying22 rfl ?_
  refine TOps.move rfl rfl ?_
  refine TOps.next ?_
  refine Tri.range (X := Unit) (fun x k => [(1, .pointer (some ⟨b1, 0, none⟩)), (3, .int .i64 (argSumI (F.nodes.take k))), (7, slV na off F.nodes.length ncap nsp)]) (fun x k => H1) (fun x k => True) (by omega) rfl rfl rfl (fun _ _ => ⟨rfl, rfl, rfl, rfl⟩) () trivial ⟨rfl, rfl, rfl, trivial⟩ (by repeat (first | exact Le.refl _ | assumption | apply Le.drop)) (fun k x hlt hp => ?_) (fun x ac wc hp hS hM => ?_)
  · skip
    obtain ⟨nb, aa, ao, acap, asp, rfl, rfl, hn⟩ := hN.at hlt
    have hcells := hn.cells
    refine Tri.seq (Tri.region ?_)
    refine TOps.indexAddr (off' := off + k * 3) rfl rfl Try.underlying22 ti43 (by omega) (by omega) (by simp) rfl ?_
    refine TOps.loadN rfl ti43 (by first | exact Rd.all (by repeat (first | exact List.Mem.head _ | apply List.Mem.tail)) | (repeat (first | assumption | apply Rd.up))) rfl rfl ?_
    refine TOps.alloc ti43 rfl (fun b5 => ?_)
    refine TOps.storeN rfl rfl ti43 rfl rfl (by repeat (first | exact Upd.here | apply Upd.there)) (by first | decide | (simp; done) | (simp; omega)) ?_
    refine TOps.next ?_
    refine Tri.region ?_
    refine TOps.move rfl rfl ?_
    first | refine TOps.fieldB 2 rfl Try.underlying43 rfl rfl ti41 rfl rfl rfl ?_ | refine TOps.fieldN 2 rfl Try.underlying43 rfl rfl ti41 rfl rfl rfl ?_
    refine TOps.load1 rfl ti41 (by first | exact Rd.lit (by repeat (first | exact List.Mem.head _ | apply List.Mem.tail)) rfl | (repeat (first | assumption | exact Rd.fld (by assumption) 2 rfl | apply Rd.up))) rfl ?_
    refine TOps.len rfl Try.underlying41 rfl ?_
    refine TOps.add (r := argSumI (F.nodes.take (k + 1))) rfl rfl (argSumI_take_succ hlt).symm rfl ?_
    refine TOps.assign rfl rfl ?_
    refine TOps.fin ?_
    refine Nrm.body () trivial ⟨rfl, rfl, rfl, rfl, rfl, trivial⟩ (by repeat (first | exact Le.refl _ | assumption | apply Le.drop))
  rw [List.take_length] at hS
  refine Nrm.of hS hM ?_
  refine Nrm.next ?_
  refine Tri.seq (Tri.region ?_)
  first | refine TOps.fieldB 1 rfl Try.underlying24 rfl rfl ti22 rfl rfl rfl ?_ | refine TOps.fieldN 1 rfl Try.underlying24 rfl rfl ti22 rfl rfl rfl ?_
  refine TOps.load1 rfl ti22 (by first | exact Rd.lit (by repeat (first | exact List.Mem.head _ | apply List.Mem.tail)) rfl | (repeat (first | assumption | exact Rd.fld (by assumption) 1 rfl | apply Rd.up))) rfl ?_
  refine TOps.len rfl Try.underlying22 rfl ?_
  refine TOps.gtr rfl rfl rfl ?_
  refine TOps.move rfl rfl ?_
  refine' TOps.orB 2 rfl rfl rfl rfl (fun hg7_4 => ?_) ?_; rotate_left
  · have hg7_4' := hg7_4
    try simp only [decide_eq_true_eq, decide_eq_false_iff_not, Bool.and_eq_true, Bool.or_eq_true, Bool.not_eq_true', Bool.and_eq_false_iff, Bool.or_eq_false_iff, Bool.not_eq_false', Int.not_lt, Int.not_le, ne_eq, Decidable.not_not] at hg7_4'
    refine TOps.strip 4 false rfl rfl hg7_4 rfl ?_
    refine TOps.move rfl rfl ?_
    refine TOps.gtr rfl rfl rfl ?_
    refine TOps.blk rfl (by repeat (first | exact Ext.refl _ | refine Ext.cons rfl ?_)) (by repeat (first | exact Le.refl _ | apply Le.drop))
  refine TOps.assign rfl rfl ?_
  refine TOps.next ?_
  refine Tri.ret1 (H' := H) Try.results11 (fun _ _ h => h) (.tmp rfl) l1 ⟨rfl, rfl⟩
theorem exV_rf {H : List Ent} {b8 b6 c1 c2 : Nat} (h8 : row (some b8) 43 3 c1 [.int .i64 4, .int .i64 2, slV (some b6) 0 3 3] ∈ H) (h6 : row (some b6) 3 1 c2 [.int .i64 0, .int .i64 1, .int .i64 2] ∈ H) : RF H (.agg (List.toArray [.int .i64 3, slV (some b8) 0 1 c1, .int .i64 3])) exV27 := by
  refine ⟨some b8, 0, c1, none, rfl, RNodes.ofRow (E := 43) (sz := 3) (cap := c1) (qs := [(some b6, 0, 3, none)]) h8 rfl ?_⟩
  intro i d q hd hq
  rcases i with _ | i
  · simp [exV27] at hd hq; subst hd hq; exact RInts.ofRow (xs := [0, 1, 2]) h6
  · simp [exV27] at hd
theorem exX_rf {H : List Ent} {b8 b6 c1 c2 : Nat} (h8 : row (some b8) 43 3 c1 [.int .i64 5, .int .i64 0, slV (some b6) 0 2 2] ∈ H) (h6 : row (some b6) 3 1 c2 [.int .i64 0, .int .i64 1] ∈ H) : RF H (.agg (List.toArray [.int .i64 2, slV (some b8) 0 1 c1, .int .i64 2])) exX27 := by
  refine ⟨some b8, 0, c1, none, rfl, RNodes.ofRow (E := 43) (sz := 3) (cap := c1) (qs := [(some b6, 0, 2, none)]) h8 rfl ?_⟩
  intro i d q hd hq
  rcases i with _ | i
  · simp [exX27] at hd hq; subst hd hq; exact RInts.ofRow (xs := [0, 1]) h6
  · simp [exX27] at hd
set_option maxHeartbeats 1000000 in
theorem awake27_g {H : List Ent} : Gives Try.prog 10 [] H (R1 (.bool true) H) := by
  have kV := exV27_good.ok
  have kX := exX27_good.ok
  refine Gives.enter Try.func10 rfl (by exact Try.ntmps10) rfl ?_
  refine Tri.seq (Tri.region ?_)
  refine TOps.assign rfl rfl ?_
  refine TOps.next ?_
  refine Tri.seq (Tri.region ?_)
  refine TOps.buildSlice (vs := [_, _, _]) (xs := [_, _, _]) Try.underlying41 ti3 ⟨rfl, rfl, rfl, rfl, rfl, rfl, trivial⟩ rfl rfl rfl rfl rfl rfl (by decide) rfl (fun b6 => ?_)
  refine TOps.buildStruct (vs := [(0, _), (1, _), (2, _)]) (xs := [_, _, _]) [(0, 1), (1, 1), (2, 1)] Try.underlying43 ti43 (fun w => by simp) ⟨rfl, rfl, rfl, rfl, rfl, rfl, trivial⟩ rfl rfl ?_
  refine TOps.buildSlice (vs := [_]) (xs := [_, _, _]) Try.underlying22 ti43 ⟨rfl, rfl, trivial⟩ rfl rfl rfl rfl rfl rfl (by decide) rfl (fun b8 => ?_)
  refine TOps.buildStruct (vs := [(0, _), (2, _), (1, _)]) (xs := [_, _, _]) [(0, 1), (1, 1), (2, 1)] Try.underlying24 ti24 (fun w => by simp) ⟨rfl, rfl, rfl, rfl, rfl, rfl, trivial⟩ rfl rfl ?_
  refine TOps.call (vs := [_]) Try.call12 ⟨rfl, trivial⟩ (votes_g (exV_rf (b8 := b8) (b6 := b6) (by repeat (first | exact List.Mem.head _ | apply List.Mem.tail)) (by repeat (first | exact List.Mem.head _ | apply List.Mem.tail))) kV) rfl ?_
  rintro _ _ ⟨a, c, NN, rfl, hN2, rfl⟩
  rw [exV27_e]
  rw [exV27_f] at hN2 ⊢
  refine TOps.move rfl rfl ?_
  refine TOps.extract rfl rfl rfl ?_
  refine TOps.extract rfl rfl rfl ?_
  refine TOps.alloc ti24 rfl (fun b1 => ?_)
  refine TOps.storeN rfl rfl ti24 rfl rfl (by repeat (first | exact Upd.here | apply Upd.there)) (by first | decide | (simp; done) | (simp; omega)) ?_
  refine TOps.hide (fun H1 l1 s1 r1 => ?_)
  replace r1 : Rd H1 b1 0 [.int .i64 3, slV a 0 4 c, .int .i64 6] := r1
  have hX : RNodes H1 a 0 exW27.nodes := hN2.le (l1.trans (Le.sub (List.sublist_append_left _ _)))
  have hL : Le H1 H := l1.trans ((Le.sub (List.sublist_append_right _ _)).trans (Le.drop (Le.drop (Le.refl _))))
  refine TOps.assign rfl rfl ?_
  refine TOps.next ?_
  refine Tri.seq (Tri.region ?_)
  refine TOps.buildSlice (vs := [_, _]) (xs := [_, _]) Try.underlying41 ti3 ⟨rfl, rfl, rfl, rfl, trivial⟩ rfl rfl rfl rfl rfl rfl (by decide) rfl (fun b14 => ?_)
  refine TOps.buildStruct (vs := [(0, _), (2, _)]) (xs := [_, _, _]) [(0, 1), (1, 1), (2, 1)] Try.underlying43 ti43 (fun w => by simp) ⟨rfl, rfl, rfl, rfl, trivial⟩ rfl rfl ?_
  refine TOps.buildSlice (vs := [_]) (xs := [_, _, _]) Try.underlying22 ti43 ⟨rfl, rfl, trivial⟩ rfl rfl rfl rfl rfl rfl (by decide) rfl (fun b16 => ?_)
  refine TOps.buildStruct (vs := [(0, _), (2, _), (1, _)]) (xs := [_, _, _]) [(0, 1), (1, 1), (2, 1)] Try.underlying24 ti24 (fun w => by simp) ⟨rfl, rfl, rfl, rfl, rfl, rfl, trivial⟩ rfl rfl ?_
  refine TOps.call (vs := [_]) Try.call17 ⟨rfl, trivial⟩ (xors_g (exX_rf (b8 := b16) (b6 := b14) (by repeat (first | exact List.Mem.head _ | apply List.Mem.tail)) (by repeat (first | exact List.Mem.head _ | apply List.Mem.tail))) kX) rfl ?_
  rintro _ _ ⟨a', c', N3, rfl, hN3, rfl⟩
  rw [exX27_e]
  rw [exX27_f] at hN3 ⊢
  refine TOps.move rfl rfl ?_
  refine TOps.extract rfl rfl rfl ?_
  refine TOps.extract rfl rfl rfl ?_
  refine TOps.alloc ti24 rfl (fun b3 => ?_)
  refine TOps.storeN rfl rfl ti24 rfl rfl (by repeat (first | exact Upd.here | apply Upd.there)) (by first | decide | (simp; done) | (simp; omega)) ?_
  refine TOps.hide (fun H2 l2 s2 r3 => ?_)
  replace r3 : Rd H2 b3 0 [.int .i64 2, slV a' 0 5 c', .int .i64 6] := r3
  have l3 : Le H2 H1 := l2.trans ((Le.sub (List.sublist_append_right _ _)).trans (Le.drop (Le.drop (Le.refl _))))
  have hY : RNodes H2 a' 0 exY27.nodes := hN3.le (l2.trans (Le.sub (List.sublist_append_left _ _)))
  replace r1 := r1.le l3
  replace hX := hX.le l3
  have hL2 := l3.trans hL
  obtain ⟨nb, aa0, ao0, ac0, as0, rfl, -, hn0⟩ := hX.at (i := 3) (by decide)
  obtain ⟨nc, aa1, ao1, ac1, as1, rfl, -, hn1⟩ := hY.at (i := 3) (by decide)
  have h0c := hn0.cells
  have h1c := hn1.cells
  have h0a : RInts H2 aa0 ao0 [4, 5] as0 := hn0.args
  have h1a : RInts H2 aa1 ao1 [4, 1] as1 := hn1.args
  refine TOps.assign rfl rfl ?_
  refine TOps.next ?_
  refine Tri.seq (Tri.region ?_)
  refine TOps.move rfl rfl ?_
  refine TOps.eqlNil (T := 40) (o := none) rfl Try.underlying28 rfl ?_
  refine TOps.move rfl rfl ?_
  refine' TOps.andB 2 rfl rfl rfl rfl (fun hg3_2 => ?_) ?_; rotate_left
  · have hg3_2' := hg3_2
    try simp only [decide_eq_true_eq, decide_eq_false_iff_not, Bool.and_eq_true, Bool.or_eq_true, Bool.not_eq_true', Bool.and_eq_false_iff, Bool.or_eq_false_iff, Bool.not_eq_false', Int.not_lt, Int.not_le, ne_eq, Decidable.not_not] at hg3_2'
    refine TOps.strip 2 true rfl rfl hg3_2 rfl ?_
    refine TOps.move rfl rfl ?_
    refine TOps.eqlNil (T := 40) (o := none) rfl Try.underlying28 rfl ?_
    refine TOps.blk rfl (by repeat (first | exact Ext.refl _ | refine Ext.cons rfl ?_)) (by repeat (first | exact Le.refl _ | apply Le.drop))
  refine TOps.move rfl rfl ?_
  refine' TOps.andB 4 rfl rfl rfl rfl (fun hg3_6 => ?_) ?_; rotate_left
  · have hg3_6' := hg3_6
    try simp only [decide_eq_true_eq, decide_eq_false_iff_not, Bool.and_eq_true, Bool.or_eq_true, Bool.not_eq_true', Bool.and_eq_false_iff, Bool.or_eq_false_iff, Bool.not_eq_false', Int.not_lt, Int.not_le, ne_eq, Decidable.not_not] at hg3_6'
    refine TOps.strip 6 true rfl rfl hg3_6 rfl ?_
    first | refine TOps.fieldB 1 rfl Try.underlying24 rfl rfl ti22 rfl rfl rfl ?_ | refine TOps.fieldN 1 rfl Try.underlying24 rfl rfl ti22 rfl rfl rfl ?_
    refine TOps.load1 rfl ti22 (by first | exact Rd.lit (by repeat (first | exact List.Mem.head _ | apply List.Mem.tail)) rfl | (repeat (first | assumption | exact Rd.fld (by assumption) 1 rfl | apply Rd.up))) rfl ?_
    refine TOps.len rfl Try.underlying22 rfl ?_
    refine TOps.eqlI rfl rfl rfl ?_
    refine TOps.blk rfl (by repeat (first | exact Ext.refl _ | refine Ext.cons rfl ?_)) (by repeat (first | exact Le.refl _ | apply Le.drop))
  refine TOps.move rfl rfl ?_
  refine' TOps.andB 3 rfl rfl rfl rfl (fun hg3_12 => ?_) ?_; rotate_left
  · have hg3_12' := hg3_12
    try simp only [decide_eq_true_eq, decide_eq_false_iff_not, Bool.and_eq_true, Bool.or_eq_true, Bool.not_eq_true', Bool.and_eq_false_iff, Bool.or_eq_false_iff, Bool.not_eq_false', Int.not_lt, Int.not_le, ne_eq, Decidable.not_not] at hg3_12'
    refine TOps.strip 12 true rfl rfl hg3_12 rfl ?_
    first | refine TOps.fieldB 2 rfl Try.underlying24 rfl rfl ti3 rfl rfl rfl ?_ | refine TOps.fieldN 2 rfl Try.underlying24 rfl rfl ti3 rfl rfl rfl ?_
    refine TOps.load1 rfl ti3 (by first | exact Rd.lit (by repeat (first | exact List.Mem.head _ | apply List.Mem.tail)) rfl | (repeat (first | assumption | exact Rd.fld (by assumption) 2 rfl | apply Rd.up))) rfl ?_
    refine TOps.eqlI rfl rfl rfl ?_
    refine TOps.blk rfl (by repeat (first | exact Ext.refl _ | refine Ext.cons rfl ?_)) (by repeat (first | exact Le.refl _ | apply Le.drop))
  refine TOps.move rfl rfl ?_
  refine' TOps.andB 7 rfl rfl rfl rfl (fun hg3_17 => ?_) ?_; rotate_left
  · have hg3_17' := hg3_17
    try simp only [decide_eq_true_eq, decide_eq_false_iff_not, Bool.and_eq_true, Bool.or_eq_true, Bool.not_eq_true', Bool.and_eq_false_iff, Bool.or_eq_false_iff, Bool.not_eq_false', Int.not_lt, Int.not_le, ne_eq, Decidable.not_not] at hg3_17'
    refine TOps.strip 17 true rfl rfl hg3_17 rfl ?_
    first | refine TOps.fieldB 1 rfl Try.underlying24 rfl rfl ti22 rfl rfl rfl ?_ | refine TOps.fieldN 1 rfl Try.underlying24 rfl rfl ti22 rfl rfl rfl ?_
    refine TOps.load1 rfl ti22 (by first | exact Rd.lit (by repeat (first | exact List.Mem.head _ | apply List.Mem.tail)) rfl | (repeat (first | assumption | exact Rd.fld (by assumption) 1 rfl | apply Rd.up))) rfl ?_
    refine TOps.indexAddr (off' := 0 + 3 * 3) rfl rfl Try.underlying22 ti43 (by omega) (by omega) (by simp) rfl ?_
    first | refine TOps.fieldB 2 rfl Try.underlying43 rfl rfl ti41 rfl rfl rfl ?_ | refine TOps.fieldN 2 rfl Try.underlying43 rfl rfl ti41 rfl rfl rfl ?_
    refine TOps.load1 rfl ti41 (h0c.part 2 rfl) rfl ?_
    refine TOps.buildSlice (vs := [_, _]) (xs := [_, _]) Try.underlying41 ti3 ⟨rfl, rfl, rfl, rfl, trivial⟩ rfl rfl rfl rfl rfl rfl (by decide) rfl (fun b44 => ?_)
    refine TOps.call (vs := [_, _]) Try.call29 ⟨rfl, rfl, trivial⟩ (ints_g (xs := [4, 5]) (ys := [4, 5]) (RdS.up h0a) (RdS.ofRowS (List.Mem.head _)) (by decide) (by decide)) rfl ?_
    rintro _ _ ⟨rfl, rfl⟩
    refine TOps.blk rfl (by repeat (first | exact Ext.refl _ | refine Ext.cons rfl ?_)) (by repeat (first | exact Le.refl _ | apply Le.drop))
  refine TOps.move rfl rfl ?_
  refine' TOps.andB 4 rfl rfl rfl rfl (fun hg3_26 => ?_) ?_; rotate_left
  · have hg3_26' := hg3_26
    try simp only [decide_eq_true_eq, decide_eq_false_iff_not, Bool.and_eq_true, Bool.or_eq_true, Bool.not_eq_true', Bool.and_eq_false_iff, Bool.or_eq_false_iff, Bool.not_eq_false', Int.not_lt, Int.not_le, ne_eq, Decidable.not_not] at hg3_26'
    refine TOps.strip 26 true rfl rfl hg3_26 rfl ?_
    first | refine TOps.fieldB 1 rfl Try.underlying24 rfl rfl ti22 rfl rfl rfl ?_ | refine TOps.fieldN 1 rfl Try.underlying24 rfl rfl ti22 rfl rfl rfl ?_
    refine TOps.load1 rfl ti22 (by first | exact Rd.lit (by repeat (first | exact List.Mem.head _ | apply List.Mem.tail)) rfl | (repeat (first | assumption | exact Rd.fld (by assumption) 1 rfl | apply Rd.up))) rfl ?_
    refine TOps.len rfl Try.underlying22 rfl ?_
    refine TOps.eqlI rfl rfl rfl ?_
    refine TOps.blk rfl (by repeat (first | exact Ext.refl _ | refine Ext.cons rfl ?_)) (by repeat (first | exact Le.refl _ | apply Le.drop))
  refine TOps.move rfl rfl ?_
  refine' TOps.andB 3 rfl rfl rfl rfl (fun hg3_32 => ?_) ?_; rotate_left
  · have hg3_32' := hg3_32
    try simp only [decide_eq_true_eq, decide_eq_false_iff_not, Bool.and_eq_true, Bool.or_eq_true, Bool.not_eq_true', Bool.and_eq_false_iff, Bool.or_eq_false_iff, Bool.not_eq_false', Int.not_lt, Int.not_le, ne_eq, Decidable.not_not] at hg3_32'
    refine TOps.strip 32 true rfl rfl hg3_32 rfl ?_
    first | refine TOps.fieldB 2 rfl Try.underlying24 rfl rfl ti3 rfl rfl rfl ?_ | refine TOps.fieldN 2 rfl Try.underlying24 rfl rfl ti3 rfl rfl rfl ?_
    refine TOps.load1 rfl ti3 (by first | exact Rd.lit (by repeat (first | exact List.Mem.head _ | apply List.Mem.tail)) rfl | (repeat (first | assumption | exact Rd.fld (by assumption) 2 rfl | apply Rd.up))) rfl ?_
    refine TOps.eqlI rfl rfl rfl ?_
    refine TOps.blk rfl (by repeat (first | exact Ext.refl _ | refine Ext.cons rfl ?_)) (by repeat (first | exact Le.refl _ | apply Le.drop))
  refine TOps.move rfl rfl ?_
  refine' TOps.andB 7 rfl rfl rfl rfl (fun hg3_37 => ?_) ?_; rotate_left
  · have hg3_37' := hg3_37
    try simp only [decide_eq_true_eq, decide_eq_false_iff_not, Bool.and_eq_true, Bool.or_eq_true, Bool.not_eq_true', Bool.and_eq_false_iff, Bool.or_eq_false_iff, Bool.not_eq_false', Int.not_lt, Int.not_le, ne_eq, Decidable.not_not] at hg3_37'
    refine TOps.strip 37 true rfl rfl hg3_37 rfl ?_
    first | refine TOps.fieldB 1 rfl Try.underlying24 rfl rfl ti22 rfl rfl rfl ?_ | refine TOps.fieldN 1 rfl Try.underlying24 rfl rfl ti22 rfl rfl rfl ?_
    refine TOps.load1 rfl ti22 (by first | exact Rd.lit (by repeat (first | exact List.Mem.head _ | apply List.Mem.tail)) rfl | (repeat (first | assumption | exact Rd.fld (by assumption) 1 rfl | apply Rd.up))) rfl ?_
    refine TOps.indexAddr (off' := 0 + 3 * 3) rfl rfl Try.underlying22 ti43 (by omega) (by omega) (by simp) rfl ?_
    first | refine TOps.fieldB 2 rfl Try.underlying43 rfl rfl ti41 rfl rfl rfl ?_ | refine TOps.fieldN 2 rfl Try.underlying43 rfl rfl ti41 rfl rfl rfl ?_
    refine TOps.load1 rfl ti41 (h1c.part 2 rfl) rfl ?_
    refine TOps.buildSlice (vs := [_, _]) (xs := [_, _]) Try.underlying41 ti3 ⟨rfl, rfl, rfl, rfl, trivial⟩ rfl rfl rfl rfl rfl rfl (by decide) rfl (fun b64 => ?_)
    refine TOps.call (vs := [_, _]) Try.call29 ⟨rfl, rfl, trivial⟩ (ints_g (xs := [4, 1]) (ys := [4, 1]) (RdS.up h1a) (RdS.ofRowS (List.Mem.head _)) (by decide) (by decide)) rfl ?_
    rintro _ _ ⟨rfl, rfl⟩
    refine TOps.blk rfl (by repeat (first | exact Ext.refl _ | refine Ext.cons rfl ?_)) (by repeat (first | exact Le.refl _ | apply Le.drop))
  refine TOps.assign rfl rfl ?_
  refine TOps.next ?_
  refine Tri.ret1 (H' := H) Try.results10 (fun _ _ h => h) (.tmp rfl) hL2 ⟨by simp, rfl⟩
end Go.Proofs
