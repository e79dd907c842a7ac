import Derived.Test.YtffghipagnjggaaO27
namespace Go.Proofs
open Go.GL
set_option linter.unusedVariables false
set_option linter.unusedSimpArgs false
set_option maxHeartbeats 1000000 in
theorem unshare_g {H : List Ent} {fv : Value} {F : Fm} (hF : RF H fv F) (hk : F.ok) : Gives Try.prog 25 [fv] H (NewN 40 F.treeF F.treeE H) := by
  have hF0 := hF
  obtain ⟨na, off, cap, nsp, rfl, hN⟩ := hF
  refine Gives.enter Try.func25 rfl (by exact Try.ntmps25) rfl ?_
  refine Tri.seq (Tri.region ?_)
  refine TOps.boxN rfl ti24 rfl rfl (fun b1 => ?_)
  refine TOps.hide (fun H1 l1 s1 r1 => ?_)
  replace hF0 := hF0.le l1; replace hN := hN.le l1
  refine TOps.alloc ti24 rfl (fun b2 => ?_)
  refine TOps.assign rfl rfl ?_
  refine TOps.next ?_
  refine Tri.seq ?_
  refine Tri.seq (Tri.region ?_)
  refine TOps.loadN rfl ti24 (by first | exact Rd.all (by repeat (first | exact List.Mem.head _ | apply List.Mem.tail)) | (repeat (first | assumption | apply Rd.up))) rfl rfl ?_
  refine TOps.call (vs := [_]) Try.call21 ⟨rfl, trivial⟩ (check_g (hF0.le (Le.drop (Le.refl _))) hk) rfl ?_
  rintro _ _ ⟨rfl, rfl⟩
  refine TOps.assign rfl rfl ?_
  refine TOps.next ?_
  refine Tri.seq (Tri.region ?_)
  refine TOps.move rfl rfl ?_
  refine TOps.neqNil rfl Try.underlying28 rfl ?_
  refine TOps.next ?_
  refine Tri.cond rfl (fun hc1 => ?_) (fun hc1 => ?_)
  · try simp only [decide_eq_true_eq, decide_eq_false_iff_not, Bool.and_eq_true, Bool.or_eq_true, Bool.not_eq_true', Bool.and_eq_false_iff, Bool.or_eq_false_iff, Bool.not_eq_false', Int.not_lt, Int.not_le, ne_eq, Decidable.not_not, Option.isSome_iff_ne_none, Option.isNone_iff_eq_none] at hc1
    obtain ⟨er, her⟩ := Option.ne_none_iff_exists'.1 hc1
    obtain ⟨e1, e2⟩ := treeE_err her
    refine Tri.seq (Tri.region ?_)
    refine TOps.buildStruct (vs := []) (xs := [_, _, _]) [(0, 1), (1, 1), (2, 1)] Try.underlying24 ti24 (fun w => by simp) trivial rfl rfl ?_
    refine TOps.move rfl rfl ?_
    refine TOps.storeN rfl rfl ti24 rfl rfl (by repeat (first | exact Upd.here | apply Upd.there)) (by first | decide | (simp; done) | (simp; omega)) ?_
    refine TOps.assign rfl rfl ?_
    refine TOps.next ?_
    refine Tri.ret2 (H' := H) Try.results25 (fun _ _ h => h) (.cellN rfl rfl ti24 (Rd.all (by repeat (first | exact List.Mem.head _ | apply List.Mem.tail))) rfl) (.tmp rfl) (Le.drop l1) ⟨none, 0, [], by rw [e1, e2, her]; rfl, by rw [e2]; exact .inl rfl, rfl⟩
  try simp only [decide_eq_true_eq, decide_eq_false_iff_not, Bool.and_eq_true, Bool.or_eq_true, Bool.not_eq_true', Bool.and_eq_false_iff, Bool.or_eq_false_iff, Bool.not_eq_false', Int.not_lt, Int.not_le, ne_eq, Decidable.not_not, Option.isSome_iff_ne_none, Option.isNone_iff_eq_none] at hc1
  have he : F.err = none := by simpa using hc1
  have hg := (Fm.good_iff F).1 he
  have g0 := hg.v0; have g1 := hg.v1; have g2 := hg.n1; have gt := hg.topLt
  obtain ⟨v, hv⟩ := Int.eq_ofNat_of_zero_le g0
  have hvn : F.vars.toNat = v := by omega
  rw [hv] at r1
  have hRe : F.treeR = treeM v F.nodes F.nodes.length F.top ⟨[], false⟩ := by unfold Fm.treeR; rw [hvn]
  refine Tri.fin ?_
  refine Nrm.next ?_
  refine Tri.seq (Tri.region ?_)
  refine TOps.field0 rfl Try.underlying24 rfl rfl ti3 rfl rfl rfl ?_
  refine TOps.load1 rfl ti3 (by first | exact Rd.lit (by repeat (first | exact List.Mem.head _ | apply List.Mem.tail)) rfl | (repeat (first | assumption | exact Rd.fld (by assumption) 0 rfl | apply Rd.up))) rfl ?_
  refine TOps.buildStruct (vs := [(0, _)]) (xs := [_, _, _]) [(0, 1), (1, 1), (2, 1)] Try.underlying66 ti66 (fun w => by simp) ⟨rfl, rfl, trivial⟩ rfl rfl ?_
  refine TOps.boxN rfl ti66 rfl rfl (fun b16 => ?_)
  refine TOps.assign rfl rfl ?_
  refine TOps.next ?_
  refine Tri.seq (Tri.region ?_)
  refine TOps.move rfl rfl ?_
  refine TOps.loadN (vs := [.int .i64 v, slV na off F.nodes.length cap nsp, .int .i64 F.top]) rfl ti24 (r1.le (Le.drop (Le.drop (Le.refl _)))) rfl rfl ?_
  first | refine TOps.fieldB 2 rfl Try.underlying24 rfl rfl ti3 rfl rfl rfl ?_ | refine TOps.fieldN 2 rfl Try.underlying24 rfl rfl ti3 rfl rfl rfl ?_
  refine TOps.load1 rfl ti3 (Rd.fld (r1.le (Le.drop (Le.drop (Le.refl _)))) 2 rfl) rfl ?_
  refine TOps.le (mkE_new (TN := 43)) ?_
  refine TOps.call (vs := [_, _, _]) Try.call41 ⟨rfl, rfl, rfl, trivial⟩ (tree_g hg hk hv F.nodes.length (Nat.le_refl _) F.top gt.1 (by omega) _ (hN.le (Le.drop (Le.refl _))) ⟨[], false⟩ BS.new BS.new_ok (by show (0 : Nat) ≤ 128; decide)) rfl ?_
  rintro _ _ ⟨z, rfl, hz, rfl⟩
  rw [← hRe] at hz ⊢
  have hfull := treeE_full hg
  have hopen := treeE_open hg
  obtain ⟨T, hT⟩ : ∃ T, F.treeR = T := ⟨_, rfl⟩
  rw [hT] at hz hfull hopen ⊢
  refine TOps.assign rfl rfl ?_
  refine TOps.next ?_
  refine Tri.seq ?_
  refine Tri.seq (Tri.region ?_)
  refine TOps.move rfl rfl ?_
  refine TOps.nilCheck rfl rfl ?_
  first | refine TOps.fieldB 2 rfl Try.underlying66 rfl rfl ti4 rfl rfl rfl ?_ | refine TOps.fieldN 2 rfl Try.underlying66 rfl rfl ti4 rfl rfl rfl ?_
  refine TOps.load1 rfl ti4 (Rd.fld mkE_rd 2 rfl) rfl ?_
  refine TOps.next ?_
  refine Tri.cond rfl (fun hc2 => ?_) (fun hc2 => ?_)
  · try simp only [decide_eq_true_eq, decide_eq_false_iff_not, Bool.and_eq_true, Bool.or_eq_true, Bool.not_eq_true', Bool.and_eq_false_iff, Bool.or_eq_false_iff, Bool.not_eq_false', Int.not_lt, Int.not_le, ne_eq, Decidable.not_not, Option.isSome_iff_ne_none, Option.isNone_iff_eq_none] at hc2
    obtain ⟨e1, e2⟩ := hfull hc2
    refine Tri.seq (Tri.region ?_)
    refine TOps.buildStruct (vs := []) (xs := [_, _, _]) [(0, 1), (1, 1), (2, 1)] Try.underlying24 ti24 (fun w => by simp) trivial rfl rfl ?_
    refine TOps.makeInterface rfl Try.underlying40 rfl rfl ?_
    refine TOps.storeN rfl rfl ti24 rfl rfl (Upd.mkE Upd.here) (by simp) ?_
    refine TOps.assign rfl rfl ?_
    refine TOps.next ?_
    refine Tri.ret2 (H' := H) Try.results25 (fun _ _ h => h) (.cellN rfl rfl ti24 (Rd.all (mem_mkE (List.Mem.head _))) rfl) (.tmp rfl) (mkE_le.trans (Le.drop l1)) ⟨none, 0, [], by rw [e1, e2]; rfl, by rw [e2]; exact .inl rfl, rfl⟩
  try simp only [decide_eq_true_eq, decide_eq_false_iff_not, Bool.and_eq_true, Bool.or_eq_true, Bool.not_eq_true', Bool.and_eq_false_iff, Bool.or_eq_false_iff, Bool.not_eq_false', Int.not_lt, Int.not_le, ne_eq, Decidable.not_not, Option.isSome_iff_ne_none, Option.isNone_iff_eq_none] at hc2
  obtain ⟨e1, e2⟩ := hopen (by simpa using hc2)
  rw [hv] at e2
  refine Tri.fin ?_
  refine Nrm.next ?_
  refine Tri.seq ?_
  refine Tri.drawX (X := Unit) rfl [(1, .pointer (some ⟨b1, 0, none⟩)), (2, .pointer (some ⟨b2, 0, none⟩)), (5, .pointer (some ⟨b16, 0, none⟩)), (6, .int .i64 T.1)] [] (fun x => [_, _, _, _, _, _, _, .agg (List.toArray [.int .i64 v, slV z.oa 0 T.2.ns.length z.cap, .int .i64 T.1]), undef, _]) (fun x c => match c with | 0 => mkE 66 43 b16 v T.2 z (row (some b2) 24 3 1 [.int .i64 0, slV none 0 0 0, .int .i64 0] :: H1) | _ + 1 => mkE 66 43 b16 v T.2 z (row (some b2) 24 3 1 [.int .i64 v, slV z.oa 0 T.2.ns.length z.cap, .int .i64 T.1] :: H1)) [8] () [9] rfl rfl ⟨rfl, rfl, rfl, rfl, trivial⟩ trivial (by repeat (first | exact Le.refl _ | assumption | apply Le.drop)) (by
    refine ⟨?_, ?_, ?_, ?_, ?_, ?_, ?_, ?_, ?_, ?_, trivial⟩
    · refine ⟨fun x S c he hw hd hc hcu hm _ => ?_, trivial⟩
      refine TOps.field0 (he _ _ rfl) Try.underlying24 rfl rfl ti3 rfl rfl rfl ?_
      exact TOps.fin (Nrm.draw x (fun _ _ _ => rfl) rfl (by first | exact Le.refl _ | assumption | exact (by repeat (first | exact Le.refl _ | assumption | apply Le.drop))))
    · refine ⟨fun x S c he hw hd hc hcu hm _ => ?_, trivial⟩
      obtain ⟨h0, -⟩ := hd
      obtain rfl : c = 0 := by have : c ≤ 0 := hcu; omega
      refine TOps.load1 h0 ti3 (Rd.fld (r1.le (mkE_le.trans (Le.drop (Le.refl _)))) 0 rfl) rfl ?_
      exact TOps.fin (Nrm.draw x (fun _ _ _ => rfl) rfl (by first | exact Le.refl _ | assumption | exact (by repeat (first | exact Le.refl _ | assumption | apply Le.drop))))
    · refine ⟨fun x S c he hw hd hc hcu hm _ => ?_, trivial⟩
      refine TOps.move (he _ _ rfl) rfl ?_
      exact TOps.fin (Nrm.draw x (fun _ _ _ => rfl) rfl (by first | exact Le.refl _ | assumption | exact (by repeat (first | exact Le.refl _ | assumption | apply Le.drop))))
    · refine ⟨fun x S c he hw hd hc hcu hm _ => ?_, trivial⟩
      obtain ⟨h2, -⟩ := hd
      refine TOps.nilCheck h2 rfl ?_
      exact TOps.fin (Nrm.draw x (fun _ _ _ => rfl) rfl (by first | exact Le.refl _ | assumption | exact (by repeat (first | exact Le.refl _ | assumption | apply Le.drop))))
    · refine ⟨fun x S c he hw hd hc hcu hm _ => ?_, trivial⟩
      obtain ⟨h3, -⟩ := hd
      first | refine TOps.fieldB 1 h3 Try.underlying66 rfl rfl ti22 rfl rfl rfl ?_ | refine TOps.fieldN 1 h3 Try.underlying66 rfl rfl ti22 rfl rfl rfl ?_
      exact TOps.fin (Nrm.draw x (fun _ _ _ => rfl) rfl (by first | exact Le.refl _ | assumption | exact (by repeat (first | exact Le.refl _ | assumption | apply Le.drop))))
    · refine ⟨fun x S c he hw hd hc hcu hm _ => ?_, trivial⟩
      obtain ⟨h4, -⟩ := hd
      obtain rfl : c = 0 := by have : c ≤ 0 := hcu; omega
      refine TOps.load1 h4 ti22 (Rd.fld mkE_rd 1 rfl) rfl ?_
      exact TOps.fin (Nrm.draw x (fun _ _ _ => rfl) rfl (by first | exact Le.refl _ | assumption | exact (by repeat (first | exact Le.refl _ | assumption | apply Le.drop))))
    · refine ⟨fun x S c he hw hd hc hcu hm _ => ?_, trivial⟩
      refine TOps.move (he _ _ rfl) rfl ?_
      exact TOps.fin (Nrm.draw x (fun _ _ _ => rfl) rfl (by first | exact Le.refl _ | assumption | exact (by repeat (first | exact Le.refl _ | assumption | apply Le.drop))))
    · refine ⟨fun x S c he hw hd hc hcu hm _ => ?_, trivial⟩
      obtain ⟨h1, h5, h6, -⟩ := hd
      refine TOps.buildStruct (vs := [(0, _), (1, _), (2, _)]) (xs := [_, _, _]) [(0, 1), (1, 1), (2, 1)] Try.underlying24 ti24 (fun w => by simp) ⟨rfl, h1, rfl, h5, rfl, h6, trivial⟩ rfl rfl ?_
      exact TOps.fin (Nrm.draw x (fun _ _ _ => rfl) rfl (by first | exact Le.refl _ | assumption | exact (by repeat (first | exact Le.refl _ | assumption | apply Le.drop))))
    · refine ⟨fun x S c he hw hd hc hcu hm _ => ?_, trivial⟩
      obtain ⟨h7, h0, h1, h2, h3, h4, h5, h6, _, -⟩ := hd
      obtain rfl : c = 0 := hm rfl
      refine TOps.storeN (he _ _ rfl) h7 ti24 rfl rfl (Upd.mkE Upd.here) (by first | decide | (simp; done) | (simp; omega)) ?_
      exact TOps.fin (Nrm.draw x (fun _ _ _ => rfl) rfl (by first | exact Le.refl _ | assumption | exact (by repeat (first | exact Le.refl _ | assumption | apply Le.drop))))
    · refine ⟨fun x S c he hw hd hc hcu hm _ => ?_, trivial⟩
      obtain ⟨h8, h0, h1, h2, h3, h4, h5, h6, h7, _, -⟩ := hd
      refine TOps.assign rfl rfl ?_
      exact TOps.fin (Nrm.draw x (fun _ _ _ => rfl) rfl (by first | exact Le.refl _ | assumption | exact (by repeat (first | exact Le.refl _ | assumption | apply Le.drop))))
    ) (fun u0 => ?_)
  refine Nrm.next ?_
  refine Tri.ret2 (H' := (row z.oa 43 3 z.cap (nsCells T.2.ns z.qs) :: z.N) ++ H) Try.results25 (fun _ _ h => h) (.cellN rfl rfl ti24 (Rd.all (mem_mkE (List.Mem.head _))) rfl) (.tmp rfl) (Le.drop (Le.sub (List.Sublist.cons_cons _ ((List.Sublist.refl _).append (List.Sublist.cons _ s1))))) ⟨z.oa, z.cap, row z.oa 43 3 z.cap (nsCells T.2.ns z.qs) :: z.N, ?_, ?_, rfl⟩
  · rw [e1, e2]; rfl
  · rw [e2]; exact RNodes.ofA (E := 43) (sz := 3) (cap := z.cap) (List.Mem.head _) (hz.a.le (Le.drop (Le.refl _))) hz.o
theorem runshare_g {H : List Ent} {fv : Value} {F : Fm} (hF : RF H fv F) (hk : F.ok) (hg : F.Good) : Gives Try.prog 27 [fv] H (NewNum F.treeF F.treeE H) := by
  have hF0 := hF
  obtain ⟨na, off, cap, nsp, rfl, hN⟩ := hF
  have he := (Fm.good_iff F).2 hg
  have g0 := hg.v0; have g1 := hg.v1; have g2 := hg.n1; have gt := hg.topLt
  obtain ⟨v, hv⟩ := Int.eq_ofNat_of_zero_le g0
  have hvn : F.vars.toNat = v := by omega
  have hRe : F.treeR = treeM v F.nodes F.nodes.length F.top ⟨[], false⟩ := by unfold Fm.treeR; rw [hvn]
  have e1 : F.treeE = resE F.treeR.2 := by unfold Fm.treeE; rw [he]
  have e2 : F.treeF = resF v F.treeR.2 F.treeR.1 := by unfold Fm.treeF; rw [he, hv]
  refine Gives.enter Try.func27 rfl (by exact Try.ntmps27) rfl ?_
  refine Tri.seq (Tri.region ?_)
  refine TOps.boxN rfl ti24 rfl rfl (fun b1 => ?_)
  refine TOps.hide (fun H1 l1 s1 r1 => ?_)
  replace hN := hN.le l1
  rw [hv] at r1
  refine TOps.alloc ti24 rfl (fun b2 => ?_)
  refine TOps.assign rfl rfl ?_
  refine TOps.next ?_
  refine Tri.seq (Tri.region ?_)
  refine TOps.field0 rfl Try.underlying24 rfl rfl ti3 rfl rfl rfl ?_
  refine TOps.load1 rfl ti3 (Rd.fld (r1.le (Le.drop (Le.refl _))) 0 rfl) rfl ?_
  refine TOps.buildStruct (vs := [(0, _)]) (xs := [_, _, _]) [(0, 1), (1, 1), (2, 1)] Try.underlying69 ti69 (fun w => by simp) ⟨rfl, rfl, trivial⟩ rfl rfl ?_
  refine TOps.boxN rfl ti69 rfl rfl (fun b8 => ?_)
  refine TOps.assign rfl rfl ?_
  refine TOps.next ?_
  refine Tri.seq (Tri.region ?_)
  refine TOps.move rfl rfl ?_
  refine TOps.move rfl rfl ?_
  refine TOps.loadN (vs := [.int .i64 v, slV na off F.nodes.length cap nsp, .int .i64 F.top]) rfl ti24 (r1.le (Le.drop (Le.drop (Le.refl _)))) rfl rfl ?_
  first | refine TOps.fieldB 2 rfl Try.underlying24 rfl rfl ti3 rfl rfl rfl ?_ | refine TOps.fieldN 2 rfl Try.underlying24 rfl rfl ti3 rfl rfl rfl ?_
  refine TOps.load1 rfl ti3 (Rd.fld (r1.le (Le.drop (Le.drop (Le.refl _)))) 2 rfl) rfl ?_
  refine TOps.le (mkE_new (TN := 43)) ?_
  refine TOps.call (vs := [_, _, _]) Try.call43 ⟨rfl, rfl, rfl, trivial⟩ (copied_g hg hk hv F.nodes.length (Nat.le_refl _) F.top gt.1 (by omega) _ (hN.le (Le.drop (Le.refl _))) ⟨[], false⟩ BS.new BS.new_ok (by show (0 : Nat) ≤ 128; decide)) rfl ?_
  rintro _ _ ⟨z, rfl, hz, rfl⟩
  rw [← hRe] at hz ⊢
  refine TOps.call (vs := [_, _]) Try.call42 ⟨rfl, rfl, trivial⟩ (result27_g hz _) rfl ?_
  rintro _ _ ⟨ra, rc, NN, rfl, hN2, rfl⟩
  rw [← e1]
  rw [← e2] at hN2 ⊢
  refine TOps.extract rfl rfl rfl ?_
  refine TOps.extract rfl rfl rfl ?_
  refine TOps.storeN rfl rfl ti24 rfl rfl (Upd.app Upd.here NN) (by simp) ?_
  refine TOps.assign rfl rfl ?_
  refine TOps.next ?_
  refine Tri.ret2 (H' := NN ++ H) Try.results27 (fun _ _ h => h) (.cellN rfl rfl ti24 (Rd.all (List.mem_append_right _ (List.Mem.head _))) rfl) (.tmp rfl) (sub_app (List.Sublist.cons _ s1)) ⟨ra, rc, NN, rfl, hN2, rfl⟩
end Go.Proofs
