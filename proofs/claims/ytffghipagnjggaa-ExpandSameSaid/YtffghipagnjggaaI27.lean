import Derived.Test.YtffghipagnjggaaH27
namespace Go.Proofs
open Go.GL
set_option linter.unusedVariables false
set_option linter.unusedSimpArgs false
set_option maxHeartbeats 8000000 in
theorem reach27_g {H : List Ent} {fv : Value} {F : Fm} (hF : RF H fv F) (hk : F.ok) (hg : F.Good) {what : Nat} (hw : what = 0 ∨ what = 1 ∨ what = 2) :
    Gives Try.prog 35 [fv, .int .i64 what] H (NewNum (F.expF what) (F.expE what) H) := by
  have hF0 := hF
  obtain ⟨na, off, cap, nsp, rfl, hN⟩ := hF
  have he := (Fm.good_iff F).2 hg
  have g0 := hg.v0; have g1 := hg.v1; have g2 := hg.n1; have gt := hg.topLt
  obtain ⟨v, hv⟩ := Int.eq_ofNat_of_zero_le g0
  have hvn : F.vars.toNat = v := by omega
  obtain ⟨tp, htp⟩ := Int.eq_ofNat_of_zero_le gt.1
  have hpE : F.expE what = resE (mapS what v F.nodes F.nodes.length).2 := by unfold Fm.expE Fm.expS; rw [he, hvn]
  have hpF : F.expF what = resF v (mapS what v F.nodes F.nodes.length).2 ((mapS what v F.nodes F.nodes.length).1.getD tp 0) := by unfold Fm.expF Fm.expS; rw [he, hvn, hv, htp, Int.toNat_natCast]
  have hfits : ∀ i (hi : i < F.nodes.length), F.nodes[i].Fits ((v : Int) + i) := fun i hi => by have := hg.fits i hi; rwa [hv] at this
  have hv24 : v ≤ 24 := by omega
  have hvv : (0 : Int) ≤ v ∧ (v : Int) ≤ 24 := by omega
  obtain ⟨L, hL⟩ : ∃ L, F.nodes.length = L := ⟨_, rfl⟩
  refine Gives.enter Try.func35 rfl (by exact Try.ntmps35) rfl ?_
  refine Tri.seq (Tri.region ?_)
  refine TOps.boxN rfl ti24 rfl rfl (fun b2 => ?_)
  refine TOps.hide (fun H1 l1 s1 r1 => ?_)
  replace hF0 := hF0.le l1; replace hN := hN.le l1
  rw [hv, htp] at r1 hF0
  refine TOps.alloc ti24 rfl (fun b4 => ?_)
  refine TOps.assign rfl rfl ?_
  refine TOps.next ?_
  refine Tri.seq (Tri.region ?_)
  refine TOps.field0 rfl Try.underlying24 rfl rfl ti3 rfl rfl rfl ?_
  refine TOps.load1 rfl ti3 (Rd.fld (r1.le (Le.drop (Le.refl _))) 0 rfl) rfl ?_
  refine TOps.buildStruct (vs := [(0, _)]) (xs := [_, _, _]) [(0, 1), (1, 1), (2, 1)] Try.underlying69 ti69 (fun w => by simp) ⟨rfl, rfl, trivial⟩ rfl rfl ?_
  refine TOps.boxN rfl ti69 rfl rfl (fun b18 => ?_)
  refine TOps.assign rfl rfl ?_
  refine TOps.next ?_
  refine Tri.seq (Tri.region ?_)
  first | refine TOps.fieldB 1 rfl Try.underlying24 rfl rfl ti22 rfl rfl rfl ?_ | refine TOps.fieldN 1 rfl Try.underlying24 rfl rfl ti22 rfl rfl rfl ?_
  refine TOps.load1 rfl ti22 (Rd.fld (r1.le (Le.drop (Le.drop (Le.refl _)))) 1 rfl) rfl ?_
  refine TOps.len rfl Try.underlying22 rfl ?_
  refine TOps.make1 (L := L) (C := L) (by rw [← hL]; rfl) (by rw [← hL]; rfl) Try.underlying41 ti3 (by omega) (by omega) (by omega) rfl (fun b22 => ?_)
  refine TOps.assign rfl rfl ?_
  refine TOps.le (Le.rowEq (padI_nil L).symm) ?_
  refine TOps.next ?_
  refine Tri.seq ?_
  refine Tri.seq (Tri.region ?_)
  first | refine TOps.fieldB 1 rfl Try.underlying24 rfl rfl ti22 rfl rfl rfl ?_ | refine TOps.fieldN 1 rfl Try.underlying24 rfl rfl ti22 rfl rfl rfl ?_
  refine TOps.load1 rfl ti22 (Rd.fld (r1.le (Le.drop (Le.drop (Le.drop (Le.refl _))))) 1 rfl) rfl ?_
  refine TOps.len rfl Try.underlying22 rfl ?_
  refine TOps.move rfl rfl ?_
  refine TOps.next ?_
  refine Tri.range (X := BS) (fun z k => [(1, .int .i64 what), (2, .pointer (some ⟨b2, 0, none⟩)), (4, .pointer (some ⟨b4, 0, none⟩)), (6, .pointer (some ⟨b18, 0, none⟩)), (7, slV (some b22) 0 L L), (24, slV na off F.nodes.length cap nsp)]) (fun z k => mkE 69 43 b18 v (mapS what v F.nodes k).2 z (row (some b22) 3 1 L (ints (padI ((mapS what v F.nodes k).1.drop v) L)) :: row (some b4) 24 3 1 [.int .i64 0, slV none 0 0 0, .int .i64 0] :: H1)) (fun z k => z.ok (mapS what v F.nodes k).2.ns) (by omega) rfl rfl rfl (fun _ _ => ⟨rfl, rfl, rfl, rfl⟩) BS.new BS.new_ok ⟨rfl, rfl, rfl, rfl, rfl, rfl, trivial⟩ (Le.trans (Le.trans Le.swap mkE_new) (by rw [show (mapS what v F.nodes 0).1.drop v = [] from List.drop_eq_nil_of_le (by rw [mapS_len]; omega), show (mapS what v F.nodes 0).2 = ⟨[], false⟩ from rfl]; exact Le.refl _)) (fun k z hlt hp => ?_) (fun z ac wc hp hS hM => ?_)
  · skip
    have hz1 := hp
    obtain ⟨nb, aa, ao, acap, asp, rfl, rfl, hn⟩ := hN.at hlt
    have hfi := hfits k hlt
    have hal := hfi.len
    have hmo := mapS_ok (what := what) hv24 hfits k (by omega)
    have hPl := mapS_len (what := what) (v := v) (nodes := F.nodes) k
    have hImg := fun (a : Int) (h : 0 ≤ a) => mapS_img (what := what) (v := v) (nodes := F.nodes) (k := k) h
    have hIl := mapS_imgs (what := what) (v := v) (nodes := F.nodes) (k := k)
    have hst : mapS what v F.nodes (k + 1) = ((mapS what v F.nodes k).1 ++ [(nodeM what v (trD (mapS what v F.nodes k).1 F.nodes[k]) (mapS what v F.nodes k).2).1], (nodeM what v (trD (mapS what v F.nodes k).1 F.nodes[k]) (mapS what v F.nodes k).2).2) := by rw [mapS]; simp [hlt]
    obtain ⟨d, hd⟩ : ∃ d, F.nodes[k] = d := ⟨_, rfl⟩
    obtain ⟨P, hPe⟩ : ∃ P, (mapS what v F.nodes k).1 = P := ⟨_, rfl⟩
    obtain ⟨ms, hms⟩ : ∃ ms, (mapS what v F.nodes k).2 = ms := ⟨_, rfl⟩
    have hmO := hmo.ok; have hmS := hmo.sm
    rw [hms] at hmO
    rw [hPe] at hmS hPl hImg hIl
    rw [hd, hPe, hms] at hst
    rw [hd] at hn hfi hal
    rw [hms] at hz1
    rw [hPe, hms]
    have hsp := Fits.sp hfi P hmS
    have hin : ∀ a ∈ d.args, 0 ≤ a ∧ a.toNat < v + k := fun a ha => by have := hfi.args a ha; omega
    obtain ⟨I, hI⟩ : ∃ I, P.drop v = I := ⟨_, rfl⟩
    rw [hI] at hIl hImg ⊢
    have hsn : ∀ x, (P ++ [x]).drop v = I ++ [x] := fun x => by rw [drop_snoc (by omega), hI]
    have hpl := padI_length (l := I) (L := L) (by omega)
    obtain ⟨RR, hRR⟩ : ∃ RR, nodeM what v (trD P d) ms = RR := ⟨_, rfl⟩
    rw [hRR] at hst
    obtain ⟨HC, hHC⟩ : ∃ HC, row (some b22) 3 1 L (ints (padI I L)) :: row (some b4) 24 3 1 [.int .i64 0, slV none 0 0 0, .int .i64 0] :: H1 = HC := ⟨_, rfl⟩
    have rI : RInts HC (some b22) 0 (padI I L) none := by rw [← hHC]; exact RdS.ofRowS (List.Mem.head _)
    have rn : NdAt HC nb (off + k * 3) d aa ao acap asp := by rw [← hHC]; exact hn.le (Le.drop (Le.drop (Le.refl _)))
    have rar := rn.args
    have hF1 : RF HC (.agg (List.toArray [.int .i64 v, slV (some nb) off F.nodes.length cap none, .int .i64 tp])) F := by rw [← hHC]; exact hF0.le (Le.drop (Le.drop (Le.refl _)))
    have r2 : Rd HC b2 0 [.int .i64 v, slV (some nb) off F.nodes.length cap none, .int .i64 tp] := by rw [← hHC]; exact r1.le (Le.drop (Le.drop (Le.refl _)))
    rw [hHC]
    refine Tri.seq (Tri.region ?_)
    refine TOps.move rfl rfl ?_
    refine TOps.indexAddr (off' := off + k * 3) rfl rfl Try.underlying22 ti43 (by omega) (by omega) (by simp) rfl ?_
    refine TOps.loadN (vs := [.int .i64 d.kind, .int .i64 d.k, slV aa ao d.args.length acap asp]) rfl ti43 (rn.cells.le mkE_le) rfl rfl ?_
    refine TOps.alloc ti43 rfl (fun b9 => ?_)
    refine TOps.assign rfl rfl ?_
    refine TOps.storeN rfl rfl ti43 rfl rfl (by repeat (first | exact Upd.here | apply Upd.there)) (by first | decide | (simp; done) | (simp; omega)) ?_
    refine TOps.next ?_
    refine Tri.seq (Tri.region ?_)
    refine TOps.assign rfl rfl ?_
    refine TOps.next ?_
    refine Tri.seq ?_
    refine Tri.seq (Tri.region ?_)
    first | refine TOps.fieldB 2 rfl Try.underlying43 rfl rfl ti41 rfl rfl rfl ?_ | refine TOps.fieldN 2 rfl Try.underlying43 rfl rfl ti41 rfl rfl rfl ?_
    refine TOps.load1 rfl ti41 (by first | exact Rd.lit (by repeat (first | exact List.Mem.head _ | apply List.Mem.tail)) rfl | (repeat (first | assumption | exact Rd.fld (by assumption) 2 rfl | apply Rd.up))) rfl ?_
    refine TOps.len rfl Try.underlying41 rfl ?_
    refine TOps.move rfl rfl ?_
    refine TOps.next ?_
    refine Tri.range (X := Option Nat × Nat) (fun y j => [(1, .int .i64 what), (2, .pointer (some ⟨b2, 0, none⟩)), (4, .pointer (some ⟨b4, 0, none⟩)), (6, .pointer (some ⟨b18, 0, none⟩)), (7, slV (some b22) 0 L L), (24, slV (some nb) off F.nodes.length cap), (25, .int .i64 F.nodes.length), (26, .int .i64 k), (8, .int .i64 k), (9, .pointer (some ⟨b9, 0, none⟩)), (10, slV y.1 0 j y.2), (32, slV aa ao d.args.length acap asp)]) (fun y j => row y.1 3 1 y.2 (ints (trI P (d.args.take j))) :: row (some b9) 43 3 1 [.int .i64 d.kind, .int .i64 d.k, slV aa ao d.args.length acap asp] :: mkE 69 43 b18 v ms z HC) (fun y j => j ≠ 0 → ∃ b, y.1 = some b) (by omega) rfl rfl rfl (fun _ _ => ⟨rfl, rfl, rfl, rfl⟩) (none, 0) (fun h => absurd rfl h) ⟨rfl, rfl, rfl, rfl, rfl, rfl, rfl, rfl, rfl, rfl, rfl, rfl, trivial⟩ (Le.addNil (E := 3) (sz := 1)) (fun j y hltj hpj => ?_) (fun y ac wc hpj hS hM => ?_)
    · skip
      obtain ⟨ab, rfl, rfl, hxa⟩ := rar.at hltj
      obtain ⟨h00, h01⟩ := hin _ (List.getElem_mem hltj)
      refine Tri.seq (Tri.region ?_)
      refine TOps.indexAddr (off' := ao + j) rfl rfl Try.underlying41 ti3 (by omega) (by omega) (by simp) rfl ?_
      refine TOps.load1 rfl ti3 (hxa.le (Le.drop (Le.drop mkE_le))) rfl ?_
      refine TOps.assign rfl rfl ?_
      refine TOps.next ?_
      refine Tri.region ?_
      refine TOps.move rfl rfl ?_
      refine TOps.loadN (vs := [.int .i64 v, slV (some nb) off F.nodes.length cap none, .int .i64 tp]) rfl ti24 (r2.le (Le.drop (Le.drop mkE_le))) rfl rfl ?_
      refine TOps.move rfl rfl ?_
      refine TOps.move rfl rfl ?_
      refine TOps.call (vs := [_, _, _]) Try.call47 ⟨rfl, rfl, rfl, trivial⟩ (rimage_g (v := v) (P := I) (a := d.args[j]) (hF1.le (Le.drop (Le.drop mkE_le))) hv hv24 (RdS.le rI (Le.drop (Le.drop mkE_le))) hpl (by omega) ⟨h00, by omega⟩ (fun _ _ _ => trivial) (by omega) (fun i hi => padI_get hi)) rfl ?_
      rintro _ _ ⟨rfl, rfl⟩
      rw [hImg _ h00]
      refine TOps.buildSlice (vs := [_]) (xs := [_]) Try.underlying41 ti3 ⟨rfl, rfl, trivial⟩ rfl rfl rfl rfl rfl rfl (by decide) rfl (fun b43 => ?_)
      refine TOps.appendLit rfl rfl Try.underlying41 ti3 rfl (fun _ _ => Upd.here) rfl (by simp [trI_length]; omega) rfl (by omega) (by omega) (by simp) rfl (fun b65 cap65 => ?_)
      refine TOps.assign rfl rfl ?_
      refine TOps.fin ?_
      refine Nrm.body (some b65, cap65) (fun _ => ⟨_, rfl⟩) ⟨rfl, rfl, rfl, rfl, rfl, rfl, rfl, rfl, rfl, rfl, rfl, rfl, rfl, rfl, trivial⟩ (Le.rowEq (by rw [trI_take_succ hltj]; simp [ints]))
    rw [List.take_length] at hM
    obtain ⟨ya, yc⟩ := y
    dsimp only at hM hS hpj ⊢
    refine Nrm.of hS hM ?_
    refine Nrm.next ?_
    refine Tri.block ?_
    refine Tri.seq (Tri.region ?_)
    refine TOps.rowCapO (List.Mem.head _) (fun hyc hyc2 => ?_)
    have htl : (trI P d.args).length = d.args.length := trI_length P d.args
    have hyc' : d.args.length ≤ yc := by rw [List.length_map] at hyc; omega
    have ry : ∀ HX, RInts ([row ya 3 1 yc (ints (trI P d.args)), row (some b9) 43 3 1 [.int .i64 d.kind, .int .i64 d.k, slV aa ao d.args.length acap asp]] ++ HX) ya 0 (trI P d.args) none := fun HX => RdS.ofRowA (List.Mem.head _) (fun h => hpj (by intro h0; have : d.args = [] := List.eq_nil_of_length_eq_zero h0; rw [this] at h; exact h rfl))
    have hset : ∀ x, (ints (padI I L)).set k (.int .i64 x) = ints (padI (I ++ [x]) L) := fun x => by have e := padI_set (l := I) (L := L) (by omega) x; rw [hIl] at e; exact e
    have hset2 : ∀ x y, (ints (padI (I ++ [x]) L)).set k (.int .i64 y) = ints (padI (I ++ [y]) L) := fun x y => by have e := padI_reset (l := I) (L := L) (by omega) x y; rw [hIl] at e; exact e
    refine TOps.move rfl rfl ?_
    refine TOps.eqlI rfl rfl rfl ?_
    refine TOps.move rfl rfl ?_
    refine' TOps.andB 3 rfl rfl rfl rfl (fun hg13_2 => ?_) ?_; rotate_left
    · have hg13_2' := hg13_2
      try simp only [decide_eq_true_eq, decide_eq_false_iff_not, Bool.and_eq_true, Bool.or_eq_true, Bool.not_eq_true', Bool.and_eq_false_iff, Bool.or_eq_false_iff, Bool.not_eq_false', Int.not_lt, Int.not_le, ne_eq, Decidable.not_not] at hg13_2'
      refine TOps.strip 2 true rfl rfl hg13_2 rfl ?_
      refine TOps.field0 rfl Try.underlying43 rfl rfl ti3 rfl rfl rfl ?_
      refine TOps.load1 rfl ti3 (by first | exact Rd.lit (by repeat (first | exact List.Mem.head _ | apply List.Mem.tail)) rfl | (repeat (first | assumption | exact Rd.fld (by assumption) 0 rfl | apply Rd.up))) rfl ?_
      refine TOps.eqlI rfl rfl rfl ?_
      refine TOps.blk rfl (by repeat (first | exact Ext.refl _ | refine Ext.cons rfl ?_)) (by repeat (first | exact Le.refl _ | apply Le.drop))
    refine TOps.assign rfl rfl ?_
    refine TOps.next ?_
    refine Tri.cond rfl (fun hc1 => ?_) (fun hc1 => ?_)
    · try simp only [decide_eq_true_eq, decide_eq_false_iff_not, Bool.and_eq_true, Bool.or_eq_true, Bool.not_eq_true', Bool.and_eq_false_iff, Bool.or_eq_false_iff, Bool.not_eq_false', Int.not_lt, Int.not_le, ne_eq, Decidable.not_not, Option.isSome_iff_ne_none, Option.isNone_iff_eq_none] at hc1
      have hw0 : what = 0 := by omega
      have hk4 : d.kind = 4 := by omega
      obtain ⟨hv1, hv2⟩ := hsp.vote hk4
      replace hv1 : 1 ≤ d.k := hv1
      replace hv2 : d.k ≤ (d.args.length : Int) := by rw [← htl]; exact hv2
      have hB : specB what (trD P d).kind = true := by rw [hw0]; show specB 0 d.kind = true; rw [hk4]; rfl
      obtain ⟨LM, hLM⟩ : ∃ r, leastM v (trI P d.args) d.args.length d.k [] ms = r := ⟨_, rfl⟩
      have hRR2 : RR = (LM.1, LM.2.2) := by rw [← hRR]; unfold nodeM; rw [if_pos hB, hw0]; show ((leastM v (trI P d.args) (trI P d.args).length d.k [] ms).1, (leastM v (trI P d.args) (trI P d.args).length d.k [] ms).2.2) = _; rw [htl, hLM]
      subst hRR2
      obtain ⟨yb, rfl⟩ := hpj (by omega)
      refine Tri.region ?_
      refine TOps.move rfl rfl ?_
      refine TOps.move rfl rfl ?_
      refine TOps.move rfl rfl ?_
      refine TOps.move rfl rfl ?_
      first | refine TOps.fieldB 1 rfl Try.underlying43 rfl rfl ti3 rfl rfl rfl ?_ | refine TOps.fieldN 1 rfl Try.underlying43 rfl rfl ti3 rfl rfl rfl ?_
      refine TOps.load1 rfl ti3 (by first | exact Rd.lit (by repeat (first | exact List.Mem.head _ | apply List.Mem.tail)) rfl | (repeat (first | assumption | exact Rd.fld (by assumption) 1 rfl | apply Rd.up))) rfl ?_
      refine TOps.buildSlice0 Try.underlying79 ti85 rfl (fun b70 => ?_)
      refine TOps.box1 rfl rfl ti79 rfl (fun b71 => ?_)
      refine TOps.le (mkE_inA [row (some b71) 79 1 1 [slV (some b70) 0 0 0], row (some b70) 85 3 0 [], row (some yb) 3 1 yc (ints (trI P d.args)), row (some b9) 43 3 1 [.int .i64 d.kind, .int .i64 d.k, slV aa ao d.args.length acap asp]]) ?_
      refine TOps.call (vs := [_, _, _, _, _]) Try.call48 ⟨rfl, rfl, rfl, rfl, rfl, trivial⟩ (rvote_g (N := d.args.length) hvv htl hal hyc' hyc2 (trD_sm hmS) d.args.length (Nat.le_refl _) (by omega) 0 (by omega) 0 rfl d.k hv1 hv2 ([row (some yb) 3 1 yc (ints (trI P d.args)), row (some b9) 43 3 1 [.int .i64 d.kind, .int .i64 d.k, slV aa ao d.args.length acap asp]] ++ HC) (ry HC) [] ms z (some b70) 0 (fun h => absurd rfl h) hz1 hmO (fun q hq => by cases hq) List.Pairwise.nil (fun q hq => by cases hq)) rfl ?_
      rintro _ _ ⟨s3, qa3, qc3, rfl, hs3, hqa3, rfl⟩
      rw [hLM] at hs3 ⊢
      subst hHC
      refine TOps.indexAddr (off' := k) rfl rfl Try.underlying41 ti3 (by omega) (by omega) (by simp) rfl ?_
      refine TOps.store1 rfl rfl ti3 rfl rfl (Upd.mkE (Upd.there (Upd.there (Upd.there (Upd.there Upd.here))))) (by rw [List.length_map, hpl]; omega) ?_
      rw [hset]
      refine TOps.fin ?_
      refine Nrm.unB ?_
      refine Nrm.body s3 (by rw [hst]; exact hs3) ⟨rfl, rfl, rfl, rfl, rfl, rfl, rfl, rfl, trivial⟩ (by rw [hst]; dsimp only; rw [hsn]; first | exact Le.refl _ | exact mkE_mono (List.Sublist.cons _ (List.Sublist.cons _ (List.Sublist.refl _))) | exact mkE_mono (List.Sublist.cons _ (List.Sublist.cons _ (List.Sublist.cons _ (List.Sublist.cons _ (List.Sublist.refl _))))))
    try simp only [decide_eq_true_eq, decide_eq_false_iff_not, Bool.and_eq_true, Bool.or_eq_true, Bool.not_eq_true', Bool.and_eq_false_iff, Bool.or_eq_false_iff, Bool.not_eq_false', Int.not_lt, Int.not_le, ne_eq, Decidable.not_not, Option.isSome_iff_ne_none, Option.isNone_iff_eq_none] at hc1
    refine Tri.seq (Tri.region ?_)
    refine TOps.move rfl rfl ?_
    refine TOps.eqlI rfl rfl rfl ?_
    refine TOps.move rfl rfl ?_
    refine' TOps.andB 3 rfl rfl rfl rfl (fun hg15_2 => ?_) ?_; rotate_left
    · have hg15_2' := hg15_2
      try simp only [decide_eq_true_eq, decide_eq_false_iff_not, Bool.and_eq_true, Bool.or_eq_true, Bool.not_eq_true', Bool.and_eq_false_iff, Bool.or_eq_false_iff, Bool.not_eq_false', Int.not_lt, Int.not_le, ne_eq, Decidable.not_not] at hg15_2'
      refine TOps.strip 2 true rfl rfl hg15_2 rfl ?_
      refine TOps.field0 rfl Try.underlying43 rfl rfl ti3 rfl rfl rfl ?_
      refine TOps.load1 rfl ti3 (by first | exact Rd.lit (by repeat (first | exact List.Mem.head _ | apply List.Mem.tail)) rfl | (repeat (first | assumption | exact Rd.fld (by assumption) 0 rfl | apply Rd.up))) rfl ?_
      refine TOps.eqlI rfl rfl rfl ?_
      refine TOps.blk rfl (by repeat (first | exact Ext.refl _ | refine Ext.cons rfl ?_)) (by repeat (first | exact Le.refl _ | apply Le.drop))
    refine TOps.assign rfl rfl ?_
    refine TOps.next ?_
    refine Tri.cond rfl (fun hc2 => ?_) (fun hc2 => ?_)
    · try simp only [decide_eq_true_eq, decide_eq_false_iff_not, Bool.and_eq_true, Bool.or_eq_true, Bool.not_eq_true', Bool.and_eq_false_iff, Bool.or_eq_false_iff, Bool.not_eq_false', Int.not_lt, Int.not_le, ne_eq, Decidable.not_not, Option.isSome_iff_ne_none, Option.isNone_iff_eq_none] at hc2
      have hw0 : what = 1 := by omega
      have hk5 : d.kind = 5 := by omega
      have hB : specB what (trD P d).kind = true := by rw [hw0]; show specB 1 d.kind = true; rw [hk5]; rfl
      have hRR2 : RR = xorM v (trI P d.args) ms := by rw [← hRR]; unfold nodeM; rw [if_pos hB, hw0]; rfl
      have hne : trI P d.args ≠ [] := hsp.ne (by show 2 ≤ d.kind; omega)
      refine Tri.region ?_
      refine TOps.move rfl rfl ?_
      refine TOps.move rfl rfl ?_
      refine TOps.move rfl rfl ?_
      refine TOps.move rfl rfl ?_
      refine TOps.le (mkE_inA [row ya 3 1 yc (ints (trI P d.args)), row (some b9) 43 3 1 [.int .i64 d.kind, .int .i64 d.k, slV aa ao d.args.length acap asp]]) ?_
      refine TOps.call (vs := [_, _]) Try.call49 ⟨rfl, rfl, trivial⟩ (rxor_g hz1 hmO hvv htl hne hal (trD_sm hmS) (ry HC) hyc' hyc2) rfl ?_
      rintro _ _ ⟨s3, rfl, hs3, rfl⟩
      rw [← hRR2] at hs3 ⊢
      subst hHC
      refine TOps.indexAddr (off' := k) rfl rfl Try.underlying41 ti3 (by omega) (by omega) (by simp) rfl ?_
      refine TOps.store1 rfl rfl ti3 rfl rfl (Upd.mkE (Upd.there (Upd.there Upd.here))) (by rw [List.length_map, hpl]; omega) ?_
      rw [hset]
      refine TOps.fin ?_
      refine Nrm.unB ?_
      refine Nrm.body s3 (by rw [hst]; exact hs3) ⟨rfl, rfl, rfl, rfl, rfl, rfl, rfl, rfl, trivial⟩ (by rw [hst]; dsimp only; rw [hsn]; first | exact Le.refl _ | exact mkE_mono (List.Sublist.cons _ (List.Sublist.cons _ (List.Sublist.refl _))) | exact mkE_mono (List.Sublist.cons _ (List.Sublist.cons _ (List.Sublist.cons _ (List.Sublist.cons _ (List.Sublist.refl _))))))
    try simp only [decide_eq_true_eq, decide_eq_false_iff_not, Bool.and_eq_true, Bool.or_eq_true, Bool.not_eq_true', Bool.and_eq_false_iff, Bool.or_eq_false_iff, Bool.not_eq_false', Int.not_lt, Int.not_le, ne_eq, Decidable.not_not, Option.isSome_iff_ne_none, Option.isNone_iff_eq_none] at hc2
    refine Tri.seq (Tri.region ?_)
    refine TOps.move rfl rfl ?_
    refine TOps.eqlI rfl rfl rfl ?_
    refine TOps.move rfl rfl ?_
    refine' TOps.andB 8 rfl rfl rfl rfl (fun hg17_2 => ?_) ?_; rotate_left
    · have hg17_2' := hg17_2
      try simp only [decide_eq_true_eq, decide_eq_false_iff_not, Bool.and_eq_true, Bool.or_eq_true, Bool.not_eq_true', Bool.and_eq_false_iff, Bool.or_eq_false_iff, Bool.not_eq_false', Int.not_lt, Int.not_le, ne_eq, Decidable.not_not] at hg17_2'
      refine TOps.strip 2 true rfl rfl hg17_2 rfl ?_
      refine TOps.field0 rfl Try.underlying43 rfl rfl ti3 rfl rfl rfl ?_
      refine TOps.load1 rfl ti3 (by first | exact Rd.lit (by repeat (first | exact List.Mem.head _ | apply List.Mem.tail)) rfl | (repeat (first | assumption | exact Rd.fld (by assumption) 0 rfl | apply Rd.up))) rfl ?_
      refine TOps.eqlI rfl rfl rfl ?_
      refine TOps.move rfl rfl ?_
      refine' TOps.orB 3 rfl rfl rfl rfl (fun hg17_6 => ?_) ?_; rotate_left
      · have hg17_6' := hg17_6
        try simp only [decide_eq_true_eq, decide_eq_false_iff_not, Bool.and_eq_true, Bool.or_eq_true, Bool.not_eq_true', Bool.and_eq_false_iff, Bool.or_eq_false_iff, Bool.not_eq_false', Int.not_lt, Int.not_le, ne_eq, Decidable.not_not] at hg17_6'
        refine TOps.strip 6 false rfl rfl hg17_6 rfl ?_
        refine TOps.field0 rfl Try.underlying43 rfl rfl ti3 rfl rfl rfl ?_
        refine TOps.load1 rfl ti3 (by first | exact Rd.lit (by repeat (first | exact List.Mem.head _ | apply List.Mem.tail)) rfl | (repeat (first | assumption | exact Rd.fld (by assumption) 0 rfl | apply Rd.up))) rfl ?_
        refine TOps.eqlI rfl rfl rfl ?_
        refine TOps.blk rfl (by repeat (first | exact Ext.refl _ | refine Ext.cons rfl ?_)) (by repeat (first | exact Le.refl _ | apply Le.drop))
      refine TOps.blk rfl (by repeat (first | exact Ext.refl _ | refine Ext.cons rfl ?_)) (by repeat (first | exact Le.refl _ | apply Le.drop))
    refine TOps.assign rfl rfl ?_
    refine TOps.next ?_
    refine Tri.cond rfl (fun hc3 => ?_) (fun hc3 => ?_)
    · try simp only [decide_eq_true_eq, decide_eq_false_iff_not, Bool.and_eq_true, Bool.or_eq_true, Bool.not_eq_true', Bool.and_eq_false_iff, Bool.or_eq_false_iff, Bool.not_eq_false', Int.not_lt, Int.not_le, ne_eq, Decidable.not_not, Option.isSome_iff_ne_none, Option.isNone_iff_eq_none] at hc3
      have hw0 : what = 2 := by omega
      have hk23 : d.kind = 2 ∨ d.kind = 3 := by omega
      have hB : specB what (trD P d).kind = true := by rw [hw0]; show specB 2 d.kind = true; simp [specB]; omega
      obtain ⟨x0, xr, hxr⟩ := List.exists_cons_of_ne_nil (show trI P d.args ≠ [] from hsp.ne (by show 2 ≤ d.kind; omega))
      have hRR2 : RR = chainX (fun y r => addM (v : Int) ⟨d.kind, 0, [r.1, y]⟩ r.2) xr (x0, ms) := by rw [← hRR]; unfold nodeM; rw [if_pos hB, hw0]; show binM v d.kind (trI P d.args) ms = _; unfold binM; rw [hxr]; rfl
      have hsm2 := trD_sm (d := d) hmS
      replace hsm2 : ∀ a ∈ trI P d.args, Small a := hsm2
      have hlx : d.args.length = xr.length + 1 := by rw [← htl, hxr]; rfl
      rw [hxr] at hsm2
      have hx0 := hsm2 x0 List.mem_cons_self
      obtain ⟨yb, rfl⟩ := hpj (by omega)
      subst hHC
      refine Tri.seq (Tri.region ?_)
      refine TOps.le (mkE_inA [row (some yb) 3 1 yc (ints (trI P d.args)), row (some b9) 43 3 1 [.int .i64 d.kind, .int .i64 d.k, slV aa ao d.args.length acap asp]]) ?_
      have hargs : ∀ HX, RInts ([row (some yb) 3 1 yc (ints (trI P d.args)), row (some b9) 43 3 1 [.int .i64 d.kind, .int .i64 d.k, slV aa ao d.args.length acap asp]] ++ HX) (some yb) 0 (x0 :: xr) none := fun HX => by rw [← hxr]; exact ry HX
      refine TOps.move rfl rfl ?_
      refine TOps.move rfl rfl ?_
      refine TOps.move rfl rfl ?_
      refine TOps.indexAddr (off' := 0) rfl rfl Try.underlying41 ti3 (by omega) (by omega) (by simp) rfl ?_
      refine TOps.load1 (v := .int .i64 x0) rfl ti3 (Rd.le (by obtain ⟨_, e, _, h⟩ := (hargs (row (some b22) 3 1 L (ints (padI I L)) :: row (some b4) 24 3 1 [.int .i64 0, slV none 0 0 0, .int .i64 0] :: H1)).at (i := 0) (by simp); obtain rfl := Option.some.inj e; exact h) mkE_le) rfl ?_
      refine TOps.indexAddr (off' := k) rfl rfl Try.underlying41 ti3 (by omega) (by omega) (by simp) rfl ?_
      refine TOps.store1 rfl rfl ti3 rfl rfl (Upd.mkE (Upd.there (Upd.there Upd.here))) (by rw [List.length_map, hpl]; omega) ?_
      rw [hset]
      refine TOps.next ?_
      refine Tri.seq (Tri.region ?_)
      refine TOps.move rfl rfl ?_
      refine TOps.sliceLo (l := 1) rfl rfl Try.underlying41 ti3 (by omega) rfl ?_
      obtain ⟨xo', hxo'⟩ : ∃ xo', (bif yc == 1 then 0 else 0 + 1 * 1) = xo' := ⟨_, rfl⟩
      rw [hxo']
      have hxr1 : ∀ j, j < xr.length → xo' = 1 := fun j hj => by rw [← hxo', show (yc == 1) = false from beq_eq_false_iff_ne.2 (by omega)]; rfl
      rw [show d.args.length - 1 = xr.length by omega]
      refine TOps.len rfl Try.underlying41 rfl ?_
      refine TOps.move rfl rfl ?_
      refine TOps.next ?_
      refine Tri.range (X := BS) (fun z2 j => [(1, .int .i64 what), (2, .pointer (some ⟨b2, 0, none⟩)), (4, .pointer (some ⟨b4, 0, none⟩)), (6, .pointer (some ⟨b18, 0, none⟩)), (7, slV (some b22) 0 L L), (24, slV (some nb) off F.nodes.length cap), (25, .int .i64 F.nodes.length), (26, .int .i64 k), (8, .int .i64 k), (9, .pointer (some ⟨b9, 0, none⟩)), (108, slV (some yb) xo' xr.length (yc - 1))]) (fun z2 j => mkE 69 43 b18 v (chainX (fun y r => addM (v : Int) ⟨d.kind, 0, [r.1, y]⟩ r.2) (xr.take j) (x0, ms)).2 z2 ([row (some yb) 3 1 yc (ints (trI P d.args)), row (some b9) 43 3 1 [.int .i64 d.kind, .int .i64 d.k, slV aa ao d.args.length acap asp]] ++ (row (some b22) 3 1 L (ints (padI (snocI I (chainX (fun y r => addM (v : Int) ⟨d.kind, 0, [r.1, y]⟩ r.2) (xr.take j) (x0, ms)).1) L)) :: row (some b4) 24 3 1 [.int .i64 0, slV none 0 0 0, .int .i64 0] :: H1))) (fun z2 j => z2.ok (chainX (fun y r => addM (v : Int) ⟨d.kind, 0, [r.1, y]⟩ r.2) (xr.take j) (x0, ms)).2.ns) (by omega) rfl rfl rfl (fun _ _ => ⟨rfl, rfl, rfl, rfl⟩) z hz1 ⟨rfl, rfl, rfl, rfl, rfl, rfl, rfl, rfl, rfl, rfl, rfl, trivial⟩ (Le.refl _) (fun j z2 hltj hpj => ?_) (fun z2 ac wc hpj hS hM => ?_)
      · skip
        obtain ⟨g0', sm0⟩ := chainX_ok (f := fun y r => addM (v : Int) ⟨d.kind, 0, [r.1, y]⟩ r.2) (fun y r hr => ⟨addM_gr _ _ _, addM_small hvv _ hr⟩) (xr.take j) (x0, ms) hmO hx0
        have oW := g0'.ok hmO
        obtain ⟨W, hW⟩ : ∃ W, chainX (fun y r => addM (v : Int) ⟨d.kind, 0, [r.1, y]⟩ r.2) (xr.take j) (x0, ms) = W := ⟨_, rfl⟩
        have hWn : chainX (fun y r => addM (v : Int) ⟨d.kind, 0, [r.1, y]⟩ r.2) (xr.take (j + 1)) (x0, ms) = addM v ⟨d.kind, 0, [W.1, xr[j]]⟩ W.2 := by rw [List.take_succ_eq_append_getElem hltj, chainX_snoc, hW]
        rw [hW] at hpj sm0 oW ⊢
        obtain ⟨W2, hW2⟩ : ∃ W2, addM (v : Int) ⟨d.kind, 0, [W.1, xr[j]]⟩ W.2 = W2 := ⟨_, rfl⟩
        obtain ⟨_, e', _, hxi⟩ := (hargs (row (some b22) 3 1 L (ints (padI (snocI I W.1) L)) :: row (some b4) 24 3 1 [.int .i64 0, slV none 0 0 0, .int .i64 0] :: H1)).at (i := j + 1) (by simp; omega)
        obtain rfl := Option.some.inj e'
        rw [List.getElem_cons_succ] at hxi
        have hx1 := hxr1 j hltj
        have rN : ∀ x, Rd ([row (some yb) 3 1 yc (ints (trI P d.args)), row (some b9) 43 3 1 [.int .i64 d.kind, .int .i64 d.k, slV aa ao d.args.length acap asp]] ++ (row (some b22) 3 1 L (ints (padI (snocI I x) L)) :: row (some b4) 24 3 1 [.int .i64 0, slV none 0 0 0, .int .i64 0] :: H1)) b9 0 [.int .i64 d.kind, .int .i64 d.k, slV aa ao d.args.length acap asp] := fun x => Rd.all (by repeat (first | exact List.Mem.head _ | apply List.Mem.tail))
        have rI2 : ∀ x, Rd ([row (some yb) 3 1 yc (ints (trI P d.args)), row (some b9) 43 3 1 [.int .i64 d.kind, .int .i64 d.k, slV aa ao d.args.length acap asp]] ++ (row (some b22) 3 1 L (ints (padI (snocI I x) L)) :: row (some b4) 24 3 1 [.int .i64 0, slV none 0 0 0, .int .i64 0] :: H1)) b22 0 (ints (padI (snocI I x) L)) := fun x => Rd.all (by repeat (first | exact List.Mem.head _ | apply List.Mem.tail))
        have hgk : ∀ x, (padI (snocI I x) L).getD k 0 = x := fun x => by rw [padI_get (by simp; omega)]; simp [List.getD_eq_getElem?_getD, ← hIl]
        refine Tri.seq (Tri.region ?_)
        refine TOps.indexAddr (off' := 1 + j) rfl rfl Try.underlying41 ti3 (by omega) (by omega) (by omega) rfl ?_
        refine TOps.load1 (v := .int .i64 xr[j]) rfl ti3 (Rd.le (by rw [show 1 + j = 0 + (j + 1) by omega]; exact hxi) mkE_le) rfl ?_
        refine TOps.assign rfl rfl ?_
        refine TOps.next ?_
        refine Tri.drawX (X := Nat × BS) rfl [(1, .int .i64 what), (2, .pointer (some ⟨b2, 0, none⟩)), (4, .pointer (some ⟨b4, 0, none⟩)), (6, .pointer (some ⟨b18, 0, none⟩)), (7, slV (some b22) 0 L L), (24, slV (some nb) off F.nodes.length cap), (25, .int .i64 F.nodes.length), (26, .int .i64 k), (8, .int .i64 k), (9, .pointer (some ⟨b9, 0, none⟩)), (14, .int .i64 xr[j]), (108, slV (some yb) xo' xr.length (yc - 1)), (109, .int .i64 xr.length), (110, .int .i64 j)] [] (fun x => [_, _, _, _, .int .i64 d.kind, _, _, _, .int .i64 W.1, _, slV (some x.1) 0 2 2, .int .i64 W2.1, _, undef]) (fun x c => match c with | 0 => mkE 69 43 b18 v W.2 z2 ([row (some yb) 3 1 yc (ints (trI P d.args)), row (some b9) 43 3 1 [.int .i64 d.kind, .int .i64 d.k, slV aa ao d.args.length acap asp]] ++ (row (some b22) 3 1 L (ints (padI (snocI I W.1) L)) :: row (some b4) 24 3 1 [.int .i64 0, slV none 0 0 0, .int .i64 0] :: H1)) | 1 => row (some x.1) 3 1 2 [.int .i64 W.1, .int .i64 xr[j]] :: mkE 69 43 b18 v W.2 z2 ([row (some yb) 3 1 yc (ints (trI P d.args)), row (some b9) 43 3 1 [.int .i64 d.kind, .int .i64 d.k, slV aa ao d.args.length acap asp]] ++ (row (some b22) 3 1 L (ints (padI (snocI I W.1) L)) :: row (some b4) 24 3 1 [.int .i64 0, slV none 0 0 0, .int .i64 0] :: H1)) | 2 => fact (x.2.ok W2.2.ns) :: mkE 69 43 b18 v W2.2 x.2 ([row (some yb) 3 1 yc (ints (trI P d.args)), row (some b9) 43 3 1 [.int .i64 d.kind, .int .i64 d.k, slV aa ao d.args.length acap asp]] ++ (row (some b22) 3 1 L (ints (padI (snocI I W.1) L)) :: row (some b4) 24 3 1 [.int .i64 0, slV none 0 0 0, .int .i64 0] :: H1)) | _ + 3 => fact (x.2.ok W2.2.ns) :: mkE 69 43 b18 v W2.2 x.2 ([row (some yb) 3 1 yc (ints (trI P d.args)), row (some b9) 43 3 1 [.int .i64 d.kind, .int .i64 d.k, slV aa ao d.args.length acap asp]] ++ (row (some b22) 3 1 L (ints (padI (snocI I W2.1) L)) :: row (some b4) 24 3 1 [.int .i64 0, slV none 0 0 0, .int .i64 0] :: H1))) [10, 11, 13] (0, BS.new) [] rfl rfl ⟨rfl, rfl, rfl, rfl, rfl, rfl, rfl, rfl, rfl, rfl, rfl, rfl, rfl, rfl, trivial⟩ trivial (by repeat (first | exact Le.refl _ | assumption | apply Le.drop)) (by
          refine ⟨?_, ?_, ?_, ?_, ?_, ?_, ?_, ?_, ?_, ?_, ?_, ?_, ?_, ?_, trivial⟩
          · refine ⟨fun x S c he hw hd hc hcu hm _ => ?_, trivial⟩
            refine TOps.move (he _ _ rfl) rfl ?_
            exact TOps.fin (Nrm.draw x (fun _ _ _ => rfl) rfl (by first | exact Le.refl _ | assumption | exact (by repeat (first | exact Le.refl _ | assumption | apply Le.drop))))
          · refine ⟨fun x S c he hw hd hc hcu hm _ => ?_, trivial⟩
            refine TOps.move (he _ _ rfl) rfl ?_
            exact TOps.fin (Nrm.draw x (fun _ _ _ => rfl) rfl (by first | exact Le.refl _ | assumption | exact (by repeat (first | exact Le.refl _ | assumption | apply Le.drop))))
          · refine ⟨fun x S c he hw hd hc hcu hm _ => ?_, trivial⟩
            refine TOps.move (he _ _ rfl) rfl ?_
            exact TOps.fin (Nrm.draw x (fun _ _ _ => rfl) rfl (by first | exact Le.refl _ | assumption | exact (by repeat (first | exact Le.refl _ | assumption | apply Le.drop))))
          · refine ⟨fun x S c he hw hd hc hcu hm _ => ?_, trivial⟩
            refine TOps.field0 (he _ _ rfl) Try.underlying43 rfl rfl ti3 rfl rfl rfl ?_
            exact TOps.fin (Nrm.draw x (fun _ _ _ => rfl) rfl (by first | exact Le.refl _ | assumption | exact (by repeat (first | exact Le.refl _ | assumption | apply Le.drop))))
          · refine ⟨fun x S c he hw hd hc hcu hm _ => ?_, trivial⟩
            obtain ⟨h3, -⟩ := hd
            rcases (show c = 0 ∨ c = 1 by have : c ≤ 1 := hcu; omega) with rfl | rfl <;> refine TOps.load1 h3 ti3 (Rd.fld ((rN _).le (by first | exact mkE_le | exact Le.drop mkE_le)) 0 rfl) rfl ?_
            all_goals exact TOps.fin (Nrm.draw x (fun _ _ _ => rfl) rfl (Le.refl _))
          · refine ⟨fun x S c he hw hd hc hcu hm _ => ?_, trivial⟩
            refine TOps.move (he _ _ rfl) rfl ?_
            exact TOps.fin (Nrm.draw x (fun _ _ _ => rfl) rfl (by first | exact Le.refl _ | assumption | exact (by repeat (first | exact Le.refl _ | assumption | apply Le.drop))))
          · refine ⟨fun x S c he hw hd hc hcu hm _ => ?_, trivial⟩
            refine TOps.move (he _ _ rfl) rfl ?_
            exact TOps.fin (Nrm.draw x (fun _ _ _ => rfl) rfl (by first | exact Le.refl _ | assumption | exact (by repeat (first | exact Le.refl _ | assumption | apply Le.drop))))
          · refine ⟨fun x S c he hw hd hc hcu hm _ => ?_, trivial⟩
            obtain ⟨h5, h6, -⟩ := hd
            refine TOps.indexAddr (off' := k) h5 h6 Try.underlying41 ti3 (by omega) (by omega) (by simp) rfl ?_
            exact TOps.fin (Nrm.draw x (fun _ _ _ => rfl) rfl (by first | exact Le.refl _ | assumption | exact (by repeat (first | exact Le.refl _ | assumption | apply Le.drop))))
          · refine ⟨fun x S c he hw hd hc hcu hm _ => ?_, trivial⟩
            obtain ⟨h7, -⟩ := hd
            obtain rfl : c = 0 := by have : c ≤ 0 := hcu; omega
            refine TOps.load1 h7 ti3 (Rd.fld ((rI2 _).le mkE_le) k (by rw [ints_get (by rw [padI_length (by simp; omega)]; omega), hgk])) rfl ?_
            exact TOps.fin (Nrm.draw x (fun _ _ _ => rfl) rfl (by first | exact Le.refl _ | assumption | exact (by repeat (first | exact Le.refl _ | assumption | apply Le.drop))))
          · refine ⟨fun x S c he hw hd hc hcu hm _ => ?_, trivial⟩
            refine TOps.move (he _ _ rfl) rfl ?_
            exact TOps.fin (Nrm.draw x (fun _ _ _ => rfl) rfl (by first | exact Le.refl _ | assumption | exact (by repeat (first | exact Le.refl _ | assumption | apply Le.drop))))
          · refine ⟨fun x S c he hw hd hc hcu hm _ => ?_, trivial⟩
            obtain ⟨h8, h9, -⟩ := hd
            obtain rfl : c = 0 := hm rfl
            refine TOps.buildSlice (vs := [_, _]) (xs := [_, _]) Try.underlying41 ti3 ⟨rfl, h8, rfl, h9, trivial⟩ rfl rfl rfl rfl rfl rfl (by decide) rfl (fun b124 => ?_)
            refine TOps.fin (Nrm.draw (b124, x.2) ?_ rfl (Le.refl _))
            intro j hj hcj; rcases j with _|_|_|_|_|_|_|_|_|_|_|_|_|_|j <;> first | rfl | exact absurd rfl hj | exact absurd hcj (by decide)
          · refine ⟨fun x S c he hw hd hc hcu hm _ => ?_, trivial⟩
            obtain ⟨h2, h4, h10, -⟩ := hd
            obtain rfl : c = 1 := hm rfl
            refine TOps.call (vs := [_, _, _, _]) Try.call50 ⟨h2, h4, rfl, h10, trivial⟩ (rnode27_g (A := [row (some x.1) 3 1 2 [.int .i64 W.1, .int .i64 xr[j]]]) (args := [W.1, xr[j]]) (m := 2) hpj hvv oW rfl (by omega) (RdS.ofRowS (List.Mem.head _)) d.kind 0) rfl ?_
            rintro _ _ ⟨s', rfl, hs', rfl⟩
            rw [hW2] at hs' ⊢
            refine TOps.fin (Nrm.draw (x.1, s') ?_ rfl (Le.addFact hs'))
            intro j hj hcj; rcases j with _|_|_|_|_|_|_|_|_|_|_|_|_|_|j <;> first | rfl | exact absurd rfl hj | exact absurd hcj (by decide)
          · refine ⟨fun x S c he hw hd hc hcu hm _ => ?_, trivial⟩
            obtain ⟨h0, h1, _, _, h2, h3, h4, h5, h6, h7, h8, h9, h10, h11, -⟩ := hd
            refine TOps.indexAddr (off' := k) h0 h1 Try.underlying41 ti3 (by omega) (by omega) (by simp) rfl ?_
            exact TOps.fin (Nrm.draw x (fun _ _ _ => rfl) rfl (by first | exact Le.refl _ | assumption | exact (by repeat (first | exact Le.refl _ | assumption | apply Le.drop))))
          · refine ⟨fun x S c he hw hd hc hcu hm _ => ?_, trivial⟩
            obtain ⟨h12, h11, _, h0, h1, h2, h3, h4, h5, h6, h7, h8, h9, h10, _, -⟩ := hd
            obtain rfl : c = 2 := hm rfl
            refine TOps.store1 (u := .int .i64 W2.1) h12 h11 ti3 rfl rfl (Upd.there (Upd.mkE (Upd.there (Upd.there Upd.here)))) (by rw [List.length_map, padI_length (by simp; omega)]; omega) ?_
            rw [hset2]
            exact TOps.fin (Nrm.draw x (fun _ _ _ => rfl) rfl (Le.refl _))
          ) (fun w => ?_)
        refine Nrm.fact (List.Mem.head _) (fun hs2 => ?_)
        refine Nrm.le (Le.drop (Le.refl _)) ?_
        obtain ⟨s2, hs2e⟩ : ∃ s2, w.2 = s2 := ⟨_, rfl⟩
        rw [hs2e] at hs2 ⊢
        refine Nrm.body s2 (by rw [hWn, hW2]; exact hs2) ⟨rfl, rfl, rfl, rfl, rfl, rfl, rfl, rfl, rfl, rfl, rfl, rfl, rfl, trivial⟩ (by rw [hWn, hW2]; exact Le.refl _)
      rw [List.take_length, ← hRR2] at hM hpj
      obtain ⟨s3, hs3e⟩ : ∃ s3, z2 = s3 := ⟨_, rfl⟩
      rw [hs3e] at hM hpj
      have hs3 := hpj
      refine Nrm.of hS hM ?_
      refine Nrm.unB ?_
      refine Nrm.body s3 (by rw [hst]; exact hs3) ⟨rfl, rfl, rfl, rfl, rfl, rfl, rfl, rfl, trivial⟩ (by rw [hst]; dsimp only; rw [hsn]; first | exact Le.refl _ | exact mkE_mono (List.Sublist.cons _ (List.Sublist.cons _ (List.Sublist.refl _))) | exact mkE_mono (List.Sublist.cons _ (List.Sublist.cons _ (List.Sublist.cons _ (List.Sublist.cons _ (List.Sublist.refl _))))))
    try simp only [decide_eq_true_eq, decide_eq_false_iff_not, Bool.and_eq_true, Bool.or_eq_true, Bool.not_eq_true', Bool.and_eq_false_iff, Bool.or_eq_false_iff, Bool.not_eq_false', Int.not_lt, Int.not_le, ne_eq, Decidable.not_not, Option.isSome_iff_ne_none, Option.isNone_iff_eq_none] at hc3
    have hB : specB what (trD P d).kind = false := by
      show specB what d.kind = false
      rcases hw with rfl | rfl | rfl <;> simp [specB] <;> omega
    have hRR2 : RR = addM v ⟨d.kind, d.k, trI P d.args⟩ ms := by rw [← hRR, nodeM_copy hB]; rfl
    refine Tri.region ?_
    refine TOps.move rfl rfl ?_
    refine TOps.move rfl rfl ?_
    refine TOps.move rfl rfl ?_
    refine TOps.field0 rfl Try.underlying43 rfl rfl ti3 rfl rfl rfl ?_
    refine TOps.load1 rfl ti3 (by first | exact Rd.lit (by repeat (first | exact List.Mem.head _ | apply List.Mem.tail)) rfl | (repeat (first | assumption | exact Rd.fld (by assumption) 0 rfl | apply Rd.up))) rfl ?_
    first | refine TOps.fieldB 1 rfl Try.underlying43 rfl rfl ti3 rfl rfl rfl ?_ | refine TOps.fieldN 1 rfl Try.underlying43 rfl rfl ti3 rfl rfl rfl ?_
    refine TOps.load1 rfl ti3 (by first | exact Rd.lit (by repeat (first | exact List.Mem.head _ | apply List.Mem.tail)) rfl | (repeat (first | assumption | exact Rd.fld (by assumption) 1 rfl | apply Rd.up))) rfl ?_
    refine TOps.move rfl rfl ?_
    refine TOps.call (vs := [_, _, _, _]) Try.call50 ⟨rfl, rfl, rfl, rfl, trivial⟩ (rnode27_g (A := [row ya 3 1 yc (ints (trI P d.args)), row (some b9) 43 3 1 [.int .i64 d.kind, .int .i64 d.k, slV aa ao d.args.length acap asp]]) (args := trI P d.args) hz1 hvv hmO htl (by omega) (by have := ry []; rwa [List.append_nil] at this) d.kind d.k) rfl ?_
    rintro _ _ ⟨s3, rfl, hs3, rfl⟩
    rw [← hRR2] at hs3 ⊢
    subst hHC
    refine TOps.indexAddr (off' := k) rfl rfl Try.underlying41 ti3 (by omega) (by omega) (by simp) rfl ?_
    refine TOps.store1 rfl rfl ti3 rfl rfl (Upd.mkE Upd.here) (by rw [List.length_map, hpl]; omega) ?_
    rw [hset]
    refine TOps.fin ?_
    refine Nrm.unB ?_
    refine Nrm.body s3 (by rw [hst]; exact hs3) ⟨rfl, rfl, rfl, rfl, rfl, rfl, rfl, rfl, trivial⟩ (by rw [hst]; dsimp only; rw [hsn]; first | exact Le.refl _ | exact mkE_mono (List.Sublist.cons _ (List.Sublist.cons _ (List.Sublist.refl _))) | exact mkE_mono (List.Sublist.cons _ (List.Sublist.cons _ (List.Sublist.cons _ (List.Sublist.cons _ (List.Sublist.refl _))))))
  have hIl := mapS_imgs (what := what) (v := v) (nodes := F.nodes) (k := F.nodes.length)
  have hImg := mapS_img (what := what) (v := v) (nodes := F.nodes) (k := F.nodes.length) (a := (tp : Int)) (by omega)
  rw [Int.toNat_natCast] at hImg
  obtain ⟨ST, hST⟩ : ∃ ST, mapS what v F.nodes F.nodes.length = ST := ⟨_, rfl⟩
  rw [hST] at hM hp hIl hImg hpE hpF
  obtain ⟨I, hI⟩ : ∃ I, ST.1.drop v = I := ⟨_, rfl⟩
  rw [hI] at hM hIl hImg
  have hpl := padI_length (l := I) (L := L) (by omega)
  have hLe : Le (mkE 69 43 b18 v ST.2 z (row (some b22) 3 1 L (ints (padI I L)) :: row (some b4) 24 3 1 [.int .i64 0, slV none 0 0 0, .int .i64 0] :: H1)) H1 := mkE_le.trans (Le.drop (Le.drop (Le.refl _)))
  refine Nrm.of hS hM ?_
  refine Nrm.next ?_
  refine Tri.seq (Tri.region ?_)
  refine TOps.move rfl rfl ?_
  refine TOps.loadN (vs := [.int .i64 v, slV na off F.nodes.length cap nsp, .int .i64 tp]) rfl ti24 (r1.le hLe) rfl rfl ?_
  refine TOps.move rfl rfl ?_
  first | refine TOps.fieldB 2 rfl Try.underlying24 rfl rfl ti3 rfl rfl rfl ?_ | refine TOps.fieldN 2 rfl Try.underlying24 rfl rfl ti3 rfl rfl rfl ?_
  refine TOps.load1 rfl ti3 (Rd.fld (r1.le hLe) 2 rfl) rfl ?_
  refine TOps.call (vs := [_, _, _]) Try.call47 ⟨rfl, rfl, rfl, trivial⟩ (rimage_g (v := v) (P := I) (a := (tp : Int)) (hF0.le hLe) hv hv24 (RdS.le (RdS.ofRowS (List.Mem.head _)) mkE_le) hpl (by omega) ⟨by omega, by omega⟩ (fun _ _ _ => trivial) (by omega) (fun i hi => padI_get hi)) rfl ?_
  rintro _ _ ⟨rfl, rfl⟩
  rw [Int.toNat_natCast, hImg]
  refine TOps.call (vs := [_, _]) Try.call42 ⟨rfl, rfl, trivial⟩ (result27_g hp _) rfl ?_
  rintro _ _ ⟨ra, rc, NN, rfl, hN2, rfl⟩
  rw [← hpE]
  rw [← hpF] at hN2 ⊢
  refine TOps.extract rfl rfl rfl ?_
  refine TOps.extract rfl rfl rfl ?_
  refine TOps.storeN rfl rfl ti24 rfl rfl (Upd.app (Upd.there Upd.here) NN) (by simp) ?_
  refine TOps.assign rfl rfl ?_
  refine TOps.next ?_
  refine Tri.ret2 (H' := NN ++ H) Try.results35 (fun _ _ h => h) (.cellN rfl rfl ti24 (Rd.all (List.mem_append_right _ (List.Mem.tail _ (List.Mem.head _)))) rfl) (.tmp rfl) (sub_app (List.Sublist.cons _ (List.Sublist.cons _ s1))) ⟨ra, rc, NN, rfl, hN2, rfl⟩
end Go.Proofs
