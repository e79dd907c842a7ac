import Derived.Test.YthfbpnfaklaopaaG11
import Derived.Test.YthfbpnfaklaopaaL11
namespace Go.Proofs
open Go.GL
set_option linter.unusedVariables false
set_option linter.unusedSimpArgs false
set_option maxHeartbeats 1000000 in
theorem joined_g {H : List Ent} {fv : Value} {F : Fm} (hF : RF H fv F) (hg : F.Good) {v : Nat} (hv : F.vars = v) {first : List Nd} {fa fsp : Option Nat} {fo fc : Nat} (hf : RNodes H fa fo first fsp) (hfl : first.length ≤ 10000) (hfa : ∀ i (hi : i < first.length), first[i].args.length ≤ 16)
    {ev : List Int} {ea esp : Option Nat} {eo ec : Nat} (hev : RInts H ea eo ev esp) (hel : ev.length = v) :
    Gives Try.prog 43 [fv, slV fa fo first.length fc fsp, slV ea eo v ec esp] H (NewV (sizedF (F.join first ev)) (.int .i64 ((sizedE (F.join first ev)).getD 0)) H) := by
  obtain ⟨na, off, cap, nsp, rfl, hN⟩ := hF
  have g0 := hg.v0; have g1 := hg.v1; have g2 := hg.n1; have gt := hg.topLt
  have hvn : F.vars.toNat = v := by omega
  obtain ⟨tp, htp⟩ := Int.eq_ofNat_of_zero_le gt.1
  obtain ⟨TF, hTF⟩ : ∃ TF, fullT v ev first.length F.nodes.length = TF := ⟨_, rfl⟩
  have hTFl : TF.length = v + F.nodes.length := by rw [← hTF, fullT_length, hel]
  have hJ : F.join first ev = ⟨(v : Int), first ++ F.nodes.map (mapN TF), TF.getD tp 0⟩ := by unfold Fm.join; rw [hv, hTF, htp, Int.toNat_natCast]
  rw [hJ, hv, htp]
  refine Gives.enter Try.func43 rfl (by exact Try.ntmps43) rfl ?_
  refine Tri.seq (Tri.region ?_)
  refine TOps.boxN rfl ti24 rfl rfl (fun b3 => ?_)
  refine TOps.hide (fun H1 l1 s1 r3 => ?_)
  replace hN := hN.le l1; replace hf := hf.le l1; replace hev := RdS.le hev l1
  refine TOps.alloc ti24 rfl (fun b6 => ?_)
  refine TOps.assign rfl rfl ?_
  refine TOps.next ?_
  refine Tri.seq (Tri.region ?_)
  refine TOps.field0 rfl Try.underlying24 rfl rfl ti3 rfl rfl rfl ?_
  refine TOps.load1 rfl ti3 (by first | exact Rd.lit (by repeat (first | exact List.Mem.head _ | apply List.Mem.tail)) rfl | (repeat (first | assumption | exact Rd.fld (by assumption) 0 rfl | apply Rd.up))) rfl ?_
  refine TOps.buildStruct (vs := [(0, _)]) (xs := [_, _, _]) [(0, 1), (1, 1), (2, 1)] Try.underlying24 ti24 (fun w => by simp) ⟨rfl, rfl, trivial⟩ rfl rfl ?_
  refine TOps.alloc ti24 rfl (fun b8 => ?_)
  refine TOps.storeN rfl rfl ti24 rfl rfl (by repeat (first | exact Upd.here | apply Upd.there)) (by first | decide | (simp; done) | (simp; omega)) ?_
  refine TOps.next ?_
  refine Tri.seq ?_
  refine Tri.seq (Tri.region ?_)
  refine TOps.move rfl rfl ?_
  refine TOps.len rfl Try.underlying22 rfl ?_
  refine TOps.move rfl rfl ?_
  refine TOps.next ?_
  refine Tri.range (X := BS) (fun z k => [(1, slV fa fo first.length fc fsp), (3, .pointer (some ⟨b3, 0, none⟩)), (6, .pointer (some ⟨b6, 0, none⟩)), (8, .pointer (some ⟨b8, 0, none⟩)), (2, slV ea eo v ec esp), (21, slV fa fo first.length fc fsp)]) (fun z k => bld 24 54 b8 v (first.take k) 0 z (row (some b6) 24 3 1 [.int .i64 0, slV none 0 0 0, .int .i64 0] :: H1)) (fun z k => z.ok (first.take k)) (by omega) rfl rfl rfl (fun _ _ => ⟨rfl, rfl, rfl, rfl⟩) BS.new BS.new_ok ⟨rfl, rfl, rfl, rfl, rfl, rfl, trivial⟩ bld_new (fun k z hlt hp => ?_) (fun z ac wc hp hS hM => ?_)
  · skip
    obtain ⟨nb, aa, ao, acap, asp, rfl, rfl, hn⟩ := hf.at hlt
    have hal := hfa k hlt
    have hst : first.take (k + 1) = first.take k ++ [⟨first[k].kind, first[k].k, first[k].args⟩] := List.take_succ_eq_append_getElem hlt
    have hlk : (first.take k).length = k := by rw [List.length_take]; omega
    obtain ⟨d, hd⟩ : ∃ d, first[k] = d := ⟨_, rfl⟩
    rw [hd] at hn hal hst
    refine Tri.seq (Tri.region ?_)
    refine TOps.indexAddr (off' := fo + k * 3) rfl rfl Try.underlying22 ti54 (by omega) (by omega) (by simp) rfl ?_
    refine TOps.loadN (vs := [.int .i64 d.kind, .int .i64 d.k, slV aa ao d.args.length acap asp]) rfl ti54 (hn.cells.le (Le.trans bld_le (Le.drop (Le.refl _)))) rfl rfl ?_
    refine TOps.alloc ti54 rfl (fun b10 => ?_)
    refine TOps.storeN rfl rfl ti54 rfl rfl (by repeat (first | exact Upd.here | apply Upd.there)) (by first | decide | (simp; done) | (simp; omega)) ?_
    refine TOps.le bld_in ?_
    have r10 : Rd (row (some b10) 54 3 1 [.int .i64 d.kind, .int .i64 d.k, slV aa ao d.args.length acap asp] :: row (some b6) 24 3 1 [.int .i64 0, slV none 0 0 0, .int .i64 0] :: H1) b10 0 [.int .i64 d.kind, .int .i64 d.k, slV aa ao d.args.length acap asp] := Rd.all (by repeat (first | exact List.Mem.head _ | apply List.Mem.tail))
    have hargs : RInts (row (some b10) 54 3 1 [.int .i64 d.kind, .int .i64 d.k, slV aa ao d.args.length acap asp] :: row (some b6) 24 3 1 [.int .i64 0, slV none 0 0 0, .int .i64 0] :: H1) aa ao d.args asp := RdS.le hn.args (Le.drop (Le.drop (Le.refl _)))
    refine TOps.next ?_
    refine Tri.region ?_
    refine TOps.loadN rfl ti24 bld_rd rfl rfl ?_
    refine TOps.field0 rfl Try.underlying54 rfl rfl ti3 rfl rfl rfl ?_
    refine TOps.load1 rfl ti3 (Rd.fld (r10.le bld_le) 0 rfl) rfl ?_
    first | refine TOps.fieldB 1 rfl Try.underlying54 rfl rfl ti3 rfl rfl rfl ?_ | refine TOps.fieldN 1 rfl Try.underlying54 rfl rfl ti3 rfl rfl rfl ?_
    refine TOps.load1 rfl ti3 (Rd.fld (r10.le bld_le) 1 rfl) rfl ?_
    first | refine TOps.fieldB 2 rfl Try.underlying54 rfl rfl ti52 rfl rfl rfl ?_ | refine TOps.fieldN 2 rfl Try.underlying54 rfl rfl ti52 rfl rfl rfl ?_
    refine TOps.load1 rfl ti52 (Rd.fld (r10.le bld_le) 2 rfl) rfl ?_
    refine TOps.call (vs := [_, _, _, _]) Try.call38 ⟨rfl, rfl, rfl, rfl, trivial⟩ (radd0_g hp rfl ⟨by omega, by omega⟩ (by omega) rfl (by omega) hargs d.kind d.k) rfl ?_
    rintro _ _ ⟨s2, rfl, hs2, rfl⟩
    refine TOps.move rfl rfl ?_
    refine TOps.extract rfl rfl rfl ?_
    refine TOps.extract rfl rfl rfl ?_
    refine TOps.storeBld rfl rfl ti24 (by simp) rfl ?_
    refine TOps.fin ?_
    refine Nrm.body s2 (by rw [hst]; exact hs2) ⟨rfl, rfl, rfl, rfl, rfl, rfl, rfl, rfl, trivial⟩ (by rw [hst]; exact bld_mono (List.sublist_cons_self _ _))
  rw [List.take_length] at hp hM
  refine Nrm.of hS hM ?_
  refine Nrm.next ?_
  refine Tri.seq (Tri.region ?_)
  refine TOps.buildSlice0 Try.underlying52 ti3 rfl (fun b39 => ?_)
  refine TOps.move rfl rfl ?_
  refine TOps.append (ys := ints ev) rfl rfl Try.underlying52 ti3 rfl (fun _ _ => Upd.here) (RdS.le hev (Le.drop (Le.trans bld_le (Le.drop (Le.refl _))))) (by simp [hel]) rfl (oneInts ev) (by omega) (by omega) rfl (fun a' cap' h0' => ?_)
  refine TOps.assign rfl rfl ?_
  refine TOps.next ?_
  refine Tri.seq ?_
  refine Tri.seq (Tri.region ?_)
  first | refine TOps.fieldB 1 rfl Try.underlying24 rfl rfl ti22 rfl rfl rfl ?_ | refine TOps.fieldN 1 rfl Try.underlying24 rfl rfl ti22 rfl rfl rfl ?_
  refine TOps.load1 rfl ti22 (Rd.fld (r3.le (Le.drop (Le.trans bld_le (Le.drop (Le.refl _))))) 1 rfl) rfl ?_
  refine TOps.len rfl Try.underlying22 rfl ?_
  refine TOps.move rfl rfl ?_
  refine TOps.next ?_
  refine Tri.range (X := Option Nat × Nat) (fun y k => [(1, slV fa fo first.length fc fsp), (3, .pointer (some ⟨b3, 0, none⟩)), (6, .pointer (some ⟨b6, 0, none⟩)), (8, .pointer (some ⟨b8, 0, none⟩)), (11, slV y.1 0 (v + k) y.2)]) (fun y k => row y.1 3 1 y.2 (ints (fullT v ev first.length k)) :: bld 24 54 b8 v first 0 z (row (some b6) 24 3 1 [.int .i64 0, slV none 0 0 0, .int .i64 0] :: H1)) (fun y k => v + k ≠ 0 → ∃ b, y.1 = some b) (by omega) rfl rfl rfl (fun _ _ => ⟨rfl, rfl, rfl, rfl⟩) (a', cap') (fun h => h0' (fun e => h (by rw [show ev = [] from by simpa [ints] using e] at hel; simp at hel; omega))) (by rw [Nat.zero_add]; exact ⟨rfl, rfl, rfl, rfl, rfl, trivial⟩) (Le.rowEq (by simp [fullT])) (fun k y hlt hp => ?_) (fun y ac wc hp hS hM => ?_)
  · skip
    have hfk := fullT_length v ev first.length k
    refine Tri.seq (Tri.region ?_)
    refine TOps.move rfl rfl ?_
    refine TOps.assign rfl rfl ?_
    refine TOps.next ?_
    refine Tri.region ?_
    refine TOps.move rfl rfl ?_
    refine TOps.field0 rfl Try.underlying24 rfl rfl ti3 rfl rfl rfl ?_
    refine TOps.load1 rfl ti3 (Rd.fld (r3.le (Le.drop (Le.trans bld_le (Le.drop (Le.refl _))))) 0 rfl) rfl ?_
    refine TOps.move rfl rfl ?_
    refine TOps.len rfl Try.underlying22 rfl ?_
    refine TOps.add rfl rfl (wrapI (by omega) (by omega)) rfl ?_
    refine TOps.move rfl rfl ?_
    refine TOps.add (r := (v : Int) + (first.length + k : Nat)) rfl rfl (by rw [wrapI (by omega) (by omega)]; omega) rfl ?_
    refine TOps.buildSlice (vs := [_]) (xs := [_]) Try.underlying52 ti3 ⟨rfl, rfl, trivial⟩ rfl rfl rfl rfl rfl rfl (by decide) rfl (fun b56 => ?_)
    refine TOps.appendLit rfl rfl Try.underlying52 ti3 rfl (fun _ _ => Upd.here) rfl (by rw [List.length_map]; omega) rfl (by omega) (by omega) (by simp) rfl (fun b57 cap57 => ?_)
    refine TOps.assign rfl rfl ?_
    refine TOps.fin ?_
    refine Nrm.body (some b57, cap57) (fun _ => ⟨_, rfl⟩) ⟨rfl, rfl, rfl, rfl, rfl, rfl, rfl, trivial⟩ (Le.rowEq (by rw [fullT_succ, ints_snoc]))
  rw [hTF] at hM
  have hz := ‹z.ok first›
  obtain ⟨y1, y2⟩ := y
  dsimp only at hp hM hS
  have hy := hp
  clear hp
  refine Nrm.of hS hM ?_
  refine Nrm.next ?_
  refine Tri.seq ?_
  refine Tri.seq (Tri.region ?_)
  first | refine TOps.fieldB 1 rfl Try.underlying24 rfl rfl ti22 rfl rfl rfl ?_ | refine TOps.fieldN 1 rfl Try.underlying24 rfl rfl ti22 rfl rfl rfl ?_
  refine TOps.load1 rfl ti22 (Rd.fld (r3.le (Le.drop (Le.trans bld_le (Le.drop (Le.refl _))))) 1 rfl) rfl ?_
  refine TOps.len rfl Try.underlying22 rfl ?_
  refine TOps.move rfl rfl ?_
  refine TOps.next ?_
  refine Tri.range (X := BS) (fun u k => [(1, slV fa fo first.length fc fsp), (3, .pointer (some ⟨b3, 0, none⟩)), (6, .pointer (some ⟨b6, 0, none⟩)), (8, .pointer (some ⟨b8, 0, none⟩)), (11, slV y1 0 (v + F.nodes.length) y2), (60, slV na off F.nodes.length cap nsp)]) (fun u k => bld 24 54 b8 v (first ++ (F.nodes.take k).map (mapN TF)) 0 u (row y1 3 1 y2 (ints TF) :: row (some b6) 24 3 1 [.int .i64 0, slV none 0 0 0, .int .i64 0] :: H1)) (fun u k => u.ok (first ++ (F.nodes.take k).map (mapN TF))) (by omega) rfl rfl rfl (fun _ _ => ⟨rfl, rfl, rfl, rfl⟩) z (by simpa using hz) ⟨rfl, rfl, rfl, rfl, rfl, rfl, trivial⟩ (by rw [List.take_zero, List.map_nil, List.append_nil]; exact bld_in) (fun k u hlt hp => ?_) (fun u ac wc hp hS hM => ?_)
  · skip
    obtain ⟨nb, aa, ao, acap, asp, rfl, rfl, hn⟩ := hN.at hlt
    have hfi := hg.fits k hlt
    have hal := hfi.len
    have hst : first ++ (F.nodes.take (k + 1)).map (mapN TF) = first ++ (F.nodes.take k).map (mapN TF) ++ [mapN TF F.nodes[k]] := by rw [List.take_succ_eq_append_getElem hlt, List.map_append, List.append_assoc]; rfl
    have hlk : (first ++ (F.nodes.take k).map (mapN TF)).length = first.length + k := by simp; omega
    obtain ⟨d, hd⟩ : ∃ d, F.nodes[k] = d := ⟨_, rfl⟩
    obtain ⟨NS, hNS⟩ : ∃ NS, first ++ (F.nodes.take k).map (mapN TF) = NS := ⟨_, rfl⟩
    rw [hd] at hn hfi hal hst
    rw [hNS] at hst hlk hp ⊢
    have hin : ∀ a ∈ d.args, 0 ≤ a ∧ a.toNat < v + F.nodes.length := fun a ha => by have := hfi.args a ha; omega
    refine Tri.seq (Tri.region ?_)
    refine TOps.indexAddr (off' := off + k * 3) rfl rfl Try.underlying22 ti54 (by omega) (by omega) (by simp) rfl ?_
    refine TOps.loadN (vs := [.int .i64 d.kind, .int .i64 d.k, slV aa ao d.args.length acap asp]) rfl ti54 (hn.cells.le (Le.trans bld_le (Le.drop (Le.drop (Le.refl _))))) rfl rfl ?_
    refine TOps.alloc ti54 rfl (fun b14 => ?_)
    refine TOps.storeN rfl rfl ti54 rfl rfl (by repeat (first | exact Upd.here | apply Upd.there)) (by first | decide | (simp; done) | (simp; omega)) ?_
    refine TOps.le bld_in ?_
    obtain ⟨HB, hHB⟩ : ∃ HB, HB = row (some b14) 54 3 1 [.int .i64 d.kind, .int .i64 d.k, slV aa ao d.args.length acap asp] :: row y1 3 1 y2 (ints TF) :: row (some b6) 24 3 1 [.int .i64 0, slV none 0 0 0, .int .i64 0] :: H1 := ⟨_, rfl⟩
    have r14 : Rd HB b14 0 [.int .i64 d.kind, .int .i64 d.k, slV aa ao d.args.length acap asp] := by rw [hHB]; exact Rd.all (by repeat (first | exact List.Mem.head _ | apply List.Mem.tail))
    have hargs : RInts HB aa ao d.args asp := by rw [hHB]; exact RdS.le hn.args (Le.drop (Le.drop (Le.drop (Le.refl _))))
    have rT : RInts HB y1 0 TF := by rw [hHB]; exact RdS.ofRowA (by repeat (first | exact List.Mem.head _ | apply List.Mem.tail)) (fun h => hy (by intro h0; rw [h0] at hTFl; exact h (by rw [List.eq_nil_of_length_eq_zero hTFl]; rfl)))
    refine TOps.le (H' := bld 24 54 b8 v NS 0 u HB) (by rw [hHB]; exact Le.refl _) ?_
    refine TOps.next ?_
    refine Tri.seq (Tri.region ?_)
    refine TOps.assign rfl rfl ?_
    refine TOps.next ?_
    refine Tri.seq ?_
    refine Tri.seq (Tri.region ?_)
    first | refine TOps.fieldB 2 rfl Try.underlying54 rfl rfl ti52 rfl rfl rfl ?_ | refine TOps.fieldN 2 rfl Try.underlying54 rfl rfl ti52 rfl rfl rfl ?_
    refine TOps.load1 rfl ti52 (Rd.fld (r14.le bld_le) 2 rfl) rfl ?_
    refine TOps.len rfl Try.underlying52 rfl ?_
    refine TOps.move rfl rfl ?_
    refine TOps.next ?_
    refine Tri.range (X := Option Nat × Nat) (fun q j => [(1, slV fa fo first.length fc fsp), (3, .pointer (some ⟨b3, 0, none⟩)), (6, .pointer (some ⟨b6, 0, none⟩)), (8, .pointer (some ⟨b8, 0, none⟩)), (11, slV y1 0 (v + F.nodes.length) y2), (60, slV (some nb) off F.nodes.length cap), (61, .int .i64 F.nodes.length), (62, .int .i64 k), (14, .pointer (some ⟨b14, 0, none⟩)), (15, slV q.1 0 j q.2), (67, slV aa ao d.args.length acap asp)]) (fun q j => row q.1 3 1 q.2 (ints (trI TF (d.args.take j))) :: bld 24 54 b8 v NS 0 u HB) (fun q j => j ≠ 0 → ∃ b, q.1 = some b) (by omega) rfl rfl rfl (fun _ _ => ⟨rfl, rfl, rfl, rfl⟩) (none, 0) (fun h => absurd rfl h) ⟨rfl, rfl, rfl, rfl, rfl, rfl, rfl, rfl, rfl, rfl, rfl, trivial⟩ Le.addNil (fun j q hltj hpj => ?_) (fun q ac wc hpj hS hM => ?_)
    · skip
      obtain ⟨ab, rfl, rfl, ha⟩ := hargs.at hltj
      obtain ⟨hb0, hb1⟩ := hin _ (List.getElem_mem hltj)
      obtain ⟨tb, rfl, _, ht⟩ := rT.at (i := d.args[j].toNat) (by omega)
      refine Tri.seq (Tri.region ?_)
      refine TOps.indexAddr (off' := ao + j) rfl rfl Try.underlying52 ti3 (by omega) (by omega) (by simp) rfl ?_
      refine TOps.load1 rfl ti3 (Rd.le ha (Le.drop bld_le)) rfl ?_
      refine TOps.assign rfl rfl ?_
      refine TOps.next ?_
      refine Tri.region ?_
      refine TOps.move rfl rfl ?_
      refine TOps.move rfl rfl ?_
      refine TOps.move rfl rfl ?_
      refine TOps.indexAddr (off' := 0 + d.args[j].toNat) rfl rfl Try.underlying52 ti3 (by omega) (by omega) (by simp) rfl ?_
      refine TOps.load1 rfl ti3 (Rd.le ht (Le.drop bld_le)) rfl ?_
      refine TOps.buildSlice (vs := [_]) (xs := [_]) Try.underlying52 ti3 ⟨rfl, rfl, trivial⟩ rfl rfl rfl rfl rfl rfl (by decide) rfl (fun b78 => ?_)
      refine TOps.appendLit rfl rfl Try.underlying52 ti3 rfl (fun _ _ => Upd.here) rfl (by simp [trI_length]; omega) rfl (by omega) (by omega) (by simp) rfl (fun b79 cap79 => ?_)
      refine TOps.assign rfl rfl ?_
      refine TOps.fin ?_
      refine Nrm.body (some b79, cap79) (fun _ => ⟨_, rfl⟩) ⟨rfl, rfl, rfl, rfl, rfl, rfl, rfl, rfl, rfl, rfl, rfl, rfl, rfl, trivial⟩ (Le.rowEq (by rw [trI_take_succ hltj, show TF.getD d.args[j].toNat 0 = TF[d.args[j].toNat]'(by omega) from by rw [List.getD_eq_getElem?_getD, List.getElem?_eq_getElem (by omega)]; rfl]; simp [ints]))
    rw [List.take_length] at hM
    refine Nrm.of hS hM ?_
    refine Nrm.next ?_
    refine Tri.region ?_
    refine TOps.loadN rfl ti24 (Rd.up bld_rd) rfl rfl ?_
    refine TOps.field0 rfl Try.underlying54 rfl rfl ti3 rfl rfl rfl ?_
    refine TOps.load1 rfl ti3 (Rd.fld (r14.le (Le.drop bld_le)) 0 rfl) rfl ?_
    first | refine TOps.fieldB 1 rfl Try.underlying54 rfl rfl ti3 rfl rfl rfl ?_ | refine TOps.fieldN 1 rfl Try.underlying54 rfl rfl ti3 rfl rfl rfl ?_
    refine TOps.load1 rfl ti3 (Rd.fld (r14.le (Le.drop bld_le)) 1 rfl) rfl ?_
    refine TOps.move rfl rfl ?_
    refine TOps.call (vs := [_, _, _, _]) Try.call38 ⟨rfl, rfl, rfl, rfl, trivial⟩ (radd1_g hp rfl ⟨by omega, by omega⟩ (by omega) (trI_length TF d.args) (by omega) (fun h => hpj (by intro h0; exact h (by rw [List.eq_nil_of_length_eq_zero h0]; rfl))) d.kind d.k) rfl ?_
    rintro _ _ ⟨s2, rfl, hs2, rfl⟩
    refine TOps.move rfl rfl ?_
    refine TOps.extract rfl rfl rfl ?_
    refine TOps.extract rfl rfl rfl ?_
    refine TOps.storeBld rfl rfl ti24 (by simp) rfl ?_
    refine TOps.fin ?_
    refine Nrm.body s2 (by rw [hst]; exact hs2) ⟨rfl, rfl, rfl, rfl, rfl, rfl, rfl, rfl, trivial⟩ (by rw [hst, hHB]; exact bld_mono (List.sublist_cons_self _ _))
  rw [List.take_length] at hp hM
  obtain ⟨yb, rfl⟩ := hy (by omega)
  have hJl : (first ++ F.nodes.map (mapN TF)).length = first.length + F.nodes.length := by simp
  obtain ⟨JN, hJN⟩ : ∃ JN, first ++ F.nodes.map (mapN TF) = JN := ⟨_, rfl⟩
  rw [hJN] at hp hM hJl ⊢
  refine Nrm.of hS hM ?_
  refine Nrm.next ?_
  refine Tri.seq (Tri.region ?_)
  refine TOps.move rfl rfl ?_
  first | refine TOps.fieldB 2 rfl Try.underlying24 rfl rfl ti3 rfl rfl rfl ?_ | refine TOps.fieldN 2 rfl Try.underlying24 rfl rfl ti3 rfl rfl rfl ?_
  refine TOps.load1 rfl ti3 (Rd.fld (r3.le (Le.trans bld_le (Le.drop (Le.drop (Le.refl _))))) 2 rfl) rfl ?_
  refine TOps.indexAddr (off' := tp) rfl rfl Try.underlying52 ti3 (by omega) (by omega) (by simp) rfl ?_
  refine TOps.load1 (v := .int .i64 (TF.getD tp 0)) rfl ti3 (Rd.le (Rd.lit (List.Mem.head _) (ints_get (by omega))) bld_le) rfl ?_
  first | refine TOps.fieldB 2 rfl Try.underlying24 rfl rfl ti3 rfl rfl rfl ?_ | refine TOps.fieldN 2 rfl Try.underlying24 rfl rfl ti3 rfl rfl rfl ?_
  refine TOps.store1 rfl rfl ti3 rfl rfl Upd.here (by simp) ?_
  refine TOps.le (H' := bld 24 54 b8 v JN (TF.getD tp 0) u (row (some yb) 3 1 y2 (ints TF) :: row (some b6) 24 3 1 [.int .i64 0, slV none 0 0 0, .int .i64 0] :: H1)) (Le.refl _) ?_
  refine TOps.next ?_
  refine Tri.seq (Tri.region ?_)
  refine TOps.loadN rfl ti24 bld_rd rfl rfl ?_
  refine TOps.call (vs := [_]) Try.call39 ⟨rfl, trivial⟩ (rsized_g (N := row u.oa 54 3 u.cap (nsCells JN u.qs) :: u.N) (F := ⟨(v : Int), JN, TF.getD tp 0⟩) (RNodes.ofA (E := 54) (sz := 3) (cap := u.cap) (List.Mem.head _) (hp.a.le (Le.drop (Le.refl _))) hp.o) (by dsimp only; omega)) rfl ?_
  rintro _ _ ⟨a2, c2, rfl, hN2, rfl⟩
  refine TOps.extract rfl rfl rfl ?_
  refine TOps.extract rfl rfl rfl ?_
  refine TOps.storeN rfl rfl ti24 rfl rfl (Upd.bld (Upd.there Upd.here)) (by simp) ?_
  refine TOps.assign rfl rfl ?_
  refine TOps.next ?_
  refine Tri.ret2 (H' := (row u.oa 54 3 u.cap (nsCells JN u.qs) :: u.N) ++ H) Try.results43 (fun _ _ h => h) (.cellN rfl rfl ti24 (Rd.all (bld_sub.subset (List.Mem.tail _ (List.Mem.head _)))) rfl) (.tmp rfl) ?_ ⟨a2, c2, row u.oa 54 3 u.cap (nsCells JN u.qs) :: u.N, rfl, hN2, rfl⟩
  exact Le.drop (Le.sub (List.Sublist.cons_cons _ ((List.Sublist.refl _).append (List.Sublist.cons _ (List.Sublist.cons _ s1)))))
theorem replT_take {v e : Nat} {t : Int} {k : Nat} (hk : k < v) : (replT v e t).take (k + 1) = (replT v e t).take k ++ [if k = e then t else (k : Int)] := by
  have hl : k < (replT v e t).length := by rw [replT_length]; exact hk
  rw [List.take_succ_eq_append_getElem hl]
  refine congrArg (fun z => _ ++ [z]) ?_
  simp only [replT, List.getElem_set, evI, List.getElem_map, List.getElem_range]
  by_cases h : e = k
  · rw [if_pos h, if_pos h.symm]
  · rw [if_neg h, if_neg (fun x => h x.symm)]
theorem rreplace_g {H : List Ent} {fv gv : Value} {F G : Fm} (hF : RF H fv F) (hg : F.Good) (hG : RF H gv G) (hgG : G.Good) (e : Int) (hei : I64 e) :
    Gives Try.prog 18 [fv, .int .i64 e, gv] H (NewV (F.replF e G) (.int .i64 ((F.replE e G).getD 0)) H) := by
  have hF0 := hF
  obtain ⟨na, off, cap, nsp, rfl, hN⟩ := hF
  obtain ⟨ma, mo, mc, ms, rfl, hM2⟩ := hG
  have he := (Fm.good_iff F).2 hg
  have heG := (Fm.good_iff G).2 hgG
  have g0 := hg.v0; have g1 := hg.v1; have g2 := hg.n1; have gt := hg.topLt
  have k2 := hgG.n1; have kt := hgG.topLt
  have hE0 : F.replE e G = if F.vars ≠ G.vars then some 11 else if e < 0 ∨ F.vars ≤ e then some 10 else sizedE (F.replB e.toNat G) := by unfold Fm.replE; rw [he, heG]
  have hF1 : F.replF e G = if F.vars ≠ G.vars then Fm.zero else if e < 0 ∨ F.vars ≤ e then Fm.zero else sizedF (F.replB e.toNat G) := by unfold Fm.replF; rw [he, heG]
  refine Gives.enter Try.func18 rfl (by exact Try.ntmps18) rfl ?_
  refine Tri.seq (Tri.region ?_)
  refine TOps.boxN rfl ti24 rfl rfl (fun b3 => ?_)
  refine TOps.hide (fun H1 l1 s1 r3 => ?_)
  replace hF0 := hF0.le l1; replace hM2 := hM2.le l1
  refine TOps.boxN rfl ti24 rfl rfl (fun b5 => ?_)
  refine TOps.hide (fun H2 l2 s2 r5 => ?_)
  replace hF0 := hF0.le l2; replace hM2 := hM2.le l2; replace r3 := r3.le l2
  refine TOps.alloc ti24 rfl (fun b6 => ?_)
  refine TOps.assign rfl rfl ?_
  refine TOps.next ?_
  refine Tri.seq ?_
  refine Tri.seq (Tri.region ?_)
  refine TOps.field0 rfl Try.underlying24 rfl rfl ti3 rfl rfl rfl ?_
  refine TOps.load1 rfl ti3 (by first | exact Rd.lit (by repeat (first | exact List.Mem.head _ | apply List.Mem.tail)) rfl | (repeat (first | assumption | exact Rd.fld (by assumption) 0 rfl | apply Rd.up))) rfl ?_
  refine TOps.field0 rfl Try.underlying24 rfl rfl ti3 rfl rfl rfl ?_
  refine TOps.load1 rfl ti3 (by first | exact Rd.lit (by repeat (first | exact List.Mem.head _ | apply List.Mem.tail)) rfl | (repeat (first | assumption | exact Rd.fld (by assumption) 0 rfl | apply Rd.up))) rfl ?_
  refine TOps.neqI rfl rfl rfl ?_
  refine TOps.next ?_
  refine Tri.cond rfl (fun hc1 => ?_) (fun hc1 => ?_)
  · try simp only [decide_eq_true_eq, decide_eq_false_iff_not, Bool.and_eq_true, Bool.or_eq_true, Bool.not_eq_true', Bool.and_eq_false_iff, Bool.or_eq_false_iff, Bool.not_eq_false', Int.not_lt, Int.not_le, ne_eq, Decidable.not_not, Option.isSome_iff_ne_none, Option.isNone_iff_eq_none] at hc1
    rw [if_pos hc1] at hE0 hF1
    refine Tri.seq (Tri.region ?_)
    refine TOps.buildStruct (vs := []) (xs := [_, _, _]) [(0, 1), (1, 1), (2, 1)] Try.underlying24 ti24 (fun w => by simp) trivial rfl rfl ?_
    refine TOps.storeN rfl rfl ti24 rfl rfl (by repeat (first | exact Upd.here | apply Upd.there)) (by first | decide | (simp; done) | (simp; omega)) ?_
    refine TOps.assign rfl rfl ?_
    refine TOps.next ?_
    refine Tri.ret2 (H' := H) Try.results18 (fun _ _ h => h) (.cellN rfl rfl ti24 (Rd.all (by repeat (first | exact List.Mem.head _ | apply List.Mem.tail))) rfl) (.tmp rfl) (Le.drop (l2.trans l1)) ⟨none, 0, [], ?_, ?_, rfl⟩
    · rw [hE0, hF1]; rfl
    · rw [hF1]; exact .inl rfl
  try simp only [decide_eq_true_eq, decide_eq_false_iff_not, Bool.and_eq_true, Bool.or_eq_true, Bool.not_eq_true', Bool.and_eq_false_iff, Bool.or_eq_false_iff, Bool.not_eq_false', Int.not_lt, Int.not_le, ne_eq, Decidable.not_not, Option.isSome_iff_ne_none, Option.isNone_iff_eq_none] at hc1
  rw [if_neg (by omega)] at hE0 hF1
  refine Tri.fin ?_
  refine Nrm.next ?_
  refine Tri.seq ?_
  refine Tri.seq (Tri.region ?_)
  refine TOps.move rfl rfl ?_
  refine TOps.lss rfl rfl rfl ?_
  refine TOps.move rfl rfl ?_
  refine' TOps.orB 4 rfl rfl rfl rfl (fun hg3_2 => ?_) ?_; rotate_left
  · have hg3_2' := hg3_2
    try simp only [decide_eq_true_eq, decide_eq_false_iff_not, Bool.and_eq_true, Bool.or_eq_true, Bool.not_eq_true', Bool.and_eq_false_iff, Bool.or_eq_false_iff, Bool.not_eq_false', Int.not_lt, Int.not_le, ne_eq, Decidable.not_not] at hg3_2'
    refine TOps.strip 2 false rfl rfl hg3_2 rfl ?_
    refine TOps.move rfl rfl ?_
    refine TOps.field0 rfl Try.underlying24 rfl rfl ti3 rfl rfl rfl ?_
    refine TOps.load1 rfl ti3 (by first | exact Rd.lit (by repeat (first | exact List.Mem.head _ | apply List.Mem.tail)) rfl | (repeat (first | assumption | exact Rd.fld (by assumption) 0 rfl | apply Rd.up))) rfl ?_
    refine TOps.geq rfl rfl rfl ?_
    refine TOps.blk rfl (by repeat (first | exact Ext.refl _ | refine Ext.cons rfl ?_)) (by repeat (first | exact Le.refl _ | apply Le.drop))
  refine TOps.next ?_
  refine Tri.cond rfl (fun hc2 => ?_) (fun hc2 => ?_)
  · try simp only [decide_eq_true_eq, decide_eq_false_iff_not, Bool.and_eq_true, Bool.or_eq_true, Bool.not_eq_true', Bool.and_eq_false_iff, Bool.or_eq_false_iff, Bool.not_eq_false', Int.not_lt, Int.not_le, ne_eq, Decidable.not_not, Option.isSome_iff_ne_none, Option.isNone_iff_eq_none] at hc2
    rw [if_pos (by omega)] at hE0 hF1
    refine Tri.seq (Tri.region ?_)
    refine TOps.buildStruct (vs := []) (xs := [_, _, _]) [(0, 1), (1, 1), (2, 1)] Try.underlying24 ti24 (fun w => by simp) trivial rfl rfl ?_
    refine TOps.storeN rfl rfl ti24 rfl rfl (by repeat (first | exact Upd.here | apply Upd.there)) (by first | decide | (simp; done) | (simp; omega)) ?_
    refine TOps.assign rfl rfl ?_
    refine TOps.next ?_
    refine Tri.ret2 (H' := H) Try.results18 (fun _ _ h => h) (.cellN rfl rfl ti24 (Rd.all (by repeat (first | exact List.Mem.head _ | apply List.Mem.tail))) rfl) (.tmp rfl) (Le.drop (l2.trans l1)) ⟨none, 0, [], ?_, ?_, rfl⟩
    · rw [hE0, hF1]; rfl
    · rw [hF1]; exact .inl rfl
  try simp only [decide_eq_true_eq, decide_eq_false_iff_not, Bool.and_eq_true, Bool.or_eq_true, Bool.not_eq_true', Bool.and_eq_false_iff, Bool.or_eq_false_iff, Bool.not_eq_false', Int.not_lt, Int.not_le, ne_eq, Decidable.not_not, Option.isSome_iff_ne_none, Option.isNone_iff_eq_none] at hc2
  rw [if_neg (by omega)] at hE0 hF1
  obtain ⟨v, hv⟩ := Int.eq_ofNat_of_zero_le g0
  have hvn : F.vars.toNat = v := by omega
  obtain ⟨e, rfl⟩ := Int.eq_ofNat_of_zero_le (show 0 ≤ e by omega)
  rw [Int.toNat_natCast] at hE0 hF1
  have hJ : F.replB e G = F.join G.nodes (replT v e G.top) := by unfold Fm.replB; rw [hvn]
  rw [hv] at r3
  refine Tri.fin ?_
  refine Nrm.next ?_
  refine Tri.seq (Tri.region ?_)
  refine TOps.assign rfl rfl ?_
  refine TOps.next ?_
  refine Tri.seq ?_
  refine Tri.seq (Tri.region ?_)
  refine TOps.field0 rfl Try.underlying24 rfl rfl ti3 rfl rfl rfl ?_
  refine TOps.load1 rfl ti3 (by first | exact Rd.lit (by repeat (first | exact List.Mem.head _ | apply List.Mem.tail)) rfl | (repeat (first | assumption | exact Rd.fld (by assumption) 0 rfl | apply Rd.up))) rfl ?_
  refine TOps.move rfl rfl ?_
  refine TOps.next ?_
  refine Tri.range (X := Option Nat × Nat) (fun z k => [(1, .int .i64 e), (3, .pointer (some ⟨b3, 0, none⟩)), (5, .pointer (some ⟨b5, 0, none⟩)), (6, .pointer (some ⟨b6, 0, none⟩)), (8, slV z.1 0 k z.2)]) (fun z k => row z.1 3 1 z.2 (ints ((replT v e G.top).take k)) :: row (some b6) 24 3 1 [.int .i64 0, slV none 0 0 0, .int .i64 0] :: H2) (fun z k => k ≠ 0 → ∃ b, z.1 = some b) (by omega) rfl rfl rfl (fun _ _ => ⟨rfl, rfl, rfl, rfl⟩) (none, 0) (fun h => absurd rfl h) ⟨rfl, rfl, rfl, rfl, rfl, trivial⟩ Le.addNil (fun k z hlt hp => ?_) (fun z ac wc hp hS hM => ?_)
  · skip
    have htk := replT_take (e := e) (t := G.top) hlt
    have htl : ((replT v e G.top).take k).length = k := by rw [List.length_take, replT_length]; omega
    refine Tri.seq (Tri.region ?_)
    refine TOps.move rfl rfl ?_
    refine TOps.assign rfl rfl ?_
    refine TOps.next ?_
    refine Tri.seq (Tri.region ?_)
    refine TOps.move rfl rfl ?_
    refine TOps.move rfl rfl ?_
    refine TOps.eqlI rfl rfl rfl ?_
    refine TOps.next ?_
    refine Tri.cond rfl (fun hc3 => ?_) (fun hc3 => ?_)
    · try simp only [decide_eq_true_eq, decide_eq_false_iff_not, Bool.and_eq_true, Bool.or_eq_true, Bool.not_eq_true', Bool.and_eq_false_iff, Bool.or_eq_false_iff, Bool.not_eq_false', Int.not_lt, Int.not_le, ne_eq, Decidable.not_not, Option.isSome_iff_ne_none, Option.isNone_iff_eq_none] at hc3
      refine Tri.region ?_
      refine TOps.move rfl rfl ?_
      first | refine TOps.fieldB 2 rfl Try.underlying24 rfl rfl ti3 rfl rfl rfl ?_ | refine TOps.fieldN 2 rfl Try.underlying24 rfl rfl ti3 rfl rfl rfl ?_
      refine TOps.load1 rfl ti3 (by first | exact Rd.lit (by repeat (first | exact List.Mem.head _ | apply List.Mem.tail)) rfl | (repeat (first | assumption | exact Rd.fld (by assumption) 2 rfl | apply Rd.up))) rfl ?_
      refine TOps.buildSlice (vs := [_]) (xs := [_]) Try.underlying52 ti3 ⟨rfl, rfl, trivial⟩ rfl rfl rfl rfl rfl rfl (by decide) rfl (fun b36 => ?_)
      refine TOps.appendLit rfl rfl Try.underlying52 ti3 rfl (fun _ _ => Upd.here) rfl (by rw [List.length_map, htl, Nat.mul_one]) rfl (by omega) (by omega) (by simp) rfl (fun b41 cap41 => ?_)
      refine TOps.assign rfl rfl ?_
      refine TOps.fin ?_
      refine Nrm.body (some b41, cap41) (fun _ => ⟨_, rfl⟩) ⟨rfl, rfl, rfl, rfl, rfl, rfl, rfl, trivial⟩ (Le.rowEq (by first | rw [htk, if_pos (by omega), ints_snoc] | rw [htk, if_neg (by omega), ints_snoc]))
    try simp only [decide_eq_true_eq, decide_eq_false_iff_not, Bool.and_eq_true, Bool.or_eq_true, Bool.not_eq_true', Bool.and_eq_false_iff, Bool.or_eq_false_iff, Bool.not_eq_false', Int.not_lt, Int.not_le, ne_eq, Decidable.not_not, Option.isSome_iff_ne_none, Option.isNone_iff_eq_none] at hc3
    refine Tri.region ?_
    refine TOps.move rfl rfl ?_
    refine TOps.move rfl rfl ?_
    refine TOps.buildSlice (vs := [_]) (xs := [_]) Try.underlying52 ti3 ⟨rfl, rfl, trivial⟩ rfl rfl rfl rfl rfl rfl (by decide) rfl (fun b40 => ?_)
    refine TOps.appendLit rfl rfl Try.underlying52 ti3 rfl (fun _ _ => Upd.here) rfl (by rw [List.length_map, htl, Nat.mul_one]) rfl (by omega) (by omega) (by simp) rfl (fun b41 cap41 => ?_)
    refine TOps.assign rfl rfl ?_
    refine TOps.fin ?_
    refine Nrm.body (some b41, cap41) (fun _ => ⟨_, rfl⟩) ⟨rfl, rfl, rfl, rfl, rfl, rfl, rfl, trivial⟩ (Le.rowEq (by first | rw [htk, if_pos (by omega), ints_snoc] | rw [htk, if_neg (by omega), ints_snoc]))
  rw [show (replT v e G.top).take v = replT v e G.top from List.take_of_length_le (by rw [replT_length]; omega)] at hM
  refine Nrm.of hS hM ?_
  refine Nrm.next ?_
  refine Tri.seq (Tri.region ?_)
  refine TOps.loadN rfl ti24 (by first | exact Rd.all (by repeat (first | exact List.Mem.head _ | apply List.Mem.tail)) | (repeat (first | assumption | apply Rd.up))) rfl rfl ?_
  first | refine TOps.fieldB 1 rfl Try.underlying24 rfl rfl ti22 rfl rfl rfl ?_ | refine TOps.fieldN 1 rfl Try.underlying24 rfl rfl ti22 rfl rfl rfl ?_
  refine TOps.load1 rfl ti22 (by first | exact Rd.lit (by repeat (first | exact List.Mem.head _ | apply List.Mem.tail)) rfl | (repeat (first | assumption | exact Rd.fld (by assumption) 1 rfl | apply Rd.up))) rfl ?_
  refine TOps.move rfl rfl ?_
  refine TOps.call (vs := [_, _, _]) Try.call43 ⟨rfl, rfl, rfl, trivial⟩ (joined_g (by rw [← hv]; exact hF0.le (Le.drop (Le.drop (Le.refl _)))) hg hv (hM2.le (Le.drop (Le.drop (Le.refl _)))) (by omega) (fun i hi => (hgG.fits i hi).len) (RdS.ofRowA (List.Mem.head _) (fun _ => hp (by omega))) (replT_length v e G.top)) rfl ?_
  rintro _ _ ⟨a2, c2, NN, rfl, hN2, rfl⟩
  refine TOps.extract rfl rfl rfl ?_
  refine TOps.extract rfl rfl rfl ?_
  refine TOps.storeN rfl rfl ti24 rfl rfl (Upd.app (Upd.there Upd.here) NN) (by simp) ?_
  refine TOps.assign rfl rfl ?_
  refine TOps.next ?_
  refine Tri.ret2 (H' := NN ++ H) Try.results18 (fun _ _ h => h) (.cellN rfl rfl ti24 (Rd.all (List.mem_append_right _ (List.Mem.tail _ (List.Mem.head _)))) rfl) (.tmp rfl) (sub_app (List.Sublist.cons _ (List.Sublist.cons _ (s1.trans s2)))) ⟨a2, c2, NN, ?_, ?_, rfl⟩
  · rw [hE0, hF1, hJ]; rfl
  · rw [hF1, hJ]; exact hN2
end Go.Proofs
