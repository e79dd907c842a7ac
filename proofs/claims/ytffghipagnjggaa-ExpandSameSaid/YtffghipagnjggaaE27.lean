import Derived.Test.YtffghipagnjggaaD27
namespace Go.Proofs
open Go.GL
set_option linter.unusedVariables false
set_option linter.unusedSimpArgs false
set_option maxHeartbeats 1000000 in
theorem binary1_g : SpecGives Try.prog 66 43 40 2 := by
  intro HB bb v ms s d aa ac m hm hs ho hv hd ha hac hac2
  have hkk := hd.kk; unfold I64 at hkk
  have hlen := hd.len
  subst hm
  refine Gives.enter Try.func40 rfl (by exact Try.ntmps40) rfl ?_
  refine Tri.seq (Tri.region ?_)
  refine TOps.boxN rfl ti43 rfl rfl (fun b3 => ?_)
  have r3 : Rd (row (some b3) 43 3 1 [.int .i64 d.kind, .int .i64 d.k, slV aa 0 d.args.length ac] :: HB) b3 0 [.int .i64 d.kind, .int .i64 d.k, slV aa 0 d.args.length ac] := Rd.all (by repeat (first | exact List.Mem.head _ | apply List.Mem.tail))
  refine TOps.le mkE_in ?_
  refine TOps.assign rfl rfl ?_
  refine TOps.assign rfl rfl ?_
  refine TOps.next ?_
  refine Tri.seq ?_
  refine Tri.seq (Tri.region ?_)
  refine TOps.field0 rfl Try.underlying43 rfl rfl ti3 rfl rfl rfl ?_
  refine TOps.load1 rfl ti3 (Rd.fld (r3.le mkE_le) 0 rfl) rfl ?_
  refine TOps.neqI rfl rfl rfl ?_
  refine TOps.move rfl rfl ?_
  refine' TOps.andB 3 rfl rfl rfl rfl (fun hg1_3 => ?_) ?_; rotate_left
  · have hg1_3' := hg1_3
    try simp only [decide_eq_true_eq, decide_eq_false_iff_not, Bool.and_eq_true, Bool.or_eq_true, Bool.not_eq_true', Bool.and_eq_false_iff, Bool.or_eq_false_iff, Bool.not_eq_false', Int.not_lt, Int.not_le, ne_eq, Decidable.not_not] at hg1_3'
    refine TOps.strip 3 true rfl rfl hg1_3 rfl ?_
    refine TOps.field0 rfl Try.underlying43 rfl rfl ti3 rfl rfl rfl ?_
    refine TOps.load1 rfl ti3 (Rd.fld (r3.le mkE_le) 0 rfl) rfl ?_
    refine TOps.neqI rfl rfl rfl ?_
    refine TOps.blk rfl (by repeat (first | exact Ext.refl _ | refine Ext.cons rfl ?_)) (by repeat (first | exact Le.refl _ | apply Le.drop))
  refine TOps.next ?_
  refine Tri.cond rfl (fun hc1 => ?_) (fun hc1 => ?_)
  · try simp only [decide_eq_true_eq, decide_eq_false_iff_not, Bool.and_eq_true, Bool.or_eq_true, Bool.not_eq_true', Bool.and_eq_false_iff, Bool.or_eq_false_iff, Bool.not_eq_false', Int.not_lt, Int.not_le, ne_eq, Decidable.not_not, Option.isSome_iff_ne_none, Option.isNone_iff_eq_none] at hc1
    have hB : specB 2 d.kind = false := by simp [specB]; omega
    have hR : specV 2 v d ms = (0, ms) := if_neg (by rw [hB]; decide)
    refine Tri.seq (Tri.region ?_)
    refine TOps.assign rfl rfl ?_
    refine TOps.assign rfl rfl ?_
    refine TOps.next ?_
    refine Tri.ret2 (H' := mkE 66 43 bb v ms s HB) Try.results40 (fun _ _ h => h) (.tmp rfl) (.tmp rfl) (mkE_mono (List.sublist_cons_self _ _)) ⟨s, by rw [hR, hB], by rw [hR]; exact hs, by rw [hR]⟩
  try simp only [decide_eq_true_eq, decide_eq_false_iff_not, Bool.and_eq_true, Bool.or_eq_true, Bool.not_eq_true', Bool.and_eq_false_iff, Bool.or_eq_false_iff, Bool.not_eq_false', Int.not_lt, Int.not_le, ne_eq, Decidable.not_not, Option.isSome_iff_ne_none, Option.isNone_iff_eq_none] at hc1
  have hk23 : d.kind = 2 ∨ d.kind = 3 := by omega
  have hB : specB 2 d.kind = true := by simp [specB]; omega
  obtain ⟨x0, xr, hxr⟩ := List.exists_cons_of_ne_nil (hd.ne (by omega))
  have hR : specV 2 v d ms = chainX (fun y r => addM v ⟨d.kind, 0, [r.1, y]⟩ r.2) xr (x0, ms) := by unfold specV; rw [if_pos hB]; show binM v d.kind d.args ms = _; unfold binM; rw [hxr]; rfl
  have hl : d.args.length = xr.length + 1 := by rw [hxr]; rfl
  have hsm := hd.sm
  rw [hxr] at ha hsm
  rw [hl] at hac hlen r3 ⊢
  obtain ⟨ab, rfl, _, h0⟩ := ha.at (i := 0) (by simp)
  simp only [List.getElem_cons_zero, Nat.add_zero] at h0
  have hx0 := hsm x0 List.mem_cons_self
  refine Tri.fin ?_
  refine Nrm.next ?_
  refine Tri.seq (Tri.region ?_)
  first | refine TOps.fieldB 2 rfl Try.underlying43 rfl rfl ti41 rfl rfl rfl ?_ | refine TOps.fieldN 2 rfl Try.underlying43 rfl rfl ti41 rfl rfl rfl ?_
  refine TOps.load1 rfl ti41 (Rd.fld (r3.le mkE_le) 2 rfl) rfl ?_
  refine TOps.indexAddr (off' := 0) rfl rfl Try.underlying41 ti3 (by omega) (by omega) (by simp) rfl ?_
  refine TOps.load1 rfl ti3 (Rd.le h0 (mkE_le.trans (Le.drop (Le.refl _)))) rfl ?_
  refine TOps.assign rfl rfl ?_
  refine TOps.next ?_
  refine Tri.seq ?_
  refine Tri.seq (Tri.region ?_)
  first | refine TOps.fieldB 2 rfl Try.underlying43 rfl rfl ti41 rfl rfl rfl ?_ | refine TOps.fieldN 2 rfl Try.underlying43 rfl rfl ti41 rfl rfl rfl ?_
  refine TOps.load1 rfl ti41 (Rd.fld (r3.le mkE_le) 2 rfl) rfl ?_
  refine TOps.sliceLo (l := 1) rfl rfl Try.underlying41 ti3 (by omega) rfl ?_
  obtain ⟨xo', hxo'⟩ : ∃ xo', (bif ac == 1 then 0 else 0 + 1 * 1) = xo' := ⟨_, rfl⟩
  rw [hxo']
  have hxr1 : ∀ j, j < xr.length → xo' = 1 := fun j hj => by rw [← hxo', show (ac == 1) = false from beq_eq_false_iff_ne.2 (by omega)]; rfl
  rw [show xr.length + 1 - 1 = xr.length from rfl]
  refine TOps.len rfl Try.underlying41 rfl ?_
  refine TOps.move rfl rfl ?_
  refine TOps.next ?_
  refine Tri.range (X := BS) (fun z k => [(0, .pointer (some ⟨bb, 0, none⟩)), (3, .pointer (some ⟨b3, 0, none⟩)), (6, .int .i64 (chainX (fun y r => addM v ⟨d.kind, 0, [r.1, y]⟩ r.2) (xr.take k) (x0, ms)).1), (23, slV (some ab) xo' xr.length (ac - 1))]) (fun z k => mkE 66 43 bb v (chainX (fun y r => addM v ⟨d.kind, 0, [r.1, y]⟩ r.2) (xr.take k) (x0, ms)).2 z (row (some b3) 43 3 1 [.int .i64 d.kind, .int .i64 d.k, slV (some ab) 0 (xr.length + 1) ac] :: HB)) (fun z k => z.ok (chainX (fun y r => addM v ⟨d.kind, 0, [r.1, y]⟩ r.2) (xr.take k) (x0, ms)).2.ns) (by omega) rfl rfl rfl (fun _ _ => ⟨rfl, rfl, rfl, rfl⟩) s hs ⟨rfl, rfl, rfl, rfl, trivial⟩ (Le.refl _) (fun k z hlt hp => ?_) (fun z ac wc hp hS hM => ?_)
  · skip
    obtain ⟨g0, sm0⟩ := chainX_ok (f := fun y r => addM v ⟨d.kind, 0, [r.1, y]⟩ r.2) (fun y r hr => ⟨addM_gr _ _ _, addM_small hv _ hr⟩) (xr.take k) (x0, ms) ho hx0
    have oW := g0.ok ho
    obtain ⟨W, hW⟩ : ∃ W, chainX (fun y r => addM v ⟨d.kind, 0, [r.1, y]⟩ r.2) (xr.take k) (x0, ms) = W := ⟨_, rfl⟩
    have hWn : chainX (fun y r => addM v ⟨d.kind, 0, [r.1, y]⟩ r.2) (xr.take (k + 1)) (x0, ms) = addM v ⟨d.kind, 0, [W.1, xr[k]]⟩ W.2 := by rw [List.take_succ_eq_append_getElem hlt, chainX_snoc, hW]
    rw [hW] at hp g0 sm0 oW ⊢
    obtain ⟨xb, e', _, hxi⟩ := ha.at (i := k + 1) (by simp; omega)
    obtain rfl := Option.some.inj e'
    rw [List.getElem_cons_succ] at hxi
    have hx1 := hxr1 k hlt
    refine Tri.seq (Tri.region ?_)
    refine TOps.indexAddr (off' := 1 + k) rfl rfl Try.underlying41 ti3 (by omega) (by omega) (by omega) rfl ?_
    refine TOps.load1 rfl ti3 (Rd.le (show Rd HB ab (1 + k) [.int .i64 xr[k]] by rw [show 1 + k = 0 + (k + 1) by omega]; exact hxi) (mkE_le.trans (Le.drop (Le.refl _)))) rfl ?_
    refine TOps.assign rfl rfl ?_
    refine TOps.next ?_
    refine Tri.region ?_
    refine TOps.move rfl rfl ?_
    refine TOps.field0 rfl Try.underlying43 rfl rfl ti3 rfl rfl rfl ?_
    refine TOps.load1 rfl ti3 (Rd.fld (r3.le mkE_le) 0 rfl) rfl ?_
    refine TOps.move rfl rfl ?_
    refine TOps.move rfl rfl ?_
    refine TOps.buildSlice (vs := [_, _]) (xs := [_, _]) Try.underlying41 ti3 ⟨rfl, rfl, rfl, rfl, trivial⟩ rfl rfl rfl rfl rfl rfl (by decide) rfl (fun b34 => ?_)
    refine TOps.call (vs := [_, _, _, _]) Try.call37 ⟨rfl, rfl, rfl, rfl, trivial⟩ (padd_g (A := [row (some b34) 3 1 2 [.int .i64 W.1, .int .i64 xr[k]]]) (args := [W.1, xr[k]]) (m := 2) hp hv oW rfl (by omega) (RdS.ofRowS (List.Mem.head _)) d.kind 0) rfl ?_
    rintro _ _ ⟨s1, rfl, hs1, rfl⟩
    refine TOps.assign rfl rfl ?_
    refine TOps.fin ?_
    refine Nrm.body s1 (by rw [hWn]; exact hs1) ⟨rfl, rfl, rfl, rfl, (by rw [hWn]; rfl), rfl, trivial⟩ (by rw [hWn]; exact Le.refl _)
  rw [List.take_length] at hM hS hp
  refine Nrm.of hS hM ?_
  refine Nrm.next ?_
  refine Tri.seq (Tri.region ?_)
  refine TOps.move rfl rfl ?_
  refine TOps.assign rfl rfl ?_
  refine TOps.assign rfl rfl ?_
  refine TOps.next ?_
  refine Tri.ret2 (H' := mkE 66 43 bb v (chainX (fun y r => addM v ⟨d.kind, 0, [r.1, y]⟩ r.2) xr (x0, ms)).2 z HB) Try.results40 (fun _ _ h => h) (.tmp rfl) (.tmp rfl) (mkE_mono (List.sublist_cons_self _ _)) ⟨z, by rw [hR, hB], by rw [hR]; exact hp, by rw [hR]⟩
set_option maxHeartbeats 4000000 in
theorem emapped_g {H : List Ent} {fv : Value} {F : Fm} (hF : RF H fv F) (hk : F.ok) {f : FuncId} {what : Nat} (hcall : ∀ l w, (callFunc f l).run Try.prog w = .ok (.enter f l) w) (hspec : SpecGives Try.prog 66 43 f what) :
    Gives Try.prog 30 [fv, .func (.func f) #[] #[]] H (NewN 40 (F.expF what) (F.expE what) H) := by
  have hF0 := hF
  obtain ⟨na, off, cap, nsp, rfl, hN⟩ := hF
  refine Gives.enter Try.func30 rfl (by exact Try.ntmps30) rfl ?_
  refine Tri.seq (Tri.region ?_)
  refine TOps.boxN rfl ti24 rfl rfl (fun b2 => ?_)
  refine TOps.hide (fun H1 l1 s1 r1 => ?_)
  replace hF0 := hF0.le l1; replace hN := hN.le l1
  refine TOps.alloc ti24 rfl (fun b4 => ?_)
  refine TOps.assign rfl rfl ?_
  refine TOps.next ?_
  refine Tri.seq ?_
  refine Tri.seq (Tri.region ?_)
  refine TOps.loadN rfl ti24 (by first | exact Rd.all (by repeat (first | exact List.Mem.head _ | apply List.Mem.tail)) | (repeat (first | assumption | apply Rd.up))) rfl rfl ?_
  refine TOps.call (vs := [_]) Try.call21 ⟨rfl, trivial⟩ (check_g (hF0.le (Le.drop (Le.refl _))) hk) rfl ?_
  rintro _ _ ⟨rfl, rfl⟩
  refine TOps.assign rfl rfl ?_
  refine TOps.next ?_
  refine Tri.seq (Tri.region ?_)
  refine TOps.move rfl rfl ?_
  refine TOps.neqNil rfl Try.underlying28 rfl ?_
  refine TOps.next ?_
  refine Tri.cond rfl (fun hc1 => ?_) (fun hc1 => ?_)
  · try simp only [decide_eq_true_eq, decide_eq_false_iff_not, Bool.and_eq_true, Bool.or_eq_true, Bool.not_eq_true', Bool.and_eq_false_iff, Bool.or_eq_false_iff, Bool.not_eq_false', Int.not_lt, Int.not_le, ne_eq, Decidable.not_not, Option.isSome_iff_ne_none, Option.isNone_iff_eq_none] at hc1
    obtain ⟨er, her⟩ := Option.ne_none_iff_exists'.1 hc1
    refine Tri.seq (Tri.region ?_)
    refine TOps.buildStruct (vs := []) (xs := [_, _, _]) [(0, 1), (1, 1), (2, 1)] Try.underlying24 ti24 (fun w => by simp) trivial rfl rfl ?_
    refine TOps.move rfl rfl ?_
    refine TOps.storeN rfl rfl ti24 rfl rfl (by repeat (first | exact Upd.here | apply Upd.there)) (by first | decide | (simp; done) | (simp; omega)) ?_
    refine TOps.assign rfl rfl ?_
    refine TOps.next ?_
    refine Tri.ret2 (H' := H) Try.results30 (fun _ _ h => h) (.cellN rfl rfl ti24 (Rd.all (by repeat (first | exact List.Mem.head _ | apply List.Mem.tail))) rfl) (.tmp rfl) (Le.drop l1) ⟨none, 0, [], ?_, ?_, rfl⟩
    · rw [show F.expE what = F.err from by unfold Fm.expE; rw [her], show F.expF what = Fm.zero from by unfold Fm.expF; rw [her]]; rfl
    · rw [show F.expF what = Fm.zero from by unfold Fm.expF; rw [her]]; exact .inl rfl
  try simp only [decide_eq_true_eq, decide_eq_false_iff_not, Bool.and_eq_true, Bool.or_eq_true, Bool.not_eq_true', Bool.and_eq_false_iff, Bool.or_eq_false_iff, Bool.not_eq_false', Int.not_lt, Int.not_le, ne_eq, Decidable.not_not, Option.isSome_iff_ne_none, Option.isNone_iff_eq_none] at hc1
  have he : F.err = none := by simpa using hc1
  have hg := (Fm.good_iff F).1 he
  have g0 := hg.v0; have g1 := hg.v1; have g2 := hg.n1; have gt := hg.topLt
  obtain ⟨v, hv⟩ := Int.eq_ofNat_of_zero_le g0
  have hvn : F.vars.toNat = v := by omega
  obtain ⟨tp, htp⟩ := Int.eq_ofNat_of_zero_le gt.1
  have hpE : F.expE what = resE (mapS what v F.nodes F.nodes.length).2 := by unfold Fm.expE Fm.expS; rw [he, hvn]
  have hpF : F.expF what = resF v (mapS what v F.nodes F.nodes.length).2 ((mapS what v F.nodes F.nodes.length).1.getD tp 0) := by unfold Fm.expF Fm.expS; rw [he, hvn, hv, htp, Int.toNat_natCast]
  have hfits : ∀ i (hi : i < F.nodes.length), F.nodes[i].Fits ((v : Int) + i) := fun i hi => by have := hg.fits i hi; rwa [hv] at this
  have hv24 : v ≤ 24 := by omega
  rw [hv, htp] at r1
  obtain ⟨L, hL⟩ : ∃ L, v + F.nodes.length = L := ⟨_, rfl⟩
  have hvv : (0 : Int) ≤ v ∧ (v : Int) ≤ 24 := by omega
  refine Tri.fin ?_
  refine Nrm.next ?_
  refine Tri.seq (Tri.region ?_)
  refine TOps.field0 rfl Try.underlying24 rfl rfl ti3 rfl rfl rfl ?_
  refine TOps.load1 rfl ti3 (by first | exact Rd.lit (by repeat (first | exact List.Mem.head _ | apply List.Mem.tail)) rfl | (repeat (first | assumption | exact Rd.fld (by assumption) 0 rfl | apply Rd.up))) rfl ?_
  refine TOps.buildStruct (vs := [(0, _)]) (xs := [_, _, _]) [(0, 1), (1, 1), (2, 1)] Try.underlying66 ti66 (fun w => by simp) ⟨rfl, rfl, trivial⟩ rfl rfl ?_
  refine TOps.boxN rfl ti66 rfl rfl (fun b26 => ?_)
  refine TOps.assign rfl rfl ?_
  refine TOps.next ?_
  refine Tri.seq (Tri.region ?_)
  refine TOps.field0 rfl Try.underlying24 rfl rfl ti3 rfl rfl rfl ?_
  refine TOps.load1 rfl ti3 (by first | exact Rd.lit (by repeat (first | exact List.Mem.head _ | apply List.Mem.tail)) rfl | (repeat (first | assumption | exact Rd.fld (by assumption) 0 rfl | apply Rd.up))) rfl ?_
  first | refine TOps.fieldB 1 rfl Try.underlying24 rfl rfl ti22 rfl rfl rfl ?_ | refine TOps.fieldN 1 rfl Try.underlying24 rfl rfl ti22 rfl rfl rfl ?_
  refine TOps.load1 rfl ti22 (by first | exact Rd.lit (by repeat (first | exact List.Mem.head _ | apply List.Mem.tail)) rfl | (repeat (first | assumption | exact Rd.fld (by assumption) 1 rfl | apply Rd.up))) rfl ?_
  refine TOps.len rfl Try.underlying22 rfl ?_
  refine TOps.add (r := (L : Int)) rfl rfl (by rw [wrapI (by omega) (by omega)]; omega) rfl ?_
  refine TOps.make1 rfl rfl Try.underlying41 ti3 (by omega) (by omega) (by omega) rfl (fun b33 => ?_)
  refine TOps.le (Le.rowEq (padI_nil L).symm) ?_
  refine TOps.assign rfl rfl ?_
  refine TOps.next ?_
  refine Tri.seq ?_
  refine Tri.seq (Tri.region ?_)
  refine TOps.field0 rfl Try.underlying24 rfl rfl ti3 rfl rfl rfl ?_
  refine TOps.load1 rfl ti3 (by first | exact Rd.lit (by repeat (first | exact List.Mem.head _ | apply List.Mem.tail)) rfl | (repeat (first | assumption | exact Rd.fld (by assumption) 0 rfl | apply Rd.up))) rfl ?_
  refine TOps.move rfl rfl ?_
  refine TOps.next ?_
  refine Tri.range (X := Unit) (fun x k => [(1, .func (.func f) #[] #[]), (2, .pointer (some ⟨b2, 0, none⟩)), (4, .pointer (some ⟨b4, 0, none⟩)), (7, .pointer (some ⟨b26, 0, none⟩)), (8, slV (some b33) 0 L L)]) (fun x k => row (some b33) 3 1 L (ints (padI (evI k) L)) :: row (some b26) 66 3 1 [.int .i64 v, slV none 0 0 0, .bool false] :: row (some b4) 24 3 1 [.int .i64 0, slV none 0 0 0, .int .i64 0] :: H1) (fun x k => True) (by omega) rfl rfl rfl (fun _ _ => ⟨rfl, rfl, rfl, rfl⟩) () trivial ⟨rfl, rfl, rfl, rfl, rfl, trivial⟩ (by repeat (first | exact Le.refl _ | assumption | apply Le.drop)) (fun k x hlt hp => ?_) (fun x ac wc hp hS hM => ?_)
  · skip
    refine Tri.seq (Tri.region ?_)
    refine TOps.move rfl rfl ?_
    refine TOps.assign rfl rfl ?_
    refine TOps.next ?_
    refine Tri.region ?_
    refine TOps.move rfl rfl ?_
    refine TOps.move rfl rfl ?_
    refine TOps.move rfl rfl ?_
    refine TOps.indexAddr (off' := k) rfl rfl Try.underlying41 ti3 (by omega) (by omega) (by simp) rfl ?_
    refine TOps.store1 rfl rfl ti3 rfl rfl Upd.here (by rw [List.length_map, padI_length (by rw [evI_length]; omega)]; omega) ?_
    refine TOps.fin ?_
    refine Nrm.body () trivial ⟨rfl, rfl, rfl, rfl, rfl, rfl, rfl, trivial⟩ (Le.rowEq (by have := padI_set (l := evI k) (L := L) (by rw [evI_length]; omega) (k : Int); rw [evI_length] at this; rw [this, evI_succ]))
  refine Nrm.of hS hM ?_
  refine Nrm.next ?_
  refine Tri.seq ?_
  refine Tri.seq (Tri.region ?_)
  first | refine TOps.fieldB 1 rfl Try.underlying24 rfl rfl ti22 rfl rfl rfl ?_ | refine TOps.fieldN 1 rfl Try.underlying24 rfl rfl ti22 rfl rfl rfl ?_
  refine TOps.load1 rfl ti22 (by first | exact Rd.lit (by repeat (first | exact List.Mem.head _ | apply List.Mem.tail)) rfl | (repeat (first | assumption | exact Rd.fld (by assumption) 1 rfl | apply Rd.up))) rfl ?_
  refine TOps.len rfl Try.underlying22 rfl ?_
  refine TOps.move rfl rfl ?_
  refine TOps.next ?_
  refine Tri.range (X := BS) (fun z k => [(1, .func (.func f) #[] #[]), (2, .pointer (some ⟨b2, 0, none⟩)), (4, .pointer (some ⟨b4, 0, none⟩)), (7, .pointer (some ⟨b26, 0, none⟩)), (8, slV (some b33) 0 L L), (45, slV na off F.nodes.length cap nsp)]) (fun z k => mkE 66 43 b26 v (mapS what v F.nodes k).2 z (row (some b33) 3 1 L (ints (padI (mapS what v F.nodes k).1 L)) :: row (some b4) 24 3 1 [.int .i64 0, slV none 0 0 0, .int .i64 0] :: H1)) (fun z k => z.ok (mapS what v F.nodes k).2.ns ∧ (mapS what v F.nodes k).2.full = false) (by omega) rfl rfl rfl (fun _ _ => ⟨rfl, rfl, rfl, rfl⟩) BS.new ⟨BS.new_ok, rfl⟩ ⟨rfl, rfl, rfl, rfl, rfl, rfl, trivial⟩ (Le.trans Le.swap mkE_new) (fun k z hlt hp => ?_) (fun z ac wc hp hS hM => ?_)
  · skip
    obtain ⟨hz1, hzf⟩ := hp
    obtain ⟨nb, aa, ao, acap, asp, rfl, rfl, hn⟩ := hN.at hlt
    have hfi := hfits k hlt
    have hal := hfi.len
    have hmo := mapS_ok (what := what) hv24 hfits k (by omega)
    have hPl := mapS_len (what := what) (v := v) (nodes := F.nodes) k
    have hst : mapS what v F.nodes (k + 1) = ((mapS what v F.nodes k).1 ++ [(nodeM what v (trD (mapS what v F.nodes k).1 F.nodes[k]) (mapS what v F.nodes k).2).1], (nodeM what v (trD (mapS what v F.nodes k).1 F.nodes[k]) (mapS what v F.nodes k).2).2) := by rw [mapS]; simp [hlt]
    have hfullE := mapS_full (what := what) hv24 hfits (k := k + 1) (by omega)
    obtain ⟨d, hd⟩ : ∃ d, F.nodes[k] = d := ⟨_, rfl⟩
    obtain ⟨P, hPe⟩ : ∃ P, (mapS what v F.nodes k).1 = P := ⟨_, rfl⟩
    obtain ⟨ms, hms⟩ : ∃ ms, (mapS what v F.nodes k).2 = ms := ⟨_, rfl⟩
    have hmO := hmo.ok; have hmS := hmo.sm
    rw [hms] at hmO
    rw [hPe] at hmS
    rw [hd, hPe, hms] at hst
    rw [hd] at hn hfi hal
    rw [hPe] at hPl
    rw [hms] at hz1 hzf
    rw [hPe, hms]
    have hsp := Fits.sp hfi P hmS
    have hnm := nodeM_ok' (v := (v : Int)) hvv what hsp hmO
    have hin : ∀ a ∈ d.args, 0 ≤ a ∧ a.toNat < v + k := fun a ha => by have := hfi.args a ha; omega
    have gP : ∀ i, i < v + k → ∃ h : i < P.length, P.getD i 0 = P[i] := fun i hi => ⟨by omega, by simp [hPl, hi]⟩
    have hpl := padI_length (l := P) (L := L) (by omega)
    obtain ⟨RR, hRR⟩ : ∃ RR, nodeM what v (trD P d) ms = RR := ⟨_, rfl⟩
    rw [hRR] at hst hnm
    obtain ⟨HC, hHC⟩ : ∃ HC, row (some b33) 3 1 L (ints (padI P L)) :: row (some b4) 24 3 1 [.int .i64 0, slV none 0 0 0, .int .i64 0] :: H1 = HC := ⟨_, rfl⟩
    have rI : Rd HC b33 0 (ints (padI P L)) := by rw [← hHC]; exact Rd.all (by repeat (first | exact List.Mem.head _ | apply List.Mem.tail))
    have rn : NdAt HC nb (off + k * 3) d aa ao acap asp := by rw [← hHC]; exact hn.le (Le.drop (Le.drop (Le.refl _)))
    have rar := rn.args
    rw [hHC]
    refine Tri.seq (Tri.region ?_)
    refine TOps.move rfl rfl ?_
    refine TOps.indexAddr (off' := off + k * 3) rfl rfl Try.underlying22 ti43 (by omega) (by omega) (by simp) rfl ?_
    refine TOps.loadN (vs := [.int .i64 d.kind, .int .i64 d.k, slV aa ao d.args.length acap asp]) rfl ti43 (rn.cells.le mkE_le) rfl rfl ?_
    refine TOps.alloc ti43 rfl (fun b11 => ?_)
    refine TOps.assign rfl rfl ?_
    refine TOps.storeN rfl rfl ti43 rfl rfl (by repeat (first | exact Upd.here | apply Upd.there)) (by first | decide | (simp; done) | (simp; omega)) ?_
    refine TOps.next ?_
    refine Tri.seq (Tri.region ?_)
    refine TOps.assign rfl rfl ?_
    refine TOps.next ?_
    refine Tri.seq ?_
    refine Tri.seq (Tri.region ?_)
    first | refine TOps.fieldB 2 rfl Try.underlying43 rfl rfl ti41 rfl rfl rfl ?_ | refine TOps.fieldN 2 rfl Try.underlying43 rfl rfl ti41 rfl rfl rfl ?_
    refine TOps.load1 rfl ti41 (by first | exact Rd.lit (by repeat (first | exact List.Mem.head _ | apply List.Mem.tail)) rfl | (repeat (first | assumption | exact Rd.fld (by assumption) 2 rfl | apply Rd.up))) rfl ?_
    refine TOps.len rfl Try.underlying41 rfl ?_
    refine TOps.move rfl rfl ?_
    refine TOps.next ?_
    refine Tri.range (X := Option Nat × Nat) (fun y j => [(1, .func (.func f) #[] #[]), (2, .pointer (some ⟨b2, 0, none⟩)), (4, .pointer (some ⟨b4, 0, none⟩)), (7, .pointer (some ⟨b26, 0, none⟩)), (8, slV (some b33) 0 L L), (45, slV (some nb) off F.nodes.length cap), (46, .int .i64 F.nodes.length), (47, .int .i64 k), (10, .int .i64 k), (11, .pointer (some ⟨b11, 0, none⟩)), (12, slV y.1 0 j y.2), (53, slV aa ao d.args.length acap asp)]) (fun y j => row y.1 3 1 y.2 (ints (trI P (d.args.take j))) :: row (some b11) 43 3 1 [.int .i64 d.kind, .int .i64 d.k, slV aa ao d.args.length acap asp] :: mkE 66 43 b26 v ms z HC) (fun y j => j ≠ 0 → ∃ b, y.1 = some b) (by omega) rfl rfl rfl (fun _ _ => ⟨rfl, rfl, rfl, rfl⟩) (none, 0) (fun h => absurd rfl h) ⟨rfl, rfl, rfl, rfl, rfl, rfl, rfl, rfl, rfl, rfl, rfl, rfl, trivial⟩ (Le.addNil (E := 3) (sz := 1)) (fun j y hltj hpj => ?_) (fun y ac wc hpj hS hM => ?_)
    · skip
      obtain ⟨ab, rfl, rfl, hxa⟩ := rar.at hltj
      obtain ⟨h00, h01⟩ := hin _ (List.getElem_mem hltj)
      obtain ⟨_, gp⟩ := gP _ h01
      refine Tri.seq (Tri.region ?_)
      refine TOps.indexAddr (off' := ao + j) rfl rfl Try.underlying41 ti3 (by omega) (by omega) (by simp) rfl ?_
      refine TOps.load1 rfl ti3 (hxa.le (Le.drop (Le.drop mkE_le))) rfl ?_
      refine TOps.assign rfl rfl ?_
      refine TOps.next ?_
      refine Tri.region ?_
      refine TOps.move rfl rfl ?_
      refine TOps.move rfl rfl ?_
      refine TOps.move rfl rfl ?_
      refine TOps.indexAddr (off' := d.args[j].toNat) rfl rfl Try.underlying41 ti3 (by omega) (by omega) (by simp) rfl ?_
      refine TOps.load1 rfl ti3 (Rd.fld (rI.le (Le.drop (Le.drop mkE_le))) d.args[j].toNat (by rw [ints_get (by omega), padI_get (by omega)])) rfl ?_
      refine TOps.buildSlice (vs := [_]) (xs := [_]) Try.underlying41 ti3 ⟨rfl, rfl, trivial⟩ rfl rfl rfl rfl rfl rfl (by decide) rfl (fun b64 => ?_)
      refine TOps.appendLit rfl rfl Try.underlying41 ti3 rfl (fun _ _ => Upd.here) rfl (by simp [trI_length]; omega) rfl (by omega) (by omega) (by simp) rfl (fun b65 cap65 => ?_)
      refine TOps.assign rfl rfl ?_
      refine TOps.fin ?_
      refine Nrm.body (some b65, cap65) (fun _ => ⟨_, rfl⟩) ⟨rfl, rfl, rfl, rfl, rfl, rfl, rfl, rfl, rfl, rfl, rfl, rfl, rfl, rfl, trivial⟩ (Le.rowEq (by rw [trI_take_succ hltj]; simp [ints]))
    rw [List.take_length] at hM
    obtain ⟨ya, yc⟩ := y
    dsimp only at hM hS hpj ⊢
    refine Nrm.of hS hM ?_
    refine Nrm.next ?_
    refine Tri.seq (Tri.region ?_)
    refine TOps.move rfl rfl ?_
    first | refine TOps.fieldB 2 rfl Try.underlying43 rfl rfl ti41 rfl rfl rfl ?_ | refine TOps.fieldN 2 rfl Try.underlying43 rfl rfl ti41 rfl rfl rfl ?_
    refine TOps.store1 rfl rfl ti41 rfl rfl (by repeat (first | exact Upd.here | apply Upd.there)) (by first | decide | (simp; done) | (simp; omega) | exact (show (2 : Nat) < 3 by decide)) ?_
    refine TOps.rowCapO (List.Mem.head _) (fun hyc hyc2 => ?_)
    have hyc' : (trD P d).args.length ≤ yc := by rw [List.length_map] at hyc; show (trI P d.args).length ≤ yc; omega
    have htl : (trD P d).args.length = d.args.length := trI_length P d.args
    refine TOps.le (mkE_inA [row ya 3 1 yc (ints (trI P d.args)), row (some b11) 43 3 1 [.int .i64 d.kind, .int .i64 d.k, slV ya 0 d.args.length yc]]) ?_
    obtain ⟨HD, hHD⟩ : ∃ HD, [row ya 3 1 yc (ints (trI P d.args)), row (some b11) 43 3 1 [.int .i64 d.kind, .int .i64 d.k, slV ya 0 d.args.length yc]] ++ HC = HD := ⟨_, rfl⟩
    have r11 : Rd HD b11 0 [.int .i64 d.kind, .int .i64 d.k, slV ya 0 d.args.length yc] := by rw [← hHD]; exact Rd.all (by repeat (first | exact List.Mem.head _ | apply List.Mem.tail))
    have ry : RInts HD ya 0 (trI P d.args) none := by rw [← hHD]; exact RdS.ofRowA (by repeat (first | exact List.Mem.head _ | apply List.Mem.tail)) (fun h => hpj (by intro h0; have : d.args = [] := List.eq_nil_of_length_eq_zero h0; rw [this] at h; exact h rfl))
    have hsub : List.Sublist HC HD := by rw [← hHD]; exact List.sublist_append_right _ _
    rw [hHD]
    refine TOps.next ?_
    refine Tri.seq (Tri.region ?_)
    refine TOps.move rfl rfl ?_
    refine TOps.move rfl rfl ?_
    refine TOps.loadN (vs := [.int .i64 d.kind, .int .i64 d.k, slV ya 0 d.args.length yc]) rfl ti43 (r11.le mkE_le) rfl rfl ?_
    refine TOps.callV (caps := []) (vs := [_, _]) rfl hcall ⟨rfl, rfl, trivial⟩ (hspec HD b26 v ms z (trD P d) ya yc d.args.length htl hz1 hmO hvv hsp ry (by omega) (by omega)) rfl ?_
    rintro _ _ ⟨s2, rfl, hs2, rfl⟩
    rw [show specB what (trD P d).kind = specB what d.kind from rfl]
    refine TOps.move rfl rfl ?_
    refine TOps.extract rfl rfl rfl ?_
    refine TOps.extract rfl rfl rfl ?_
    refine TOps.assign rfl rfl ?_
    refine TOps.assign rfl rfl ?_
    refine TOps.next ?_
    refine Tri.seqMid (X := BS) (fun y => [(1, .func (.func f) #[] #[]), (2, .pointer (some ⟨b2, 0, none⟩)), (4, .pointer (some ⟨b4, 0, none⟩)), (7, .pointer (some ⟨b26, 0, none⟩)), (8, slV (some b33) 0 L L), (45, slV (some nb) off F.nodes.length cap), (46, .int .i64 F.nodes.length), (47, .int .i64 k), (10, .int .i64 k), (15, .int .i64 RR.1)]) (fun y => mkE 66 43 b26 v RR.2 y HD) (fun y => y.ok RR.2.ns) ?_ (fun y hmid => ?_)
    · skip
      refine Tri.seq (Tri.region ?_)
      refine TOps.move rfl rfl ?_
      refine TOps.not rfl rfl ?_
      refine TOps.next ?_
      refine Tri.cond rfl (fun hc2 => ?_) (fun hc2 => ?_)
      · try simp only [decide_eq_true_eq, decide_eq_false_iff_not, Bool.and_eq_true, Bool.or_eq_true, Bool.not_eq_true', Bool.and_eq_false_iff, Bool.or_eq_false_iff, Bool.not_eq_false', Int.not_lt, Int.not_le, ne_eq, Decidable.not_not, Option.isSome_iff_ne_none, Option.isNone_iff_eq_none] at hc2
        have hB : specB what (trD P d).kind = false := (by simpa using hc2 : specB what d.kind = false)
        have hV : specV what v (trD P d) ms = (0, ms) := if_neg (by rw [hB]; decide)
        rw [nodeM_copy hB] at hRR
        rw [hV] at hs2 ⊢
        refine Tri.region ?_
        refine TOps.move rfl rfl ?_
        refine TOps.field0 rfl Try.underlying43 rfl rfl ti3 rfl rfl rfl ?_
        refine TOps.load1 rfl ti3 (Rd.fld (r11.le mkE_le) 0 rfl) rfl ?_
        first | refine TOps.fieldB 1 rfl Try.underlying43 rfl rfl ti3 rfl rfl rfl ?_ | refine TOps.fieldN 1 rfl Try.underlying43 rfl rfl ti3 rfl rfl rfl ?_
        refine TOps.load1 rfl ti3 (Rd.fld (r11.le mkE_le) 1 rfl) rfl ?_
        refine TOps.move rfl rfl ?_
        refine TOps.call (vs := [_, _, _, _]) Try.call37 ⟨rfl, rfl, rfl, rfl, trivial⟩ (padd_g (A := []) (args := trI P d.args) hs2 hvv hmO (trI_length P d.args) (by omega) ry d.kind d.k) rfl ?_
        rintro _ _ ⟨s3, rfl, hs3, rfl⟩
        rw [show addM (v : Int) ⟨d.kind, d.k, trI P d.args⟩ ms = RR from hRR] at hs3 ⊢
        refine TOps.assign rfl rfl ?_
        refine TOps.fin ?_
        refine Nrm.mid s3 hs3 (by exact ⟨rfl, rfl, rfl, rfl, rfl, rfl, rfl, rfl, rfl, rfl, trivial⟩) (by repeat (first | exact Le.refl _ | assumption | apply Le.drop))
      try simp only [decide_eq_true_eq, decide_eq_false_iff_not, Bool.and_eq_true, Bool.or_eq_true, Bool.not_eq_true', Bool.and_eq_false_iff, Bool.or_eq_false_iff, Bool.not_eq_false', Int.not_lt, Int.not_le, ne_eq, Decidable.not_not, Option.isSome_iff_ne_none, Option.isNone_iff_eq_none] at hc2
      have hB : specB what (trD P d).kind = true := (by simpa using hc2 : specB what d.kind = true)
      rw [nodeM_spec hB] at hRR
      rw [hRR] at hs2 ⊢
      obtain ⟨s3, hs3e⟩ : ∃ s3 : BS, s2 = s3 := ⟨_, rfl⟩
      rw [hs3e] at hs2 ⊢
      have hs3 := hs2
      refine Tri.fin ?_
      refine Nrm.mid s3 hs3 (by exact ⟨rfl, rfl, rfl, rfl, rfl, rfl, rfl, rfl, rfl, rfl, trivial⟩) (by repeat (first | exact Le.refl _ | assumption | apply Le.drop))
    refine Tri.seq ?_
    refine Tri.seq (Tri.region ?_)
    refine TOps.move rfl rfl ?_
    refine TOps.nilCheck rfl rfl ?_
    first | refine TOps.fieldB 2 rfl Try.underlying66 rfl rfl ti4 rfl rfl rfl ?_ | refine TOps.fieldN 2 rfl Try.underlying66 rfl rfl ti4 rfl rfl rfl ?_
    refine TOps.load1 rfl ti4 (Rd.fld mkE_rd 2 rfl) rfl ?_
    refine TOps.next ?_
    refine Tri.cond rfl (fun hc3 => ?_) (fun hc3 => ?_)
    · try simp only [decide_eq_true_eq, decide_eq_false_iff_not, Bool.and_eq_true, Bool.or_eq_true, Bool.not_eq_true', Bool.and_eq_false_iff, Bool.or_eq_false_iff, Bool.not_eq_false', Int.not_lt, Int.not_le, ne_eq, Decidable.not_not, Option.isSome_iff_ne_none, Option.isNone_iff_eq_none] at hc3
      rw [hst] at hfullE
      have hfl := hfullE hc3
      subst hHD hHC
      refine Tri.seq (Tri.region ?_)
      refine TOps.buildStruct (vs := []) (xs := [_, _, _]) [(0, 1), (1, 1), (2, 1)] Try.underlying24 ti24 (fun w => by simp) trivial rfl rfl ?_
      refine TOps.makeInterface rfl Try.underlying40 rfl rfl ?_
      refine TOps.storeN rfl rfl ti24 rfl rfl (Upd.mkE (by repeat (first | exact Upd.here | apply Upd.there))) (by first | decide | (simp; done) | (simp; omega)) ?_
      refine TOps.assign rfl rfl ?_
      refine TOps.next ?_
      refine Tri.ret2 (H' := H) Try.results30 (fun _ _ h => h) (.cellN rfl rfl ti24 (Rd.all (mem_mkE (by repeat (first | exact List.Mem.head _ | apply List.Mem.tail)))) rfl) (.tmp rfl) (mkE_le.trans (Le.drop (Le.drop (Le.drop (Le.drop l1))))) ⟨none, 0, [], ?_, ?_, rfl⟩
      · rw [hpE, hpF, show resE (mapS what v F.nodes F.nodes.length).2 = some 4 from if_pos hfl, show resF v (mapS what v F.nodes F.nodes.length).2 ((mapS what v F.nodes F.nodes.length).1.getD tp 0) = Fm.zero from if_pos hfl]; rfl
      · rw [hpF, show resF v (mapS what v F.nodes F.nodes.length).2 ((mapS what v F.nodes F.nodes.length).1.getD tp 0) = Fm.zero from if_pos hfl]; exact .inl rfl
    try simp only [decide_eq_true_eq, decide_eq_false_iff_not, Bool.and_eq_true, Bool.or_eq_true, Bool.not_eq_true', Bool.and_eq_false_iff, Bool.or_eq_false_iff, Bool.not_eq_false', Int.not_lt, Int.not_le, ne_eq, Decidable.not_not, Option.isSome_iff_ne_none, Option.isNone_iff_eq_none] at hc3
    refine Tri.fin ?_
    refine Nrm.next ?_
    refine Tri.region ?_
    subst hHD hHC
    refine TOps.move rfl rfl ?_
    refine TOps.field0 rfl Try.underlying24 rfl rfl ti3 rfl rfl rfl ?_
    refine TOps.load1 rfl ti3 (Rd.fld (r1.le (mkE_le.trans (Le.drop (Le.drop (Le.drop (Le.drop (Le.refl _))))))) 0 rfl) rfl ?_
    refine TOps.move rfl rfl ?_
    refine TOps.add (r := ((v + k : Nat) : Int)) rfl rfl (by rw [wrapI (by omega) (by omega)]; omega) rfl ?_
    refine TOps.move rfl rfl ?_
    refine TOps.indexAddr (off' := v + k) rfl rfl Try.underlying41 ti3 (by omega) (by omega) (by omega) rfl ?_
    refine TOps.store1 rfl rfl ti3 rfl rfl (Upd.mkE (Upd.there (Upd.there Upd.here))) (by rw [List.length_map, hpl]; omega) ?_
    refine TOps.fin ?_
    refine Nrm.body y (by rw [hst]; exact ⟨hmid, hc3⟩) ⟨rfl, rfl, rfl, rfl, rfl, rfl, rfl, rfl, trivial⟩ (by rw [hst]; refine (mkE_mono (List.Sublist.cons _ (List.Sublist.cons _ (List.Sublist.refl _)))).trans ?_; rw [← hPl, padI_set (by omega)]; exact Le.refl _)
  obtain ⟨hz1, hzf⟩ := hp
  have hPl := mapS_len (what := what) (v := v) (nodes := F.nodes) F.nodes.length
  have hmo := mapS_ok (what := what) hv24 hfits F.nodes.length (Nat.le_refl _)
  have hmO := hmo.ok
  unfold MS.Ok at hmO
  have hpl := padI_length (l := (mapS what v F.nodes F.nodes.length).1) (L := L) (by omega)
  have rE : resE (mapS what v F.nodes F.nodes.length).2 = none := if_neg (by rw [hzf]; decide)
  have rF : resF v (mapS what v F.nodes F.nodes.length).2 ((mapS what v F.nodes F.nodes.length).1.getD tp 0) = ⟨v, (mapS what v F.nodes F.nodes.length).2.ns, (mapS what v F.nodes F.nodes.length).1.getD tp 0⟩ := if_neg (by rw [hzf]; decide)
  rw [rE] at hpE
  rw [rF] at hpF
  obtain ⟨ST, hST⟩ : ∃ ST, mapS what v F.nodes F.nodes.length = ST := ⟨_, rfl⟩
  rw [hST] at hM hz1 hPl hmO hpl hpF
  refine Nrm.of hS hM ?_
  refine Nrm.next ?_
  refine Tri.seq ?_
  refine Tri.drawX (X := Unit) rfl [(1, .func (.func f) #[] #[]), (2, .pointer (some ⟨b2, 0, none⟩)), (4, .pointer (some ⟨b4, 0, none⟩)), (7, .pointer (some ⟨b26, 0, none⟩)), (8, slV (some b33) 0 L L)] [] (fun x => [_, _, _, _, _, _, _, _, _, _, _, .agg (List.toArray [.int .i64 v, slV z.oa 0 ST.2.ns.length z.cap, .int .i64 (ST.1.getD tp 0)]), undef, _]) (fun x c => match c with | 0 => mkE 66 43 b26 v ST.2 z (row (some b33) 3 1 L (ints (padI ST.1 L)) :: row (some b4) 24 3 1 [.int .i64 0, slV none 0 0 0, .int .i64 0] :: H1) | _ + 1 => mkE 66 43 b26 v ST.2 z (row (some b33) 3 1 L (ints (padI ST.1 L)) :: row (some b4) 24 3 1 [.int .i64 v, slV z.oa 0 ST.2.ns.length z.cap, .int .i64 (ST.1.getD tp 0)] :: H1)) [12] () [13] rfl rfl ⟨rfl, rfl, rfl, rfl, rfl, trivial⟩ trivial (by repeat (first | exact Le.refl _ | assumption | apply Le.drop)) (by
    refine ⟨?_, ?_, ?_, ?_, ?_, ?_, ?_, ?_, ?_, ?_, ?_, ?_, ?_, ?_, trivial⟩
    · refine ⟨fun x S c he hw hd hc hcu hm _ => ?_, trivial⟩
      refine TOps.field0 (he _ _ rfl) Try.underlying24 rfl rfl ti3 rfl rfl rfl ?_
      exact TOps.fin (Nrm.draw x (fun _ _ _ => rfl) rfl (by first | exact Le.refl _ | assumption | exact (by repeat (first | exact Le.refl _ | assumption | apply Le.drop))))
    · refine ⟨fun x S c he hw hd hc hcu hm _ => ?_, trivial⟩
      obtain ⟨h0, -⟩ := hd
      obtain rfl : c = 0 := by have : c ≤ 0 := hcu; omega
      refine TOps.load1 h0 ti3 (Rd.fld (r1.le (mkE_le.trans (Le.drop (Le.drop (Le.refl _))))) 0 rfl) rfl ?_
      exact TOps.fin (Nrm.draw x (fun _ _ _ => rfl) rfl (by first | exact Le.refl _ | assumption | exact (by repeat (first | exact Le.refl _ | assumption | apply Le.drop))))
    · refine ⟨fun x S c he hw hd hc hcu hm _ => ?_, trivial⟩
      refine TOps.move (he _ _ rfl) rfl ?_
      exact TOps.fin (Nrm.draw x (fun _ _ _ => rfl) rfl (by first | exact Le.refl _ | assumption | exact (by repeat (first | exact Le.refl _ | assumption | apply Le.drop))))
    · refine ⟨fun x S c he hw hd hc hcu hm _ => ?_, trivial⟩
      obtain ⟨h2, -⟩ := hd
      refine TOps.nilCheck h2 rfl ?_
      exact TOps.fin (Nrm.draw x (fun _ _ _ => rfl) rfl (by first | exact Le.refl _ | assumption | exact (by repeat (first | exact Le.refl _ | assumption | apply Le.drop))))
    · refine ⟨fun x S c he hw hd hc hcu hm _ => ?_, trivial⟩
      obtain ⟨h3, -⟩ := hd
      first | refine TOps.fieldB 1 h3 Try.underlying66 rfl rfl ti22 rfl rfl rfl ?_ | refine TOps.fieldN 1 h3 Try.underlying66 rfl rfl ti22 rfl rfl rfl ?_
      exact TOps.fin (Nrm.draw x (fun _ _ _ => rfl) rfl (by first | exact Le.refl _ | assumption | exact (by repeat (first | exact Le.refl _ | assumption | apply Le.drop))))
    · refine ⟨fun x S c he hw hd hc hcu hm _ => ?_, trivial⟩
      obtain ⟨h4, -⟩ := hd
      obtain rfl : c = 0 := by have : c ≤ 0 := hcu; omega
      refine TOps.load1 h4 ti22 (Rd.fld mkE_rd 1 rfl) rfl ?_
      exact TOps.fin (Nrm.draw x (fun _ _ _ => rfl) rfl (by first | exact Le.refl _ | assumption | exact (by repeat (first | exact Le.refl _ | assumption | apply Le.drop))))
    · refine ⟨fun x S c he hw hd hc hcu hm _ => ?_, trivial⟩
      refine TOps.move (he _ _ rfl) rfl ?_
      exact TOps.fin (Nrm.draw x (fun _ _ _ => rfl) rfl (by first | exact Le.refl _ | assumption | exact (by repeat (first | exact Le.refl _ | assumption | apply Le.drop))))
    · refine ⟨fun x S c he hw hd hc hcu hm _ => ?_, trivial⟩
      first | refine TOps.fieldB 2 (he _ _ rfl) Try.underlying24 rfl rfl ti3 rfl rfl rfl ?_ | refine TOps.fieldN 2 (he _ _ rfl) Try.underlying24 rfl rfl ti3 rfl rfl rfl ?_
      exact TOps.fin (Nrm.draw x (fun _ _ _ => rfl) rfl (by first | exact Le.refl _ | assumption | exact (by repeat (first | exact Le.refl _ | assumption | apply Le.drop))))
    · refine ⟨fun x S c he hw hd hc hcu hm _ => ?_, trivial⟩
      obtain ⟨h7, -⟩ := hd
      obtain rfl : c = 0 := by have : c ≤ 0 := hcu; omega
      refine TOps.load1 h7 ti3 (Rd.fld (r1.le (mkE_le.trans (Le.drop (Le.drop (Le.refl _))))) 2 rfl) rfl ?_
      exact TOps.fin (Nrm.draw x (fun _ _ _ => rfl) rfl (by first | exact Le.refl _ | assumption | exact (by repeat (first | exact Le.refl _ | assumption | apply Le.drop))))
    · refine ⟨fun x S c he hw hd hc hcu hm _ => ?_, trivial⟩
      obtain ⟨h6, h8, -⟩ := hd
      refine TOps.indexAddr (off' := tp) h6 h8 Try.underlying41 ti3 (by omega) (by omega) (by simp) rfl ?_
      exact TOps.fin (Nrm.draw x (fun _ _ _ => rfl) rfl (by first | exact Le.refl _ | assumption | exact (by repeat (first | exact Le.refl _ | assumption | apply Le.drop))))
    · refine ⟨fun x S c he hw hd hc hcu hm _ => ?_, trivial⟩
      obtain ⟨h9, -⟩ := hd
      obtain rfl : c = 0 := by have : c ≤ 0 := hcu; omega
      refine TOps.load1 h9 ti3 (Rd.fld ((Rd.all (List.Mem.head _)).le mkE_le) tp (by rw [ints_get (by omega), padI_get (by omega)])) rfl ?_
      exact TOps.fin (Nrm.draw x (fun _ _ _ => rfl) rfl (by first | exact Le.refl _ | assumption | exact (by repeat (first | exact Le.refl _ | assumption | apply Le.drop))))
    · refine ⟨fun x S c he hw hd hc hcu hm _ => ?_, trivial⟩
      obtain ⟨h1, h5, h10, -⟩ := hd
      refine TOps.buildStruct (vs := [(0, _), (1, _), (2, _)]) (xs := [_, _, _]) [(0, 1), (1, 1), (2, 1)] Try.underlying24 ti24 (fun w => by simp) ⟨rfl, h1, rfl, h5, rfl, h10, trivial⟩ rfl rfl ?_
      exact TOps.fin (Nrm.draw x (fun _ _ _ => rfl) rfl (by first | exact Le.refl _ | assumption | exact (by repeat (first | exact Le.refl _ | assumption | apply Le.drop))))
    · refine ⟨fun x S c he hw hd hc hcu hm _ => ?_, trivial⟩
      obtain ⟨h11, h0, h1, h2, h3, h4, h5, h6, h7, h8, h9, h10, _, -⟩ := hd
      obtain rfl : c = 0 := hm rfl
      refine TOps.storeN (he _ _ rfl) h11 ti24 rfl rfl (Upd.mkE (Upd.there Upd.here)) (by first | decide | (simp; done) | (simp; omega)) ?_
      exact TOps.fin (Nrm.draw x (fun _ _ _ => rfl) rfl (by first | exact Le.refl _ | assumption | exact (by repeat (first | exact Le.refl _ | assumption | apply Le.drop))))
    · refine ⟨fun x S c he hw hd hc hcu hm _ => ?_, trivial⟩
      obtain ⟨h12, h0, h1, h2, h3, h4, h5, h6, h7, h8, h9, h10, h11, _, -⟩ := hd
      refine TOps.assign rfl rfl ?_
      exact TOps.fin (Nrm.draw x (fun _ _ _ => rfl) rfl (by first | exact Le.refl _ | assumption | exact (by repeat (first | exact Le.refl _ | assumption | apply Le.drop))))
    ) (fun u0 => ?_)
  refine Nrm.next ?_
  refine Tri.ret2 (H' := (row z.oa 43 3 z.cap (nsCells ST.2.ns z.qs) :: z.N) ++ H) Try.results30 (fun _ _ h => h) (.cellN rfl rfl ti24 (Rd.all (mem_mkE (List.Mem.tail _ (List.Mem.head _)))) rfl) (.tmp rfl) (Le.drop (Le.sub (List.Sublist.cons_cons _ ((List.Sublist.refl _).append (List.Sublist.cons _ (List.Sublist.cons _ s1)))))) ⟨z.oa, z.cap, row z.oa 43 3 z.cap (nsCells ST.2.ns z.qs) :: z.N, ?_, ?_, rfl⟩
  · rw [hpE, hpF]; rfl
  · rw [hpF]; exact RNodes.ofA (E := 43) (sz := 3) (cap := z.cap) (List.Mem.head _) (hz1.a.le (Le.drop (Le.refl _))) hz1.o
end Go.Proofs
