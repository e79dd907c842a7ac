import Derived.Test.YthfbpnfaklaopaaK11
namespace Go.Proofs
open Go.GL
set_option linter.unusedVariables false
set_option linter.unusedSimpArgs false
set_option maxHeartbeats 2000000 in
theorem replace_g {H : List Ent} {fv gv : Value} {F G : Fm} (hF : RF H fv F) (hk : F.ok) (hG : RF H gv G) (hkG : G.ok) (e : Int) (hei : I64 e) :
    Gives Try.prog 17 [fv, .int .i64 e, gv] H (NewN 47 (F.replF e G) (F.replE e G) H) := by
  have hF0 := hF
  have hG0 := hG
  obtain ⟨na, off, cap, nsp, rfl, hN⟩ := hF
  obtain ⟨ma, mo, mc, ms, rfl, hM2⟩ := hG
  refine Gives.enter Try.func17 rfl (by exact Try.ntmps17) rfl ?_
  refine Tri.seq (Tri.region ?_)
  refine TOps.boxN rfl ti24 rfl rfl (fun b3 => ?_)
  refine TOps.hide (fun H1 l1 s1 r3 => ?_)
  replace hF0 := hF0.le l1; replace hG0 := hG0.le l1
  refine TOps.boxN rfl ti24 rfl rfl (fun b5 => ?_)
  refine TOps.hide (fun H2 l2 s2 r5 => ?_)
  replace hF0 := hF0.le l2; replace hG0 := hG0.le l2; replace r3 := r3.le l2
  refine TOps.alloc ti24 rfl (fun b6 => ?_)
  refine TOps.assign rfl rfl ?_
  refine TOps.next ?_
  refine Tri.seq ?_
  refine Tri.seq (Tri.region ?_)
  refine TOps.loadN rfl ti24 (by first | exact Rd.all (by repeat (first | exact List.Mem.head _ | apply List.Mem.tail)) | (repeat (first | assumption | apply Rd.up))) rfl rfl ?_
  refine TOps.call (vs := [_]) Try.call21 ⟨rfl, trivial⟩ (check_g (hF0.le (Le.drop (Le.refl _))) hk) rfl ?_
  rintro _ _ ⟨rfl, rfl⟩
  refine TOps.assign rfl rfl ?_
  refine TOps.next ?_
  refine Tri.seq (Tri.region ?_)
  refine TOps.move rfl rfl ?_
  refine TOps.neqNil rfl Try.underlying28 rfl ?_
  refine TOps.next ?_
  refine Tri.cond rfl (fun hc1 => ?_) (fun hc1 => ?_)
  · try simp only [decide_eq_true_eq, decide_eq_false_iff_not, Bool.and_eq_true, Bool.or_eq_true, Bool.not_eq_true', Bool.and_eq_false_iff, Bool.or_eq_false_iff, Bool.not_eq_false', Int.not_lt, Int.not_le, ne_eq, Decidable.not_not, Option.isSome_iff_ne_none, Option.isNone_iff_eq_none] at hc1
    obtain ⟨er, her⟩ := Option.ne_none_iff_exists'.1 hc1
    refine Tri.seq (Tri.region ?_)
    refine TOps.buildStruct (vs := []) (xs := [_, _, _]) [(0, 1), (1, 1), (2, 1)] Try.underlying24 ti24 (fun w => by simp) trivial rfl rfl ?_
    refine TOps.move rfl rfl ?_
    refine TOps.storeN rfl rfl ti24 rfl rfl (by repeat (first | exact Upd.here | apply Upd.there)) (by first | decide | (simp; done) | (simp; omega)) ?_
    refine TOps.assign rfl rfl ?_
    refine TOps.next ?_
    refine Tri.ret2 (H' := H) Try.results17 (fun _ _ h => h) (.cellN rfl rfl ti24 (Rd.all (by repeat (first | exact List.Mem.head _ | apply List.Mem.tail))) rfl) (.tmp rfl) (Le.drop (l2.trans l1)) ⟨none, 0, [], ?_, ?_, rfl⟩
    · rw [show F.replE e G = F.err from by unfold Fm.replE; rw [her], show F.replF e G = Fm.zero from by unfold Fm.replF; rw [her]]; rfl
    · rw [show F.replF e G = Fm.zero from by unfold Fm.replF; rw [her]]; exact .inl rfl
  try simp only [decide_eq_true_eq, decide_eq_false_iff_not, Bool.and_eq_true, Bool.or_eq_true, Bool.not_eq_true', Bool.and_eq_false_iff, Bool.or_eq_false_iff, Bool.not_eq_false', Int.not_lt, Int.not_le, ne_eq, Decidable.not_not, Option.isSome_iff_ne_none, Option.isNone_iff_eq_none] at hc1
  have he : F.err = none := by simpa using hc1
  have hg := (Fm.good_iff F).1 he
  refine Tri.fin ?_
  refine Nrm.next ?_
  refine Tri.seq ?_
  refine Tri.seq (Tri.region ?_)
  refine TOps.loadN rfl ti24 (by first | exact Rd.all (by repeat (first | exact List.Mem.head _ | apply List.Mem.tail)) | (repeat (first | assumption | apply Rd.up))) rfl rfl ?_
  refine TOps.call (vs := [_]) Try.call21 ⟨rfl, trivial⟩ (check_g (hG0.le (Le.drop (Le.refl _))) hkG) rfl ?_
  rintro _ _ ⟨rfl, rfl⟩
  refine TOps.assign rfl rfl ?_
  refine TOps.next ?_
  refine Tri.seq (Tri.region ?_)
  refine TOps.move rfl rfl ?_
  refine TOps.neqNil rfl Try.underlying28 rfl ?_
  refine TOps.next ?_
  refine Tri.cond rfl (fun hc2 => ?_) (fun hc2 => ?_)
  · try simp only [decide_eq_true_eq, decide_eq_false_iff_not, Bool.and_eq_true, Bool.or_eq_true, Bool.not_eq_true', Bool.and_eq_false_iff, Bool.or_eq_false_iff, Bool.not_eq_false', Int.not_lt, Int.not_le, ne_eq, Decidable.not_not, Option.isSome_iff_ne_none, Option.isNone_iff_eq_none] at hc2
    obtain ⟨er, her⟩ := Option.ne_none_iff_exists'.1 hc2
    refine Tri.seq (Tri.region ?_)
    refine TOps.buildStruct (vs := []) (xs := [_, _, _]) [(0, 1), (1, 1), (2, 1)] Try.underlying24 ti24 (fun w => by simp) trivial rfl rfl ?_
    refine TOps.move rfl rfl ?_
    refine TOps.storeN rfl rfl ti24 rfl rfl (by repeat (first | exact Upd.here | apply Upd.there)) (by first | decide | (simp; done) | (simp; omega)) ?_
    refine TOps.assign rfl rfl ?_
    refine TOps.next ?_
    refine Tri.ret2 (H' := H) Try.results17 (fun _ _ h => h) (.cellN rfl rfl ti24 (Rd.all (by repeat (first | exact List.Mem.head _ | apply List.Mem.tail))) rfl) (.tmp rfl) (Le.drop (l2.trans l1)) ⟨none, 0, [], ?_, ?_, rfl⟩
    · rw [show F.replE e G = G.err from by unfold Fm.replE; rw [he, her], show F.replF e G = Fm.zero from by unfold Fm.replF; rw [he, her]]; rfl
    · rw [show F.replF e G = Fm.zero from by unfold Fm.replF; rw [he, her]]; exact .inl rfl
  try simp only [decide_eq_true_eq, decide_eq_false_iff_not, Bool.and_eq_true, Bool.or_eq_true, Bool.not_eq_true', Bool.and_eq_false_iff, Bool.or_eq_false_iff, Bool.not_eq_false', Int.not_lt, Int.not_le, ne_eq, Decidable.not_not, Option.isSome_iff_ne_none, Option.isNone_iff_eq_none] at hc2
  have heG : G.err = none := by simpa using hc2
  have hgG := (Fm.good_iff G).1 heG
  have g0 := hg.v0; have g1 := hg.v1; have g2 := hg.n1; have gt := hg.topLt
  have k2 := hgG.n1; have kt := hgG.topLt
  have hE0 : F.replE e G = if F.vars ≠ G.vars then some 11 else if e < 0 ∨ F.vars ≤ e then some 10 else sizedE (F.replB e.toNat G) := by unfold Fm.replE; rw [he, heG]
  have hF1 : F.replF e G = if F.vars ≠ G.vars then Fm.zero else if e < 0 ∨ F.vars ≤ e then Fm.zero else sizedF (F.replB e.toNat G) := by unfold Fm.replF; rw [he, heG]
  refine Tri.fin ?_
  refine Nrm.next ?_
  refine Tri.seq ?_
  refine Tri.seq (Tri.region ?_)
  refine TOps.field0 rfl Try.underlying24 rfl rfl ti3 rfl rfl rfl ?_
  refine TOps.load1 rfl ti3 (by first | exact Rd.lit (by repeat (first | exact List.Mem.head _ | apply List.Mem.tail)) rfl | (repeat (first | assumption | exact Rd.fld (by assumption) 0 rfl | apply Rd.up))) rfl ?_
  refine TOps.field0 rfl Try.underlying24 rfl rfl ti3 rfl rfl rfl ?_
  refine TOps.load1 rfl ti3 (by first | exact Rd.lit (by repeat (first | exact List.Mem.head _ | apply List.Mem.tail)) rfl | (repeat (first | assumption | exact Rd.fld (by assumption) 0 rfl | apply Rd.up))) rfl ?_
  refine TOps.neqI rfl rfl rfl ?_
  refine TOps.next ?_
  refine Tri.cond rfl (fun hc3 => ?_) (fun hc3 => ?_)
  · try simp only [decide_eq_true_eq, decide_eq_false_iff_not, Bool.and_eq_true, Bool.or_eq_true, Bool.not_eq_true', Bool.and_eq_false_iff, Bool.or_eq_false_iff, Bool.not_eq_false', Int.not_lt, Int.not_le, ne_eq, Decidable.not_not, Option.isSome_iff_ne_none, Option.isNone_iff_eq_none] at hc3
    rw [if_pos hc3] at hE0 hF1
    refine Tri.seq (Tri.region ?_)
    refine TOps.buildStruct (vs := []) (xs := [_, _, _]) [(0, 1), (1, 1), (2, 1)] Try.underlying24 ti24 (fun w => by simp) trivial rfl rfl ?_
    refine TOps.makeInterface rfl Try.underlying47 rfl rfl ?_
    refine TOps.storeN rfl rfl ti24 rfl rfl (by repeat (first | exact Upd.here | apply Upd.there)) (by first | decide | (simp; done) | (simp; omega)) ?_
    refine TOps.assign rfl rfl ?_
    refine TOps.next ?_
    refine Tri.ret2 (H' := H) Try.results17 (fun _ _ h => h) (.cellN rfl rfl ti24 (Rd.all (by repeat (first | exact List.Mem.head _ | apply List.Mem.tail))) rfl) (.tmp rfl) (Le.drop (l2.trans l1)) ⟨none, 0, [], ?_, ?_, rfl⟩
    · rw [hE0, hF1]; rfl
    · rw [hF1]; exact .inl rfl
  try simp only [decide_eq_true_eq, decide_eq_false_iff_not, Bool.and_eq_true, Bool.or_eq_true, Bool.not_eq_true', Bool.and_eq_false_iff, Bool.or_eq_false_iff, Bool.not_eq_false', Int.not_lt, Int.not_le, ne_eq, Decidable.not_not, Option.isSome_iff_ne_none, Option.isNone_iff_eq_none] at hc3
  rw [if_neg (by omega)] at hE0 hF1
  refine Tri.fin ?_
  refine Nrm.next ?_
  refine Tri.seq ?_
  refine Tri.seq (Tri.region ?_)
  refine TOps.move rfl rfl ?_
  refine TOps.lss rfl rfl rfl ?_
  refine TOps.move rfl rfl ?_
  refine' TOps.orB 4 rfl rfl rfl rfl (fun hg9_2 => ?_) ?_; rotate_left
  · have hg9_2' := hg9_2
    try simp only [decide_eq_true_eq, decide_eq_false_iff_not, Bool.and_eq_true, Bool.or_eq_true, Bool.not_eq_true', Bool.and_eq_false_iff, Bool.or_eq_false_iff, Bool.not_eq_false', Int.not_lt, Int.not_le, ne_eq, Decidable.not_not] at hg9_2'
    refine TOps.strip 2 false rfl rfl hg9_2 rfl ?_
    refine TOps.move rfl rfl ?_
    refine TOps.field0 rfl Try.underlying24 rfl rfl ti3 rfl rfl rfl ?_
    refine TOps.load1 rfl ti3 (by first | exact Rd.lit (by repeat (first | exact List.Mem.head _ | apply List.Mem.tail)) rfl | (repeat (first | assumption | exact Rd.fld (by assumption) 0 rfl | apply Rd.up))) rfl ?_
    refine TOps.geq rfl rfl rfl ?_
    refine TOps.blk rfl (by repeat (first | exact Ext.refl _ | refine Ext.cons rfl ?_)) (by repeat (first | exact Le.refl _ | apply Le.drop))
  refine TOps.next ?_
  refine Tri.cond rfl (fun hc4 => ?_) (fun hc4 => ?_)
  · try simp only [decide_eq_true_eq, decide_eq_false_iff_not, Bool.and_eq_true, Bool.or_eq_true, Bool.not_eq_true', Bool.and_eq_false_iff, Bool.or_eq_false_iff, Bool.not_eq_false', Int.not_lt, Int.not_le, ne_eq, Decidable.not_not, Option.isSome_iff_ne_none, Option.isNone_iff_eq_none] at hc4
    rw [if_pos (by omega)] at hE0 hF1
    refine Tri.seq (Tri.region ?_)
    refine TOps.buildStruct (vs := []) (xs := [_, _, _]) [(0, 1), (1, 1), (2, 1)] Try.underlying24 ti24 (fun w => by simp) trivial rfl rfl ?_
    refine TOps.makeInterface rfl Try.underlying47 rfl rfl ?_
    refine TOps.storeN rfl rfl ti24 rfl rfl (by repeat (first | exact Upd.here | apply Upd.there)) (by first | decide | (simp; done) | (simp; omega)) ?_
    refine TOps.assign rfl rfl ?_
    refine TOps.next ?_
    refine Tri.ret2 (H' := H) Try.results17 (fun _ _ h => h) (.cellN rfl rfl ti24 (Rd.all (by repeat (first | exact List.Mem.head _ | apply List.Mem.tail))) rfl) (.tmp rfl) (Le.drop (l2.trans l1)) ⟨none, 0, [], ?_, ?_, rfl⟩
    · rw [hE0, hF1]; rfl
    · rw [hF1]; exact .inl rfl
  try simp only [decide_eq_true_eq, decide_eq_false_iff_not, Bool.and_eq_true, Bool.or_eq_true, Bool.not_eq_true', Bool.and_eq_false_iff, Bool.or_eq_false_iff, Bool.not_eq_false', Int.not_lt, Int.not_le, ne_eq, Decidable.not_not, Option.isSome_iff_ne_none, Option.isNone_iff_eq_none] at hc4
  rw [if_neg (by omega)] at hE0 hF1
  obtain ⟨v, hv⟩ := Int.eq_ofNat_of_zero_le g0
  have hvn : F.vars.toNat = v := by omega
  have hvG : G.vars = v := by omega
  have hvGn : G.vars.toNat = v := by omega
  obtain ⟨e, rfl⟩ := Int.eq_ofNat_of_zero_le (show 0 ≤ e by omega)
  rw [Int.toNat_natCast] at hE0 hF1
  obtain ⟨tp, htp⟩ := Int.eq_ofNat_of_zero_le gt.1
  obtain ⟨tg, htg⟩ := Int.eq_ofNat_of_zero_le kt.1
  rw [hv, htp] at r3
  refine Tri.fin ?_
  refine Nrm.next ?_
  refine Tri.seq (Tri.region ?_)
  refine TOps.field0 rfl Try.underlying24 rfl rfl ti3 rfl rfl rfl ?_
  refine TOps.load1 rfl ti3 (by first | exact Rd.lit (by repeat (first | exact List.Mem.head _ | apply List.Mem.tail)) rfl | (repeat (first | assumption | exact Rd.fld (by assumption) 0 rfl | apply Rd.up))) rfl ?_
  refine TOps.buildStruct (vs := [(0, _)]) (xs := [_, _, _]) [(0, 1), (1, 1), (2, 1)] Try.underlying24 ti24 (fun w => by simp) ⟨rfl, rfl, trivial⟩ rfl rfl ?_
  refine TOps.buildStruct (vs := [(0, _)]) (xs := [_, _, _]) [(0, 3)] Try.underlying61 ti61 (fun w => by simp) ⟨rfl, rfl, trivial⟩ rfl rfl ?_
  refine TOps.boxN rfl ti61 rfl rfl (fun b47 => ?_)
  refine TOps.assign rfl rfl ?_
  refine TOps.next ?_
  refine Tri.seq (Tri.region ?_)
  refine TOps.assign rfl rfl ?_
  refine TOps.assign rfl rfl ?_
  refine TOps.next ?_
  refine Tri.seq ?_
  refine Tri.seq (Tri.region ?_)
  refine TOps.field0 rfl Try.underlying24 rfl rfl ti3 rfl rfl rfl ?_
  refine TOps.load1 rfl ti3 (by first | exact Rd.lit (by repeat (first | exact List.Mem.head _ | apply List.Mem.tail)) rfl | (repeat (first | assumption | exact Rd.fld (by assumption) 0 rfl | apply Rd.up))) rfl ?_
  refine TOps.move rfl rfl ?_
  refine TOps.next ?_
  refine Tri.range (X := (Option Nat × Nat) × (Option Nat × Nat)) (fun z k => [(1, .int .i64 e), (3, .pointer (some ⟨b3, 0, none⟩)), (5, .pointer (some ⟨b5, 0, none⟩)), (6, .pointer (some ⟨b6, 0, none⟩)), (10, .pointer (some ⟨b47, 0, none⟩)), (11, slV z.1.1 0 k z.1.2), (12, slV z.2.1 0 k z.2.2)]) (fun z k => row z.1.1 3 1 z.1.2 (ints (evI k)) :: row z.2.1 3 1 z.2.2 (ints (evI k)) :: row (some b47) 61 3 1 [.int .i64 v, slV none 0 0 0, .int .i64 0] :: row (some b6) 24 3 1 [.int .i64 0, slV none 0 0 0, .int .i64 0] :: H2) (fun z k => k ≠ 0 → (∃ b, z.1.1 = some b) ∧ ∃ b, z.2.1 = some b) (by omega) rfl rfl rfl (fun _ _ => ⟨rfl, rfl, rfl, rfl⟩) ((none, 0), (none, 0)) (fun h => absurd rfl h) ⟨rfl, rfl, rfl, rfl, rfl, rfl, rfl, trivial⟩ (Le.addNil.trans Le.addNil) (fun k z hlt hp => ?_) (fun z ac wc hp hS hM => ?_)
  · skip
    refine Tri.seq (Tri.region ?_)
    refine TOps.move rfl rfl ?_
    refine TOps.assign rfl rfl ?_
    refine TOps.next ?_
    refine Tri.region ?_
    refine TOps.move rfl rfl ?_
    refine TOps.move rfl rfl ?_
    refine TOps.buildSlice (vs := [_]) (xs := [_]) Try.underlying52 ti3 ⟨rfl, rfl, trivial⟩ rfl rfl rfl rfl rfl rfl (by decide) rfl (fun b55 => ?_)
    refine TOps.appendLit rfl rfl Try.underlying52 ti3 rfl (fun _ _ => Upd.here) rfl (by simp [evI_length]) rfl (by omega) (by omega) (by simp) rfl (fun b56 cap56 => ?_)
    refine TOps.move rfl rfl ?_
    refine TOps.move rfl rfl ?_
    refine TOps.buildSlice (vs := [_]) (xs := [_]) Try.underlying52 ti3 ⟨rfl, rfl, trivial⟩ rfl rfl rfl rfl rfl rfl (by decide) rfl (fun b59 => ?_)
    refine TOps.appendLit rfl rfl Try.underlying52 ti3 rfl (fun _ _ => Upd.there Upd.here) rfl (by simp [evI_length]) rfl (by omega) (by omega) (by simp) rfl (fun b60 cap60 => ?_)
    refine TOps.assign rfl rfl ?_
    refine TOps.assign rfl rfl ?_
    refine TOps.fin ?_
    refine Nrm.body ((some b56, cap56), (some b60, cap60)) (fun _ => ⟨⟨_, rfl⟩, ⟨_, rfl⟩⟩) ⟨rfl, rfl, rfl, rfl, rfl, rfl, rfl, rfl, rfl, trivial⟩ (by rw [evI_succ, ints_snoc]; exact Le.refl _)
  obtain ⟨⟨sa, sc⟩, ⟨ta, tc⟩⟩ := z
  dsimp only at hp hM hS
  obtain ⟨⟨sb, rfl⟩, ⟨tb, rfl⟩⟩ := hp (by omega)
  obtain ⟨sa, hsa⟩ : ∃ sa, some sb = sa := ⟨_, rfl⟩
  obtain ⟨ta, hta⟩ : ∃ ta, some tb = ta := ⟨_, rfl⟩
  rw [hsa, hta] at hM hS
  have hfid := follow_id hgG hvG
  obtain ⟨TG, hTG⟩ : ∃ TG, fullT v (evI v) 0 G.nodes.length = TG := ⟨_, rfl⟩
  rw [hTG] at hfid
  have hTGv : TG.getD tg 0 = G.top := by rw [← hTG, fullT_evI (by omega), htg]
  have hTGl : TG.length = v + G.nodes.length := by rw [← hTG, fullT_length, evI_length]
  refine Nrm.of hS hM ?_
  refine Nrm.next ?_
  refine Tri.seq ?_
  refine Tri.le (H' := bld 61 54 b47 v [] 0 BS.new (row sa 3 1 sc (ints (evI v)) :: row ta 3 1 tc (ints (evI v)) :: row (some b6) 24 3 1 [.int .i64 0, slV none 0 0 0, .int .i64 0] :: H2)) (Le.trans (b := row (some b47) 61 3 1 [.int .i64 v, slV none 0 0 0, .int .i64 0] :: row sa 3 1 sc (ints (evI v)) :: row ta 3 1 tc (ints (evI v)) :: row (some b6) 24 3 1 [.int .i64 0, slV none 0 0 0, .int .i64 0] :: H2) (Sp.le (by repeat (first | exact Sp.refl _ | exact Sp.sub (by assumption) | refine Sp.cons (by repeat (first | exact Pick.here | apply Pick.there)) ?_ | exact Sp.nil | apply Sp.skip))) bld_new) ?_
  have hlc : ∀ (x : BS × Nat × Nat) (c : Nat), Le (match c with | 0 => bld 61 54 b47 v [] 0 BS.new (row sa 3 1 sc (ints (evI v)) :: row ta 3 1 tc (ints (evI v)) :: row (some b6) 24 3 1 [.int .i64 0, slV none 0 0 0, .int .i64 0] :: H2) | 1 => fact (x.1.ok G.nodes) :: bld 61 54 b47 v G.nodes 0 x.1 (row (some x.2.1) 3 1 x.2.2 (ints TG) :: row ta 3 1 tc (ints (evI v)) :: row (some b6) 24 3 1 [.int .i64 0, slV none 0 0 0, .int .i64 0] :: H2) | _ + 2 => fact (x.1.ok G.nodes) :: bld 61 54 b47 v G.nodes 0 x.1 (row (some x.2.1) 3 1 x.2.2 (ints TG) :: row ta 3 1 tc ((ints (evI v)).set e (.int .i64 G.top)) :: row (some b6) 24 3 1 [.int .i64 0, slV none 0 0 0, .int .i64 0] :: H2)) H2 := by
    intro x c
    match c with
    | 0 => exact Le.trans bld_le (Le.drop (Le.drop (Le.drop (Le.refl _))))
    | 1 => exact Le.drop (Le.trans bld_le (Le.drop (Le.drop (Le.drop (Le.refl _)))))
    | _ + 2 => exact Le.drop (Le.trans bld_le (Le.drop (Le.drop (Le.drop (Le.refl _)))))
  refine Tri.drawX (X := BS × Nat × Nat) rfl [(1, .int .i64 e), (3, .pointer (some ⟨b3, 0, none⟩)), (5, .pointer (some ⟨b5, 0, none⟩)), (6, .pointer (some ⟨b6, 0, none⟩)), (10, .pointer (some ⟨b47, 0, none⟩)), (11, slV sa 0 v sc), (12, slV ta 0 v tc)] [] (fun x => [_, _, _, _, _, slV (some x.2.1) 0 (v + G.nodes.length) x.2.2, _, _, .pointer (some ⟨x.2.1, tg, none⟩), .int .i64 G.top, .pointer (some ⟨tb, e, none⟩), undef]) (fun x c => match c with | 0 => bld 61 54 b47 v [] 0 BS.new (row sa 3 1 sc (ints (evI v)) :: row ta 3 1 tc (ints (evI v)) :: row (some b6) 24 3 1 [.int .i64 0, slV none 0 0 0, .int .i64 0] :: H2) | 1 => fact (x.1.ok G.nodes) :: bld 61 54 b47 v G.nodes 0 x.1 (row (some x.2.1) 3 1 x.2.2 (ints TG) :: row ta 3 1 tc (ints (evI v)) :: row (some b6) 24 3 1 [.int .i64 0, slV none 0 0 0, .int .i64 0] :: H2) | _ + 2 => fact (x.1.ok G.nodes) :: bld 61 54 b47 v G.nodes 0 x.1 (row (some x.2.1) 3 1 x.2.2 (ints TG) :: row ta 3 1 tc ((ints (evI v)).set e (.int .i64 G.top)) :: row (some b6) 24 3 1 [.int .i64 0, slV none 0 0 0, .int .i64 0] :: H2)) [5, 11] (BS.new, 0, 0) [] rfl rfl ⟨rfl, rfl, rfl, rfl, rfl, rfl, rfl, trivial⟩ trivial (by repeat (first | exact Le.refl _ | assumption | apply Le.drop)) (by
    refine ⟨?_, ?_, ?_, ?_, ?_, ?_, ?_, ?_, ?_, ?_, ?_, ?_, trivial⟩
    · refine ⟨fun x S c he hw hd hc hcu hm _ => ?_, trivial⟩
      refine TOps.move (he _ _ rfl) rfl ?_
      exact TOps.fin (Nrm.draw x (fun _ _ _ => rfl) rfl (by first | exact Le.refl _ | assumption | exact (by repeat (first | exact Le.refl _ | assumption | apply Le.drop))))
    · refine ⟨fun x S c he hw hd hc hcu hm _ => ?_, trivial⟩
      refine TOps.move (he _ _ rfl) rfl ?_
      exact TOps.fin (Nrm.draw x (fun _ _ _ => rfl) rfl (by first | exact Le.refl _ | assumption | exact (by repeat (first | exact Le.refl _ | assumption | apply Le.drop))))
    · refine ⟨fun x S c he hw hd hc hcu hm _ => ?_, trivial⟩
      refine TOps.move (he _ _ rfl) rfl ?_
      exact TOps.fin (Nrm.draw x (fun _ _ _ => rfl) rfl (by first | exact Le.refl _ | assumption | exact (by repeat (first | exact Le.refl _ | assumption | apply Le.drop))))
    · refine ⟨fun x S c he hw hd hc hcu hm _ => ?_, trivial⟩
      refine TOps.loadN (he _ _ rfl) ti24 (r5.le (hlc x c)) rfl rfl ?_
      exact TOps.fin (Nrm.draw x (fun _ _ _ => rfl) rfl (by first | exact Le.refl _ | assumption | exact (by repeat (first | exact Le.refl _ | assumption | apply Le.drop))))
    · refine ⟨fun x S c he hw hd hc hcu hm _ => ?_, trivial⟩
      refine TOps.move (he _ _ rfl) rfl ?_
      exact TOps.fin (Nrm.draw x (fun _ _ _ => rfl) rfl (by first | exact Le.refl _ | assumption | exact (by repeat (first | exact Le.refl _ | assumption | apply Le.drop))))
    · refine ⟨fun x S c he hw hd hc hcu hm _ => ?_, trivial⟩
      obtain ⟨h2, h3, h4, -⟩ := hd
      obtain rfl : c = 0 := hm rfl
      refine TOps.call (vs := [_, _, _]) Try.call41 ⟨h2, h3, h4, trivial⟩ (follow_g BS.new_ok ⟨by omega, by omega⟩ (by simp) (hG0.le (Le.drop (Le.drop (Le.refl _)))) hgG (by rw [evI_length]; omega) (evI_length v) (fun _ => ⟨sb, hsa.symm⟩)) rfl ?_
      rintro _ _ ⟨s', ta', tc', rfl, hso, hok, rfl⟩
      rw [hfid] at hok ⊢
      obtain ⟨gb, rfl⟩ := hso (by omega)
      refine TOps.fin (Nrm.draw (s', gb, tc') ?_ rfl (Le.addFact hok))
      intro j hj hcj; rcases j with _|_|_|_|_|_|_|_|_|_|_|_|j <;> first | rfl | exact absurd rfl hj | exact absurd hcj (by decide)
    · refine ⟨fun x S c he hw hd hc hcu hm _ => ?_, trivial⟩
      first | refine TOps.fieldB 2 (he _ _ rfl) Try.underlying24 rfl rfl ti3 rfl rfl rfl ?_ | refine TOps.fieldN 2 (he _ _ rfl) Try.underlying24 rfl rfl ti3 rfl rfl rfl ?_
      exact TOps.fin (Nrm.draw x (fun _ _ _ => rfl) rfl (by first | exact Le.refl _ | assumption | exact (by repeat (first | exact Le.refl _ | assumption | apply Le.drop))))
    · refine ⟨fun x S c he hw hd hc hcu hm _ => ?_, trivial⟩
      obtain ⟨h6, -⟩ := hd
      refine TOps.load1 h6 ti3 (Rd.fld (r5.le (hlc x c)) 2 rfl) rfl ?_
      exact TOps.fin (Nrm.draw x (fun _ _ _ => rfl) rfl (by first | exact Le.refl _ | assumption | exact (by repeat (first | exact Le.refl _ | assumption | apply Le.drop))))
    · refine ⟨fun x S c he hw hd hc hcu hm _ => ?_, trivial⟩
      obtain ⟨h5, h7, -⟩ := hd
      refine TOps.indexAddr (off' := tg) h5 h7 Try.underlying52 ti3 (by omega) (by omega) (by omega) rfl ?_
      exact TOps.fin (Nrm.draw x (fun _ _ _ => rfl) rfl (by first | exact Le.refl _ | assumption | exact (by repeat (first | exact Le.refl _ | assumption | apply Le.drop))))
    · refine ⟨fun x S c he hw hd hc hcu hm _ => ?_, trivial⟩
      obtain ⟨h8, -⟩ := hd
      obtain rfl : c = 1 := by have h1 : 1 ≤ c := hc; have h2 : c ≤ 1 := hcu; omega
      refine TOps.load1 (v := .int .i64 G.top) h8 ti3 (Rd.up (Rd.le (Rd.lit (List.Mem.head _) (by rw [← hTGv]; exact ints_get (by omega))) bld_le)) rfl ?_
      exact TOps.fin (Nrm.draw x (fun _ _ _ => rfl) rfl (by first | exact Le.refl _ | assumption | exact (by repeat (first | exact Le.refl _ | assumption | apply Le.drop))))
    · refine ⟨fun x S c he hw hd hc hcu hm _ => ?_, trivial⟩
      obtain ⟨h0, h1, _, _, h2, h3, h4, h5, h6, h7, h8, h9, -⟩ := hd
      refine TOps.indexAddr (off' := e) (by rw [← hta] at h0; exact h0) h1 Try.underlying52 ti3 (by omega) (by omega) (by simp) rfl ?_
      exact TOps.fin (Nrm.draw x (fun _ _ _ => rfl) rfl (by first | exact Le.refl _ | assumption | exact (by repeat (first | exact Le.refl _ | assumption | apply Le.drop))))
    · refine ⟨fun x S c he hw hd hc hcu hm _ => ?_, trivial⟩
      obtain ⟨h10, h9, h5, h0, h1, h2, h3, h4, _, h6, h7, h8, _, -⟩ := hd
      obtain rfl : c = 1 := hm rfl
      subst hta
      refine TOps.store1 h10 h9 ti3 rfl rfl (Upd.there (Upd.bld (Upd.there Upd.here))) (by rw [List.length_map, evI_length]; omega) ?_
      exact TOps.fin (Nrm.draw x (fun _ _ _ => rfl) rfl (by first | exact Le.refl _ | assumption | exact (by repeat (first | exact Le.refl _ | assumption | apply Le.drop))))
    ) (fun w => ?_)
  refine Nrm.fact (List.Mem.head _) (fun hs1 => ?_)
  clear hlc
  obtain ⟨z1, hs1e⟩ : ∃ z1, w.1 = z1 := ⟨_, rfl⟩
  rw [hs1e] at hs1 ⊢
  obtain ⟨TE, hTE⟩ : ∃ TE, replT v e G.top = TE := ⟨_, rfl⟩
  have hTEs : (ints (evI v)).set e (.int .i64 G.top) = ints TE := by rw [← hTE]; unfold replT; rw [ints_set]
  have hTEl : TE.length = v := by rw [← hTE, replT_length]
  have hfe := followS_eq (v := (v : Int)) (nodes := F.nodes) (T0 := TE) (ns0 := G.nodes) (fun i hi a ha => by have := hg.argLt hi a ha; omega) _ (Nat.le_refl _)
  rw [List.take_length] at hfe
  have hJe : F.replB e G = ⟨(v : Int), (followS v F.nodes TE G.nodes F.nodes.length).2, (followS v F.nodes TE G.nodes F.nodes.length).1.getD tp 0⟩ := by rw [hfe]; unfold Fm.replB Fm.join; rw [hvn, hTE, hv, htp, Int.toNat_natCast]
  have hfl := followS_len v F.nodes TE G.nodes F.nodes.length
  obtain ⟨TF, hTF⟩ : ∃ TF, (followS v F.nodes TE G.nodes F.nodes.length).1 = TF := ⟨_, rfl⟩
  obtain ⟨JN, hJN⟩ : ∃ JN, (followS v F.nodes TE G.nodes F.nodes.length).2 = JN := ⟨_, rfl⟩
  rw [hTF, hJN] at hJe hfl
  rw [hJe] at hE0 hF1
  obtain ⟨SF, hSF⟩ : ∃ SF, sizedF ⟨(v : Int), JN, TF.getD tp 0⟩ = SF := ⟨_, rfl⟩
  rw [hSF] at hF1
  refine Nrm.le (H' := bld 61 54 b47 v G.nodes 0 z1 (row ta 3 1 tc (ints TE) :: row (some b6) 24 3 1 [.int .i64 0, slV none 0 0 0, .int .i64 0] :: H2)) (by rw [hTEs]; exact (Le.drop (Le.refl _)).trans (bld_mono (List.sublist_cons_self _ _))) ?_
  refine Nrm.next ?_
  refine Tri.seq ?_
  have hlc : ∀ (x : BS × (Nat × Nat) × Option Nat × Nat × List Ent) (c : Nat), Le (match c with | 0 => bld 61 54 b47 v G.nodes 0 z1 (row ta 3 1 tc (ints TE) :: row (some b6) 24 3 1 [.int .i64 0, slV none 0 0 0, .int .i64 0] :: H2) | 1 => fact (x.1.ok JN) :: bld 61 54 b47 v JN 0 x.1 (row (some x.2.1.1) 3 1 x.2.1.2 (ints TF) :: row (some b6) 24 3 1 [.int .i64 0, slV none 0 0 0, .int .i64 0] :: H2) | 2 => fact (RNodes x.2.2.2.2 x.2.2.1 0 SF.nodes) :: (x.2.2.2.2 ++ (row (some x.2.1.1) 3 1 x.2.1.2 (ints TF) :: row (some b6) 24 3 1 [.int .i64 0, slV none 0 0 0, .int .i64 0] :: H2)) | _ + 3 => fact (RNodes x.2.2.2.2 x.2.2.1 0 SF.nodes) :: (x.2.2.2.2 ++ (row (some x.2.1.1) 3 1 x.2.1.2 (ints TF) :: row (some b6) 24 3 1 [.int .i64 SF.vars, slV x.2.2.1 0 SF.nodes.length x.2.2.2.1, .int .i64 SF.top] :: H2))) H2 := by
    intro x c
    match c with
    | 0 => exact Le.trans bld_le (Le.drop (Le.drop (Le.refl _)))
    | 1 => exact Le.drop (Le.trans bld_le (Le.drop (Le.drop (Le.refl _))))
    | 2 => exact Le.drop ((Le.sub (List.sublist_append_right _ _)).trans (Le.drop (Le.drop (Le.refl _))))
    | _ + 3 => exact Le.drop ((Le.sub (List.sublist_append_right _ _)).trans (Le.drop (Le.drop (Le.refl _))))
  refine Tri.drawX (X := BS × (Nat × Nat) × Option Nat × Nat × List Ent) rfl [(1, .int .i64 e), (3, .pointer (some ⟨b3, 0, none⟩)), (5, .pointer (some ⟨b5, 0, none⟩)), (6, .pointer (some ⟨b6, 0, none⟩)), (10, .pointer (some ⟨b47, 0, none⟩)), (12, slV ta 0 v tc)] [] (fun x => [_, _, _, _, slV (some x.2.1.1) 0 (v + F.nodes.length) x.2.1.2, _, _, .pointer (some ⟨x.2.1.1, tp, none⟩), .int .i64 (TF.getD tp 0), .tuple (List.toArray [.agg (List.toArray [.int .i64 SF.vars, slV x.2.2.1 0 SF.nodes.length x.2.2.2.1, .int .i64 SF.top]), errV 47 (sizedE ⟨(v : Int), JN, TF.getD tp 0⟩)]), .agg (List.toArray [.int .i64 SF.vars, slV x.2.2.1 0 SF.nodes.length x.2.2.2.1, .int .i64 SF.top]), errV 47 (sizedE ⟨(v : Int), JN, TF.getD tp 0⟩), undef, errV 47 (sizedE ⟨(v : Int), JN, TF.getD tp 0⟩)]) (fun x c => match c with | 0 => bld 61 54 b47 v G.nodes 0 z1 (row ta 3 1 tc (ints TE) :: row (some b6) 24 3 1 [.int .i64 0, slV none 0 0 0, .int .i64 0] :: H2) | 1 => fact (x.1.ok JN) :: bld 61 54 b47 v JN 0 x.1 (row (some x.2.1.1) 3 1 x.2.1.2 (ints TF) :: row (some b6) 24 3 1 [.int .i64 0, slV none 0 0 0, .int .i64 0] :: H2) | 2 => fact (RNodes x.2.2.2.2 x.2.2.1 0 SF.nodes) :: (x.2.2.2.2 ++ (row (some x.2.1.1) 3 1 x.2.1.2 (ints TF) :: row (some b6) 24 3 1 [.int .i64 0, slV none 0 0 0, .int .i64 0] :: H2)) | _ + 3 => fact (RNodes x.2.2.2.2 x.2.2.1 0 SF.nodes) :: (x.2.2.2.2 ++ (row (some x.2.1.1) 3 1 x.2.1.2 (ints TF) :: row (some b6) 24 3 1 [.int .i64 SF.vars, slV x.2.2.1 0 SF.nodes.length x.2.2.2.1, .int .i64 SF.top] :: H2))) [4, 9, 12] (BS.new, (0, 0), none, 0, []) [13] rfl rfl ⟨rfl, rfl, rfl, rfl, rfl, rfl, trivial⟩ trivial (by repeat (first | exact Le.refl _ | assumption | apply Le.drop)) (by
    refine ⟨?_, ?_, ?_, ?_, ?_, ?_, ?_, ?_, ?_, ?_, ?_, ?_, ?_, ?_, trivial⟩
    · refine ⟨fun x S c he hw hd hc hcu hm _ => ?_, trivial⟩
      refine TOps.move (he _ _ rfl) rfl ?_
      exact TOps.fin (Nrm.draw x (fun _ _ _ => rfl) rfl (by first | exact Le.refl _ | assumption | exact (by repeat (first | exact Le.refl _ | assumption | apply Le.drop))))
    · refine ⟨fun x S c he hw hd hc hcu hm _ => ?_, trivial⟩
      refine TOps.move (he _ _ rfl) rfl ?_
      exact TOps.fin (Nrm.draw x (fun _ _ _ => rfl) rfl (by first | exact Le.refl _ | assumption | exact (by repeat (first | exact Le.refl _ | assumption | apply Le.drop))))
    · refine ⟨fun x S c he hw hd hc hcu hm _ => ?_, trivial⟩
      refine TOps.loadN (he _ _ rfl) ti24 (r3.le (hlc x c)) rfl rfl ?_
      exact TOps.fin (Nrm.draw x (fun _ _ _ => rfl) rfl (by first | exact Le.refl _ | assumption | exact (by repeat (first | exact Le.refl _ | assumption | apply Le.drop))))
    · refine ⟨fun x S c he hw hd hc hcu hm _ => ?_, trivial⟩
      refine TOps.move (he _ _ rfl) rfl ?_
      exact TOps.fin (Nrm.draw x (fun _ _ _ => rfl) rfl (by first | exact Le.refl _ | assumption | exact (by repeat (first | exact Le.refl _ | assumption | apply Le.drop))))
    · refine ⟨fun x S c he hw hd hc hcu hm _ => ?_, trivial⟩
      obtain ⟨h1, h2, h3, -⟩ := hd
      obtain rfl : c = 0 := hm rfl
      refine TOps.call (vs := [_, _, _]) Try.call41 ⟨h1, h2, h3, trivial⟩ (follow_g hs1 ⟨by omega, by omega⟩ (by omega) (by rw [← hv, ← htp]; exact hF0.le (Le.drop (Le.refl _))) hg (by omega) hTEl (fun _ => ⟨tb, hta.symm⟩)) rfl ?_
      rintro _ _ ⟨s', ta', tc', rfl, hso, hok, rfl⟩
      rw [hTF, hJN] at *
      obtain ⟨gb, rfl⟩ := hso (by omega)
      refine TOps.fin (Nrm.draw (s', (gb, tc'), x.2.2) ?_ rfl (Le.addFact hok))
      intro j hj hcj; rcases j with _|_|_|_|_|_|_|_|_|_|_|_|_|_|j <;> first | rfl | exact absurd rfl hj | exact absurd hcj (by decide)
    · refine ⟨fun x S c he hw hd hc hcu hm _ => ?_, trivial⟩
      first | refine TOps.fieldB 2 (he _ _ rfl) Try.underlying24 rfl rfl ti3 rfl rfl rfl ?_ | refine TOps.fieldN 2 (he _ _ rfl) Try.underlying24 rfl rfl ti3 rfl rfl rfl ?_
      exact TOps.fin (Nrm.draw x (fun _ _ _ => rfl) rfl (by first | exact Le.refl _ | assumption | exact (by repeat (first | exact Le.refl _ | assumption | apply Le.drop))))
    · refine ⟨fun x S c he hw hd hc hcu hm _ => ?_, trivial⟩
      obtain ⟨h5, -⟩ := hd
      refine TOps.load1 h5 ti3 (Rd.fld (r3.le (hlc x c)) 2 rfl) rfl ?_
      exact TOps.fin (Nrm.draw x (fun _ _ _ => rfl) rfl (by first | exact Le.refl _ | assumption | exact (by repeat (first | exact Le.refl _ | assumption | apply Le.drop))))
    · refine ⟨fun x S c he hw hd hc hcu hm _ => ?_, trivial⟩
      obtain ⟨h4, h6, -⟩ := hd
      refine TOps.indexAddr (off' := tp) h4 h6 Try.underlying52 ti3 (by omega) (by omega) (by simp) rfl ?_
      exact TOps.fin (Nrm.draw x (fun _ _ _ => rfl) rfl (by first | exact Le.refl _ | assumption | exact (by repeat (first | exact Le.refl _ | assumption | apply Le.drop))))
    · refine ⟨fun x S c he hw hd hc hcu hm _ => ?_, trivial⟩
      obtain ⟨h7, -⟩ := hd
      obtain rfl : c = 1 := by have h1 : 1 ≤ c := hc; have h2 : c ≤ 1 := hcu; omega
      refine TOps.load1 (v := .int .i64 (TF.getD tp 0)) h7 ti3 (Rd.up (Rd.le (Rd.lit (List.Mem.head _) (ints_get (by omega))) bld_le)) rfl ?_
      exact TOps.fin (Nrm.draw x (fun _ _ _ => rfl) rfl (by first | exact Le.refl _ | assumption | exact (by repeat (first | exact Le.refl _ | assumption | apply Le.drop))))
    · refine ⟨fun x S c he hw hd hc hcu hm _ => ?_, trivial⟩
      obtain ⟨h0, h8, h4, -⟩ := hd
      obtain rfl : c = 1 := hm rfl
      refine TOps.fact (List.Mem.head _) (fun hok => ?_)
      refine TOps.le (Le.drop (Le.refl _)) ?_
      refine TOps.call (vs := [_, _]) Try.call42 ⟨h0, h8, trivial⟩ (done_g hok (by omega) _) rfl ?_
      rintro _ _ ⟨a1, c1, NN, rfl, hN2, rfl⟩
      rw [hSF] at hN2 ⊢
      refine TOps.fin (Nrm.draw (x.1, x.2.1, a1, c1, NN) ?_ rfl (Le.addFact hN2))
      intro j hj hcj; rcases j with _|_|_|_|_|_|_|_|_|_|_|_|_|_|j <;> first | rfl | exact absurd rfl hj | exact absurd hcj (by decide)
    · refine ⟨fun x S c he hw hd hc hcu hm _ => ?_, trivial⟩
      obtain ⟨h9, -⟩ := hd
      refine TOps.extract h9 rfl rfl ?_
      exact TOps.fin (Nrm.draw x (fun _ _ _ => rfl) rfl (by first | exact Le.refl _ | assumption | exact (by repeat (first | exact Le.refl _ | assumption | apply Le.drop))))
    · refine ⟨fun x S c he hw hd hc hcu hm _ => ?_, trivial⟩
      obtain ⟨h9, -⟩ := hd
      refine TOps.extract h9 rfl rfl ?_
      exact TOps.fin (Nrm.draw x (fun _ _ _ => rfl) rfl (by first | exact Le.refl _ | assumption | exact (by repeat (first | exact Le.refl _ | assumption | apply Le.drop))))
    · refine ⟨fun x S c he hw hd hc hcu hm _ => ?_, trivial⟩
      obtain ⟨h10, h9, h0, h1, h2, h3, h4, h5, h6, h7, h8, _, _, h11, -⟩ := hd
      obtain rfl : c = 2 := hm rfl
      refine TOps.storeN (he _ _ rfl) h10 ti24 rfl rfl (Upd.there (Upd.app (Upd.there Upd.here) _)) (by simp) ?_
      exact TOps.fin (Nrm.draw x (fun _ _ _ => rfl) rfl (by first | exact Le.refl _ | assumption | exact (by repeat (first | exact Le.refl _ | assumption | apply Le.drop))))
    · refine ⟨fun x S c he hw hd hc hcu hm _ => ?_, trivial⟩
      obtain ⟨h11, h12, h0, h1, h2, h3, h4, h5, h6, h7, h8, h9, h10, _, _, -⟩ := hd
      refine TOps.assign h11 rfl ?_
      exact TOps.fin (Nrm.draw x (fun _ _ _ => rfl) rfl (by first | exact Le.refl _ | assumption | exact (by repeat (first | exact Le.refl _ | assumption | apply Le.drop))))
    ) (fun w2 => ?_)
  refine Nrm.fact (List.Mem.head _) (fun hNf => ?_)
  refine Nrm.le (Le.drop (Le.refl _)) ?_
  refine Nrm.next ?_
  refine Tri.ret2 (H' := w2.2.2.2.2 ++ H) Try.results17 (fun _ _ h => h) (.cellN rfl rfl ti24 (Rd.all (List.mem_append_right _ (List.Mem.tail _ (List.Mem.head _)))) rfl) (.tmp rfl) (sub_app (List.Sublist.cons _ (List.Sublist.cons _ (s1.trans s2)))) ⟨w2.2.2.1, w2.2.2.2.1, w2.2.2.2.2, ?_, ?_, rfl⟩
  · rw [hE0, hF1]; rfl
  · rw [hF1]; exact hNf
end Go.Proofs
