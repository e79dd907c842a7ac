import Derived.Test.YthfbpnfaklaopaaE11
import Derived.Test.YthfbpnfaklaopaaGL75
namespace Go.Proofs
open Go.GL
set_option linter.unusedVariables false
set_option linter.unusedSimpArgs false
set_option maxHeartbeats 2000000 in
theorem dual_g {H : List Ent} {fv : Value} {F : Fm} (hF : RF H fv F) (hk : F.ok) :
    Gives Try.prog 24 [fv] H (NewN 47 F.dualF F.dualE H) := by
  have hF0 := hF
  obtain ⟨na, off, cap, nsp, rfl, hN⟩ := hF
  refine Gives.enter Try.func24 rfl (by exact Try.ntmps24) rfl ?_
  refine Tri.seq (Tri.region ?_)
  refine TOps.boxN rfl ti24 rfl rfl (fun b1 => ?_)
  refine TOps.hide (fun H1 l1 s1 r1 => ?_)
  replace hF0 := hF0.le l1; replace hN := hN.le l1
  refine TOps.alloc ti24 rfl (fun b2 => ?_)
  refine TOps.assign rfl rfl ?_
  refine TOps.next ?_
  refine Tri.seq ?_
  refine Tri.seq (Tri.region ?_)
  refine TOps.loadN rfl ti24 (by first | exact Rd.all (by repeat (first | exact List.Mem.head _ | apply List.Mem.tail)) | (repeat (first | assumption | apply Rd.up))) rfl rfl ?_
  refine TOps.call (vs := [_]) Try.call21 ⟨rfl, trivial⟩ (check_g (hF0.le (Le.drop (Le.refl _))) hk) rfl ?_
  rintro _ _ ⟨rfl, rfl⟩
  refine TOps.assign rfl rfl ?_
  refine TOps.next ?_
  refine Tri.seq (Tri.region ?_)
  refine TOps.move rfl rfl ?_
  refine TOps.neqNil rfl Try.underlying28 rfl ?_
  refine TOps.next ?_
  refine Tri.cond rfl (fun hc1 => ?_) (fun hc1 => ?_)
  · try simp only [decide_eq_true_eq, decide_eq_false_iff_not, Bool.and_eq_true, Bool.or_eq_true, Bool.not_eq_true', Bool.and_eq_false_iff, Bool.or_eq_false_iff, Bool.not_eq_false', Int.not_lt, Int.not_le, ne_eq, Decidable.not_not, Option.isSome_iff_ne_none, Option.isNone_iff_eq_none] at hc1
    obtain ⟨er, her⟩ := Option.ne_none_iff_exists'.1 hc1
    refine Tri.seq (Tri.region ?_)
    refine TOps.buildStruct (vs := []) (xs := [_, _, _]) [(0, 1), (1, 1), (2, 1)] Try.underlying24 ti24 (fun w => by simp) trivial rfl rfl ?_
    refine TOps.move rfl rfl ?_
    refine TOps.storeN rfl rfl ti24 rfl rfl (by repeat (first | exact Upd.here | apply Upd.there)) (by first | decide | (simp; done) | (simp; omega)) ?_
    refine TOps.assign rfl rfl ?_
    refine TOps.next ?_
    refine Tri.ret2 (H' := H) Try.results24 (fun _ _ h => h) (.cellN rfl rfl ti24 (Rd.all (by repeat (first | exact List.Mem.head _ | apply List.Mem.tail))) rfl) (.tmp rfl) (Le.drop l1) ⟨none, 0, [], ?_, ?_, rfl⟩
    · rw [show F.dualE = F.err from by unfold Fm.dualE; rw [her], show F.dualF = Fm.zero from by unfold Fm.dualF; rw [her]]; rfl
    · rw [show F.dualF = Fm.zero from by unfold Fm.dualF; rw [her]]; exact .inl rfl
  try simp only [decide_eq_true_eq, decide_eq_false_iff_not, Bool.and_eq_true, Bool.or_eq_true, Bool.not_eq_true', Bool.and_eq_false_iff, Bool.or_eq_false_iff, Bool.not_eq_false', Int.not_lt, Int.not_le, ne_eq, Decidable.not_not, Option.isSome_iff_ne_none, Option.isNone_iff_eq_none] at hc1
  have he : F.err = none := by simpa using hc1
  have hg := (Fm.good_iff F).1 he
  have g0 := hg.v0; have g1 := hg.v1; have g2 := hg.n1; have gt := hg.topLt
  obtain ⟨v, hv⟩ := Int.eq_ofNat_of_zero_le g0
  have hvn : F.vars.toNat = v := by omega
  obtain ⟨tp, htp⟩ := Int.eq_ofNat_of_zero_le gt.1
  have hpE : F.dualE = sizedE F.dualB := by unfold Fm.dualE; rw [he]
  have hpF : F.dualF = sizedF F.dualB := by unfold Fm.dualF; rw [he]
  have hpb : F.dualB = ⟨(v : Int), (dualS v F.nodes F.nodes.length).2, (dualS v F.nodes F.nodes.length).1.getD tp 0⟩ := by unfold Fm.dualB; rw [hvn, hv, htp, Int.toNat_natCast]
  rw [hpb] at hpE hpF
  rw [hv, htp] at r1
  refine Tri.fin ?_
  refine Nrm.next ?_
  refine Tri.seq (Tri.region ?_)
  refine TOps.field0 rfl Try.underlying24 rfl rfl ti3 rfl rfl rfl ?_
  refine TOps.load1 rfl ti3 (by first | exact Rd.lit (by repeat (first | exact List.Mem.head _ | apply List.Mem.tail)) rfl | (repeat (first | assumption | exact Rd.fld (by assumption) 0 rfl | apply Rd.up))) rfl ?_
  refine TOps.buildStruct (vs := [(0, _)]) (xs := [_, _, _]) [(0, 1), (1, 1), (2, 1)] Try.underlying24 ti24 (fun w => by simp) ⟨rfl, rfl, trivial⟩ rfl rfl ?_
  refine TOps.buildStruct (vs := [(0, _)]) (xs := [_, _, _]) [(0, 3)] Try.underlying61 ti61 (fun w => by simp) ⟨rfl, rfl, trivial⟩ rfl rfl ?_
  refine TOps.boxN rfl ti61 rfl rfl (fun b22 => ?_)
  refine TOps.assign rfl rfl ?_
  refine TOps.next ?_
  refine Tri.seq (Tri.region ?_)
  refine TOps.assign rfl rfl ?_
  refine TOps.next ?_
  refine Tri.seq ?_
  refine Tri.seq (Tri.region ?_)
  refine TOps.field0 rfl Try.underlying24 rfl rfl ti3 rfl rfl rfl ?_
  refine TOps.load1 rfl ti3 (by first | exact Rd.lit (by repeat (first | exact List.Mem.head _ | apply List.Mem.tail)) rfl | (repeat (first | assumption | exact Rd.fld (by assumption) 0 rfl | apply Rd.up))) rfl ?_
  refine TOps.move rfl rfl ?_
  refine TOps.next ?_
  refine Tri.range (X := Option Nat × Nat) (fun z k => [(1, .pointer (some ⟨b1, 0, none⟩)), (2, .pointer (some ⟨b2, 0, none⟩)), (5, .pointer (some ⟨b22, 0, none⟩)), (6, slV z.1 0 k z.2)]) (fun z k => row z.1 3 1 z.2 (ints (evI k)) :: row (some b22) 61 3 1 [.int .i64 v, slV none 0 0 0, .int .i64 0] :: row (some b2) 24 3 1 [.int .i64 0, slV none 0 0 0, .int .i64 0] :: H1) (fun z k => k ≠ 0 → ∃ b, z.1 = some b) (by omega) rfl rfl rfl (fun _ _ => ⟨rfl, rfl, rfl, rfl⟩) (none, 0) (fun h => absurd rfl h) ⟨rfl, rfl, rfl, rfl, trivial⟩ Le.addNil (fun k z hlt hp => ?_) (fun z ac wc hp hS hM => ?_)
  · skip
    refine Tri.seq (Tri.region ?_)
    refine TOps.move rfl rfl ?_
    refine TOps.assign rfl rfl ?_
    refine TOps.next ?_
    refine Tri.region ?_
    refine TOps.move rfl rfl ?_
    refine TOps.move rfl rfl ?_
    refine TOps.buildSlice (vs := [_]) (xs := [_]) Try.underlying52 ti3 ⟨rfl, rfl, trivial⟩ rfl rfl rfl rfl rfl rfl (by decide) rfl (fun b30 => ?_)
    refine TOps.appendLit rfl rfl Try.underlying52 ti3 rfl (fun _ _ => Upd.here) rfl (by simp [evI_length]) rfl (by omega) (by omega) (by simp) rfl (fun b30 cap30 => ?_)
    refine TOps.assign rfl rfl ?_
    refine TOps.fin ?_
    refine Nrm.body (some b30, cap30) (fun _ => ⟨_, rfl⟩) ⟨rfl, rfl, rfl, rfl, rfl, rfl, trivial⟩ (Le.rowEq (by rw [evI_succ, ints_snoc]))
  have hz := hp
  refine Nrm.of hS hM ?_
  refine Nrm.next ?_
  refine Tri.seq ?_
  refine Tri.seq (Tri.region ?_)
  first | refine TOps.fieldB 1 rfl Try.underlying24 rfl rfl ti22 rfl rfl rfl ?_ | refine TOps.fieldN 1 rfl Try.underlying24 rfl rfl ti22 rfl rfl rfl ?_
  refine TOps.load1 rfl ti22 (by first | exact Rd.lit (by repeat (first | exact List.Mem.head _ | apply List.Mem.tail)) rfl | (repeat (first | assumption | exact Rd.fld (by assumption) 1 rfl | apply Rd.up))) rfl ?_
  refine TOps.len rfl Try.underlying22 rfl ?_
  refine TOps.move rfl rfl ?_
  refine TOps.next ?_
  refine Tri.range (X := BS × (Option Nat × Nat)) (fun u k => [(1, .pointer (some ⟨b1, 0, none⟩)), (2, .pointer (some ⟨b2, 0, none⟩)), (5, .pointer (some ⟨b22, 0, none⟩)), (6, slV u.2.1 0 (v + k) u.2.2), (34, slV na off F.nodes.length cap nsp)]) (fun u k => bld 61 54 b22 v (dualS v F.nodes k).2 0 u.1 (row u.2.1 3 1 u.2.2 (ints (dualS v F.nodes k).1) :: row (some b2) 24 3 1 [.int .i64 0, slV none 0 0 0, .int .i64 0] :: H1)) (fun u k => u.1.ok (dualS v F.nodes k).2 ∧ (v + k ≠ 0 → ∃ b, u.2.1 = some b)) (by omega) rfl rfl rfl (fun _ _ => ⟨rfl, rfl, rfl, rfl⟩) (BS.new, z) ⟨BS.new_ok, hz⟩ ⟨rfl, rfl, rfl, rfl, rfl, trivial⟩ (Le.swap.trans bld_new) (fun k u hlt hp => ?_) (fun u ac wc hp hS hM => ?_)
  · skip
    obtain ⟨z1, ta, tc⟩ := u
    obtain ⟨hz1, hta⟩ := hp
    dsimp only at hz1 hta ⊢
    obtain ⟨nb, aa, ao, acap, asp, rfl, rfl, hn⟩ := hN.at hlt
    have hfi := hg.fits k hlt
    rw [hv] at hfi
    have hal := hfi.len
    obtain ⟨hTl, hSl⟩ := dualS_len (v := v) (nodes := F.nodes) k
    have hst : dualS v F.nodes (k + 1) = ((dualS v F.nodes k).1 ++ [(dualN v (dualS v F.nodes k).1 F.nodes[k] (dualS v F.nodes k).2).2], (dualN v (dualS v F.nodes k).1 F.nodes[k] (dualS v F.nodes k).2).1) := by rw [dualS]; simp [hlt]
    obtain ⟨d, hd⟩ : ∃ d, F.nodes[k] = d := ⟨_, rfl⟩
    obtain ⟨T, hT⟩ : ∃ T, (dualS v F.nodes k).1 = T := ⟨_, rfl⟩
    obtain ⟨NS, hNS⟩ : ∃ NS, (dualS v F.nodes k).2 = NS := ⟨_, rfl⟩
    rw [hd, hT, hNS] at hst
    rw [hd] at hn hfi hal
    rw [hT] at hTl
    rw [hNS] at hSl hz1
    rw [hT, hNS]
    obtain ⟨RR, hRR⟩ : ∃ RR, dualN v T d NS = RR := ⟨_, rfl⟩
    rw [hRR] at hst
    have hin : ∀ a ∈ d.args, 0 ≤ a ∧ a.toNat < v + k := fun a ha => by have := hfi.args a ha; omega
    have hk01 := hfi.kk.1
    have hk4 := hfi.kk.2.1
    refine Tri.seq (Tri.region ?_)
    refine TOps.indexAddr (off' := off + k * 3) rfl rfl Try.underlying22 ti54 (by omega) (by omega) (by simp) rfl ?_
    refine TOps.loadN (vs := [.int .i64 d.kind, .int .i64 d.k, slV aa ao d.args.length acap asp]) rfl ti54 (hn.cells.le (Le.trans bld_le (Le.drop (Le.drop (Le.refl _))))) rfl rfl ?_
    refine TOps.alloc ti54 rfl (fun b9 => ?_)
    refine TOps.storeN rfl rfl ti54 rfl rfl (by repeat (first | exact Upd.here | apply Upd.there)) (by first | decide | (simp; done) | (simp; omega)) ?_
    refine TOps.le bld_in ?_
    obtain ⟨HB, hHB⟩ : ∃ HB, HB = row (some b9) 54 3 1 [.int .i64 d.kind, .int .i64 d.k, slV aa ao d.args.length acap asp] :: row ta 3 1 tc (ints T) :: row (some b2) 24 3 1 [.int .i64 0, slV none 0 0 0, .int .i64 0] :: H1 := ⟨_, rfl⟩
    have r9 : Rd HB b9 0 [.int .i64 d.kind, .int .i64 d.k, slV aa ao d.args.length acap asp] := by rw [hHB]; exact Rd.all (by repeat (first | exact List.Mem.head _ | apply List.Mem.tail))
    have hargs : RInts HB aa ao d.args asp := by rw [hHB]; exact RdS.le hn.args (Le.drop (Le.drop (Le.drop (Le.refl _))))
    have rT : RInts HB ta 0 T := by rw [hHB]; exact RdS.ofRowA (by repeat (first | exact List.Mem.head _ | apply List.Mem.tail)) (fun h => hta (by intro h0; rw [h0] at hTl; exact h (by rw [List.eq_nil_of_length_eq_zero hTl]; rfl)))
    refine TOps.le (H' := bld 61 54 b22 v NS 0 z1 HB) (by rw [hHB]; exact Le.refl _) ?_
    refine TOps.next ?_
    refine Tri.seq (Tri.region ?_)
    first | refine TOps.fieldB 2 rfl Try.underlying54 rfl rfl ti52 rfl rfl rfl ?_ | refine TOps.fieldN 2 rfl Try.underlying54 rfl rfl ti52 rfl rfl rfl ?_
    refine TOps.load1 rfl ti52 (Rd.fld (r9.le bld_le) 2 rfl) rfl ?_
    refine TOps.move rfl rfl ?_
    refine TOps.call (vs := [_, _]) Try.call31 ⟨rfl, rfl, trivial⟩ (mapped_g (P := T) (RdS.le hargs bld_le) (by omega) (RdS.le rT bld_le) hTl (by omega) hin) rfl ?_
    rintro _ _ ⟨ma, mc, rfl, hma, rfl⟩
    have hma' : trI T d.args ≠ [] → ∃ b, ma = some b := fun h => hma (fun e => h (by rw [e]; rfl))
    refine TOps.assign rfl rfl ?_
    refine TOps.next ?_
    refine Tri.seq (Tri.region ?_)
    refine TOps.assign rfl rfl ?_
    refine TOps.next ?_
    refine Tri.seqMid (X := BS) (fun y => [(1, .pointer (some ⟨b1, 0, none⟩)), (2, .pointer (some ⟨b2, 0, none⟩)), (5, .pointer (some ⟨b22, 0, none⟩)), (6, slV ta 0 (v + k) tc), (34, slV (some nb) off F.nodes.length cap none), (35, .int .i64 F.nodes.length), (36, .int .i64 k), (11, .int .i64 RR.2)]) (fun y => bld 61 54 b22 v RR.1 0 y HB) (fun y => y.ok RR.1) ?_ (fun y hmid => ?_)
    · skip
      refine Tri.seq (Tri.region ?_)
      refine TOps.field0 rfl Try.underlying54 rfl rfl ti3 rfl rfl rfl ?_
      refine TOps.load1 rfl ti3 (Rd.fld (r9.le (Le.drop bld_le)) 0 rfl) rfl ?_
      refine TOps.next ?_
      refine Tri.block ?_
      refine Tri.seq (Tri.region ?_)
      refine TOps.eqlI rfl rfl rfl ?_
      refine TOps.assign rfl rfl ?_
      refine TOps.next ?_
      refine Tri.cond rfl (fun hc2 => ?_) (fun hc2 => ?_)
      · try simp only [decide_eq_true_eq, decide_eq_false_iff_not, Bool.and_eq_true, Bool.or_eq_true, Bool.not_eq_true', Bool.and_eq_false_iff, Bool.or_eq_false_iff, Bool.not_eq_false', Int.not_lt, Int.not_le, ne_eq, Decidable.not_not, Option.isSome_iff_ne_none, Option.isNone_iff_eq_none] at hc2
        obtain rfl : ((NS ++ [⟨0, 1 - d.k, []⟩], (v : Int) + NS.length) : List Nd × Int) = RR := by rw [← hRR]; unfold dualN; rw [if_pos hc2]
        have hk0' := hk01 hc2
        refine Tri.region ?_
        refine TOps.move rfl rfl ?_
        first | refine TOps.fieldB 1 rfl Try.underlying54 rfl rfl ti3 rfl rfl rfl ?_ | refine TOps.fieldN 1 rfl Try.underlying54 rfl rfl ti3 rfl rfl rfl ?_
        refine TOps.load1 rfl ti3 (Rd.fld (r9.le (Le.drop bld_le)) 1 rfl) rfl ?_
        refine TOps.sub rfl rfl (wrapI (by omega) (by omega)) rfl ?_
        refine TOps.le (Le.drop (Le.refl _)) ?_
        refine TOps.call (vs := [_, _, _, _]) Try.call30 ⟨rfl, rfl, rfl, rfl, trivial⟩ (add0_g hz1 rfl ⟨by omega, by omega⟩ (by omega) 0 (1 - d.k)) rfl ?_
        rintro _ _ ⟨s2, rfl, hs2, rfl⟩
        refine TOps.assign rfl rfl ?_
        refine TOps.fin ?_
        refine Nrm.unB ?_
        refine Nrm.mid s2 hs2 (by exact ⟨rfl, rfl, rfl, rfl, rfl, rfl, rfl, rfl, trivial⟩) (by first | exact Le.refl _ | exact Le.drop (Le.refl _))
      try simp only [decide_eq_true_eq, decide_eq_false_iff_not, Bool.and_eq_true, Bool.or_eq_true, Bool.not_eq_true', Bool.and_eq_false_iff, Bool.or_eq_false_iff, Bool.not_eq_false', Int.not_lt, Int.not_le, ne_eq, Decidable.not_not, Option.isSome_iff_ne_none, Option.isNone_iff_eq_none] at hc2
      refine Tri.seq (Tri.region ?_)
      refine TOps.eqlI rfl rfl rfl ?_
      refine TOps.assign rfl rfl ?_
      refine TOps.next ?_
      refine Tri.cond rfl (fun hc3 => ?_) (fun hc3 => ?_)
      · try simp only [decide_eq_true_eq, decide_eq_false_iff_not, Bool.and_eq_true, Bool.or_eq_true, Bool.not_eq_true', Bool.and_eq_false_iff, Bool.or_eq_false_iff, Bool.not_eq_false', Int.not_lt, Int.not_le, ne_eq, Decidable.not_not, Option.isSome_iff_ne_none, Option.isNone_iff_eq_none] at hc3
        obtain rfl : ((NS ++ [⟨3, 0, trI T d.args⟩], (v : Int) + NS.length) : List Nd × Int) = RR := by rw [← hRR]; unfold dualN; rw [if_neg hc2, if_pos hc3]
        refine Tri.region ?_
        refine TOps.move rfl rfl ?_
        refine TOps.move rfl rfl ?_
        refine TOps.call (vs := [_, _, _, _]) Try.call30 ⟨rfl, rfl, rfl, rfl, trivial⟩ (add1_g hz1 rfl ⟨by omega, by omega⟩ (by omega) (trI_length T d.args) hma' 3 0) rfl ?_
        rintro _ _ ⟨s2, rfl, hs2, rfl⟩
        refine TOps.assign rfl rfl ?_
        refine TOps.fin ?_
        refine Nrm.unB ?_
        refine Nrm.mid s2 hs2 (by exact ⟨rfl, rfl, rfl, rfl, rfl, rfl, rfl, rfl, trivial⟩) (by first | exact Le.refl _ | exact Le.drop (Le.refl _))
      try simp only [decide_eq_true_eq, decide_eq_false_iff_not, Bool.and_eq_true, Bool.or_eq_true, Bool.not_eq_true', Bool.and_eq_false_iff, Bool.or_eq_false_iff, Bool.not_eq_false', Int.not_lt, Int.not_le, ne_eq, Decidable.not_not, Option.isSome_iff_ne_none, Option.isNone_iff_eq_none] at hc3
      refine Tri.seq (Tri.region ?_)
      refine TOps.eqlI rfl rfl rfl ?_
      refine TOps.assign rfl rfl ?_
      refine TOps.next ?_
      refine Tri.cond rfl (fun hc4 => ?_) (fun hc4 => ?_)
      · try simp only [decide_eq_true_eq, decide_eq_false_iff_not, Bool.and_eq_true, Bool.or_eq_true, Bool.not_eq_true', Bool.and_eq_false_iff, Bool.or_eq_false_iff, Bool.not_eq_false', Int.not_lt, Int.not_le, ne_eq, Decidable.not_not, Option.isSome_iff_ne_none, Option.isNone_iff_eq_none] at hc4
        obtain rfl : ((NS ++ [⟨2, 0, trI T d.args⟩], (v : Int) + NS.length) : List Nd × Int) = RR := by rw [← hRR]; unfold dualN; rw [if_neg hc2, if_neg hc3, if_pos hc4]
        refine Tri.region ?_
        refine TOps.move rfl rfl ?_
        refine TOps.move rfl rfl ?_
        refine TOps.call (vs := [_, _, _, _]) Try.call30 ⟨rfl, rfl, rfl, rfl, trivial⟩ (add1_g hz1 rfl ⟨by omega, by omega⟩ (by omega) (trI_length T d.args) hma' 2 0) rfl ?_
        rintro _ _ ⟨s2, rfl, hs2, rfl⟩
        refine TOps.assign rfl rfl ?_
        refine TOps.fin ?_
        refine Nrm.unB ?_
        refine Nrm.mid s2 hs2 (by exact ⟨rfl, rfl, rfl, rfl, rfl, rfl, rfl, rfl, trivial⟩) (by first | exact Le.refl _ | exact Le.drop (Le.refl _))
      try simp only [decide_eq_true_eq, decide_eq_false_iff_not, Bool.and_eq_true, Bool.or_eq_true, Bool.not_eq_true', Bool.and_eq_false_iff, Bool.or_eq_false_iff, Bool.not_eq_false', Int.not_lt, Int.not_le, ne_eq, Decidable.not_not, Option.isSome_iff_ne_none, Option.isNone_iff_eq_none] at hc4
      refine Tri.seq (Tri.region ?_)
      refine TOps.eqlI rfl rfl rfl ?_
      refine TOps.assign rfl rfl ?_
      refine TOps.next ?_
      refine Tri.cond rfl (fun hc5 => ?_) (fun hc5 => ?_)
      · try simp only [decide_eq_true_eq, decide_eq_false_iff_not, Bool.and_eq_true, Bool.or_eq_true, Bool.not_eq_true', Bool.and_eq_false_iff, Bool.or_eq_false_iff, Bool.not_eq_false', Int.not_lt, Int.not_le, ne_eq, Decidable.not_not, Option.isSome_iff_ne_none, Option.isNone_iff_eq_none] at hc5
        obtain rfl : ((NS ++ [⟨4, d.args.length - d.k + 1, trI T d.args⟩], (v : Int) + NS.length) : List Nd × Int) = RR := by rw [← hRR]; unfold dualN; rw [if_neg hc2, if_neg hc3, if_neg hc4, if_pos hc5]
        have hk4' := hk4 hc5
        refine Tri.region ?_
        refine TOps.move rfl rfl ?_
        refine TOps.move rfl rfl ?_
        refine TOps.len rfl Try.underlying52 rfl ?_
        first | refine TOps.fieldB 1 rfl Try.underlying54 rfl rfl ti3 rfl rfl rfl ?_ | refine TOps.fieldN 1 rfl Try.underlying54 rfl rfl ti3 rfl rfl rfl ?_
        refine TOps.load1 rfl ti3 (Rd.fld (r9.le (Le.drop bld_le)) 1 rfl) rfl ?_
        refine TOps.sub rfl rfl (wrapI (by omega) (by omega)) rfl ?_
        refine TOps.add rfl rfl (wrapI (by omega) (by omega)) rfl ?_
        refine TOps.move rfl rfl ?_
        refine TOps.call (vs := [_, _, _, _]) Try.call30 ⟨rfl, rfl, rfl, rfl, trivial⟩ (add1_g hz1 rfl ⟨by omega, by omega⟩ (by omega) (trI_length T d.args) hma' 4 _) rfl ?_
        rintro _ _ ⟨s2, rfl, hs2, rfl⟩
        refine TOps.assign rfl rfl ?_
        refine TOps.fin ?_
        refine Nrm.unB ?_
        refine Nrm.mid s2 hs2 (by exact ⟨rfl, rfl, rfl, rfl, rfl, rfl, rfl, rfl, trivial⟩) (by first | exact Le.refl _ | exact Le.drop (Le.refl _))
      try simp only [decide_eq_true_eq, decide_eq_false_iff_not, Bool.and_eq_true, Bool.or_eq_true, Bool.not_eq_true', Bool.and_eq_false_iff, Bool.or_eq_false_iff, Bool.not_eq_false', Int.not_lt, Int.not_le, ne_eq, Decidable.not_not, Option.isSome_iff_ne_none, Option.isNone_iff_eq_none] at hc5
      refine Tri.seq (Tri.region ?_)
      refine TOps.move rfl rfl ?_
      refine TOps.field0 rfl Try.underlying54 rfl rfl ti3 rfl rfl rfl ?_
      refine TOps.load1 rfl ti3 (Rd.fld (r9.le (Le.drop bld_le)) 0 rfl) rfl ?_
      refine TOps.move rfl rfl ?_
      refine TOps.call (vs := [_, _, _, _]) Try.call30 ⟨rfl, rfl, rfl, rfl, trivial⟩ (add1_g hz1 rfl ⟨by omega, by omega⟩ (by omega) (trI_length T d.args) hma' d.kind 0) rfl ?_
      rintro _ _ ⟨s2, rfl, hs2, rfl⟩
      refine TOps.assign rfl rfl ?_
      refine TOps.next ?_
      refine Tri.seq (Tri.region ?_)
      refine TOps.field0 rfl Try.underlying54 rfl rfl ti3 rfl rfl rfl ?_
      refine TOps.load1 rfl ti3 (Rd.fld (r9.le bld_le) 0 rfl) rfl ?_
      refine TOps.eqlI rfl rfl rfl ?_
      refine TOps.move rfl rfl ?_
      refine' TOps.andB 4 rfl rfl rfl rfl (fun hg18_3 => ?_) ?_; rotate_left
      · have hg18_3' := hg18_3
        try simp only [decide_eq_true_eq, decide_eq_false_iff_not, Bool.and_eq_true, Bool.or_eq_true, Bool.not_eq_true', Bool.and_eq_false_iff, Bool.or_eq_false_iff, Bool.not_eq_false', Int.not_lt, Int.not_le, ne_eq, Decidable.not_not] at hg18_3'
        refine TOps.strip 3 true rfl rfl hg18_3 rfl ?_
        refine TOps.move rfl rfl ?_
        refine TOps.len rfl Try.underlying52 rfl ?_
        refine TOps.rem (r := ((d.args.length % 2 : Nat) : Int)) rfl rfl (by omega) rfl rfl ?_
        refine TOps.eqlI rfl rfl rfl ?_
        refine TOps.blk rfl (by repeat (first | exact Ext.refl _ | refine Ext.cons rfl ?_)) (by repeat (first | exact Le.refl _ | apply Le.drop))
      refine TOps.next ?_
      refine Tri.cond rfl (fun hc6 => ?_) (fun hc6 => ?_)
      · try simp only [decide_eq_true_eq, decide_eq_false_iff_not, Bool.and_eq_true, Bool.or_eq_true, Bool.not_eq_true', Bool.and_eq_false_iff, Bool.or_eq_false_iff, Bool.not_eq_false', Int.not_lt, Int.not_le, ne_eq, Decidable.not_not, Option.isSome_iff_ne_none, Option.isNone_iff_eq_none] at hc6
        have hdk : d.kind = 5 := hc6.1
        have hev : d.args.length % 2 = 0 := by have := hc6.2; omega
        have hs2' : s2.ok (NS ++ [⟨5, 0, trI T d.args⟩]) := by rw [hdk] at hs2; exact hs2
        rw [hdk]
        obtain rfl : ((NS ++ [⟨5, 0, trI T d.args⟩] ++ [⟨1, 0, [(v : Int) + NS.length]⟩], (v : Int) + (NS.length + 1 : Nat)) : List Nd × Int) = RR := by rw [← hRR]; unfold dualN; rw [if_neg hc2, if_neg hc3, if_neg hc4, if_neg hc5, if_pos ⟨hdk, hev⟩]
        refine Tri.region ?_
        refine TOps.move rfl rfl ?_
        refine TOps.move rfl rfl ?_
        refine TOps.buildSlice (vs := [_]) (xs := [_]) Try.underlying52 ti3 ⟨rfl, rfl, trivial⟩ rfl rfl rfl rfl rfl rfl (by decide) rfl (fun b62 => ?_)
        refine TOps.call (vs := [_, _, _, _]) Try.call30 ⟨rfl, rfl, rfl, rfl, trivial⟩ (add1_g (args := [(v : Int) + NS.length]) (L := NS.length + 1) hs2' (by simp) ⟨by omega, by omega⟩ (by simp; omega) rfl (fun _ => ⟨_, rfl⟩) 1 0) rfl ?_
        rintro _ _ ⟨s3, rfl, hs3, rfl⟩
        refine TOps.assign rfl rfl ?_
        obtain ⟨s2, hs2e⟩ : ∃ s2, s3 = s2 := ⟨_, rfl⟩
        rw [hs2e] at hs3 ⊢
        have hs2 := hs3
        refine TOps.fin ?_
        refine Nrm.unB ?_
        refine Nrm.mid s2 hs2 (by exact ⟨rfl, rfl, rfl, rfl, rfl, rfl, rfl, rfl, trivial⟩) (by first | exact Le.refl _ | exact Le.drop (Le.refl _))
      try simp only [decide_eq_true_eq, decide_eq_false_iff_not, Bool.and_eq_true, Bool.or_eq_true, Bool.not_eq_true', Bool.and_eq_false_iff, Bool.or_eq_false_iff, Bool.not_eq_false', Int.not_lt, Int.not_le, ne_eq, Decidable.not_not, Option.isSome_iff_ne_none, Option.isNone_iff_eq_none] at hc6
      obtain rfl : ((NS ++ [⟨d.kind, 0, trI T d.args⟩], (v : Int) + NS.length) : List Nd × Int) = RR := by rw [← hRR]; unfold dualN; rw [if_neg hc2, if_neg hc3, if_neg hc4, if_neg hc5, if_neg (fun h => by rcases hc6 with e | e; exact e h.1; have := h.2; omega)]
      refine Tri.fin ?_
      refine Nrm.unB ?_
      refine Nrm.mid s2 hs2 (by exact ⟨rfl, rfl, rfl, rfl, rfl, rfl, rfl, rfl, trivial⟩) (by first | exact Le.refl _ | exact Le.drop (Le.refl _))
    refine Tri.region ?_
    subst hHB
    refine TOps.move rfl rfl ?_
    refine TOps.move rfl rfl ?_
    refine TOps.buildSlice (vs := [_]) (xs := [_]) Try.underlying52 ti3 ⟨rfl, rfl, trivial⟩ rfl rfl rfl rfl rfl rfl (by decide) rfl (fun b94 => ?_)
    refine TOps.appendLit rfl rfl Try.underlying52 ti3 rfl (fun _ _ => Upd.bld (Upd.there Upd.here)) rfl (by rw [List.length_map, hTl, Nat.mul_one]) rfl (by omega) (by omega) (by simp) rfl (fun b94 cap94 => ?_)
    refine TOps.assign rfl rfl ?_
    refine TOps.fin ?_
    refine Nrm.body (y, some b94, cap94) (by rw [hst]; exact ⟨hmid, fun _ => ⟨_, rfl⟩⟩) ⟨rfl, rfl, rfl, rfl, rfl, rfl, rfl, trivial⟩ (by rw [hst]; dsimp only; rw [ints_snoc]; exact bld_mono (List.sublist_cons_self _ _))
  obtain ⟨z1, ta, tc⟩ := u
  obtain ⟨hz1, hta⟩ := hp
  dsimp only at hz1 hta hM hS ⊢
  obtain ⟨tb, rfl⟩ := hta (by omega)
  obtain ⟨hTl, hSl⟩ := dualS_len (v := v) (nodes := F.nodes) F.nodes.length
  refine Nrm.of hS hM ?_
  refine Nrm.next ?_
  refine Tri.seq (Tri.region ?_)
  refine TOps.move rfl rfl ?_
  refine TOps.move rfl rfl ?_
  first | refine TOps.fieldB 2 rfl Try.underlying24 rfl rfl ti3 rfl rfl rfl ?_ | refine TOps.fieldN 2 rfl Try.underlying24 rfl rfl ti3 rfl rfl rfl ?_
  refine TOps.load1 rfl ti3 (Rd.fld (r1.le (Le.trans bld_le (Le.drop (Le.drop (Le.refl _))))) 2 rfl) rfl ?_
  refine TOps.indexAddr (off' := tp) rfl rfl Try.underlying52 ti3 (by omega) (by omega) (by simp) rfl ?_
  refine TOps.load1 rfl ti3 (Rd.le (Rd.lit (List.Mem.head _) (ints_get (by omega))) bld_le) rfl ?_
  refine TOps.call (vs := [_, _]) Try.call42 ⟨rfl, rfl, trivial⟩ (done_g hz1 (by omega) _) rfl ?_
  rintro _ _ ⟨a1, c1, NN, rfl, hN2, rfl⟩
  refine TOps.extract rfl rfl rfl ?_
  refine TOps.extract rfl rfl rfl ?_
  refine TOps.storeN rfl rfl ti24 rfl rfl (Upd.app (Upd.there Upd.here) NN) (by simp) ?_
  refine TOps.assign rfl rfl ?_
  refine TOps.next ?_
  refine Tri.ret2 (H' := NN ++ H) Try.results24 (fun _ _ h => h) (.cellN rfl rfl ti24 (Rd.all (List.mem_append_right _ (List.Mem.tail _ (List.Mem.head _)))) rfl) (.tmp rfl) (sub_app (List.Sublist.cons _ (List.Sublist.cons _ s1))) ⟨a1, c1, NN, ?_, ?_, rfl⟩
  · rw [hpE, hpF]; rfl
  · rw [hpF]; exact hN2
end Go.Proofs
