import Derived.Test.YthfbpnfaklaopaaG11
import Derived.Test.YthfbpnfaklaopaaGL75
namespace Go.Proofs
open Go.GL
set_option linter.unusedVariables false
set_option linter.unusedSimpArgs false
set_option maxHeartbeats 2000000 in
theorem rdual_g {H : List Ent} {fv : Value} {F : Fm} (hF : RF H fv F) (hg : F.Good) :
    Gives Try.prog 27 [fv] H (NewV (sizedF F.dualB) (.int .i64 ((sizedE F.dualB).getD 0)) H) := by
  obtain ⟨na, off, cap, nsp, rfl, hN⟩ := hF
  have g0 := hg.v0; have g1 := hg.v1; have g2 := hg.n1; have gt := hg.topLt
  obtain ⟨v, hv⟩ := Int.eq_ofNat_of_zero_le g0
  have hvn : F.vars.toNat = v := by omega
  obtain ⟨tp, htp⟩ := Int.eq_ofNat_of_zero_le gt.1
  have hpb : F.dualB = ⟨(v : Int), (dualS v F.nodes F.nodes.length).2, (dualS v F.nodes F.nodes.length).1.getD tp 0⟩ := by unfold Fm.dualB; rw [hvn, hv, htp, Int.toNat_natCast]
  rw [hpb, hv, htp]
  refine Gives.enter Try.func27 rfl (by exact Try.ntmps27) rfl ?_
  refine Tri.seq (Tri.region ?_)
  refine TOps.boxN rfl ti24 rfl rfl (fun b1 => ?_)
  refine TOps.hide (fun H1 l1 s1 r1 => ?_)
  replace hN := hN.le l1
  refine TOps.alloc ti24 rfl (fun b2 => ?_)
  refine TOps.assign rfl rfl ?_
  refine TOps.next ?_
  refine Tri.seq (Tri.region ?_)
  refine TOps.field0 rfl Try.underlying24 rfl rfl ti3 rfl rfl rfl ?_
  refine TOps.load1 rfl ti3 (by first | exact Rd.lit (by repeat (first | exact List.Mem.head _ | apply List.Mem.tail)) rfl | (repeat (first | assumption | exact Rd.fld (by assumption) 0 rfl | apply Rd.up))) rfl ?_
  refine TOps.buildStruct (vs := [(0, _)]) (xs := [_, _, _]) [(0, 1), (1, 1), (2, 1)] Try.underlying24 ti24 (fun w => by simp) ⟨rfl, rfl, trivial⟩ rfl rfl ?_
  refine TOps.alloc ti24 rfl (fun b4 => ?_)
  refine TOps.storeN rfl rfl ti24 rfl rfl (by repeat (first | exact Upd.here | apply Upd.there)) (by first | decide | (simp; done) | (simp; omega)) ?_
  refine TOps.next ?_
  refine Tri.seq (Tri.region ?_)
  refine TOps.field0 rfl Try.underlying24 rfl rfl ti3 rfl rfl rfl ?_
  refine TOps.load1 rfl ti3 (by first | exact Rd.lit (by repeat (first | exact List.Mem.head _ | apply List.Mem.tail)) rfl | (repeat (first | assumption | exact Rd.fld (by assumption) 0 rfl | apply Rd.up))) rfl ?_
  first | refine TOps.fieldB 1 rfl Try.underlying24 rfl rfl ti22 rfl rfl rfl ?_ | refine TOps.fieldN 1 rfl Try.underlying24 rfl rfl ti22 rfl rfl rfl ?_
  refine TOps.load1 rfl ti22 (by first | exact Rd.lit (by repeat (first | exact List.Mem.head _ | apply List.Mem.tail)) rfl | (repeat (first | assumption | exact Rd.fld (by assumption) 1 rfl | apply Rd.up))) rfl ?_
  refine TOps.len rfl Try.underlying22 rfl ?_
  refine TOps.add (r := ((v + F.nodes.length : Nat) : Int)) rfl rfl (by rw [wrapI (by omega) (by omega)]; omega) rfl ?_
  refine TOps.make1 rfl rfl Try.underlying52 ti3 (by omega) (by omega) (by omega) rfl (fun b22 => ?_)
  refine TOps.assign rfl rfl ?_
  refine TOps.le (H' := bld 24 54 b4 v [] 0 BS.new (row (some b22) 3 1 (v + F.nodes.length) (List.replicate (v + F.nodes.length) (.int .i64 0)) :: row (some b2) 24 3 1 [.int .i64 0, slV none 0 0 0, .int .i64 0] :: H1)) (Le.trans (b := row (some b4) 24 3 1 [.int .i64 v, slV none 0 0 0, .int .i64 0] :: row (some b22) 3 1 (v + F.nodes.length) (List.replicate (v + F.nodes.length) (.int .i64 0)) :: row (some b2) 24 3 1 [.int .i64 0, slV none 0 0 0, .int .i64 0] :: H1) (Sp.le (by repeat (first | exact Sp.refl _ | exact Sp.sub (by assumption) | refine Sp.cons (by repeat (first | exact Pick.here | apply Pick.there)) ?_ | exact Sp.nil | apply Sp.skip))) bld_new) ?_
  refine TOps.next ?_
  refine Tri.seq ?_
  refine Tri.seq (Tri.region ?_)
  refine TOps.field0 rfl Try.underlying24 rfl rfl ti3 rfl rfl rfl ?_
  refine TOps.load1 rfl ti3 (Rd.fld (r1.le (Le.trans bld_le (Le.drop (Le.drop (Le.refl _))))) 0 rfl) rfl ?_
  refine TOps.move rfl rfl ?_
  refine TOps.next ?_
  refine Tri.range (X := Unit) (fun x k => [(1, .pointer (some ⟨b1, 0, none⟩)), (2, .pointer (some ⟨b2, 0, none⟩)), (4, .pointer (some ⟨b4, 0, none⟩)), (5, slV (some b22) 0 (v + F.nodes.length) (v + F.nodes.length))]) (fun x k => bld 24 54 b4 v [] 0 BS.new (row (some b22) 3 1 (v + F.nodes.length) (ints (tabI (evI k) (v + F.nodes.length))) :: row (some b2) 24 3 1 [.int .i64 0, slV none 0 0 0, .int .i64 0] :: H1)) (fun x k => True) (by omega) rfl rfl rfl (fun _ _ => ⟨rfl, rfl, rfl, rfl⟩) () trivial ⟨rfl, rfl, rfl, rfl, trivial⟩ (by rw [show evI 0 = [] from rfl, tabI_nil]; simp only [ints, List.map_replicate]; exact Le.refl _) (fun k x hlt hp => ?_) (fun x ac wc hp hS hM => ?_)
  · skip
    refine Tri.seq (Tri.region ?_)
    refine TOps.move rfl rfl ?_
    refine TOps.assign rfl rfl ?_
    refine TOps.next ?_
    refine Tri.region ?_
    refine TOps.move rfl rfl ?_
    refine TOps.move rfl rfl ?_
    refine TOps.move rfl rfl ?_
    refine TOps.indexAddr (off' := k) rfl rfl Try.underlying52 ti3 (by omega) (by omega) (by simp) rfl ?_
    refine TOps.store1 rfl rfl ti3 rfl rfl (Upd.bld Upd.here) (by rw [List.length_map, tabI_length (by rw [evI_length]; omega)]; omega) ?_
    refine TOps.fin ?_
    refine Nrm.body () trivial ⟨rfl, rfl, rfl, rfl, rfl, rfl, trivial⟩ (by
      have e1 := tabI_set (P := evI k) (m := v + F.nodes.length) (x := (k : Int)) (by rw [evI_length]; omega)
      rw [evI_length] at e1
      rw [evI_succ, ← e1, ints_set]
      exact Le.refl _)
  refine Nrm.of hS hM ?_
  refine Nrm.next ?_
  refine Tri.seq ?_
  refine Tri.seq (Tri.region ?_)
  first | refine TOps.fieldB 1 rfl Try.underlying24 rfl rfl ti22 rfl rfl rfl ?_ | refine TOps.fieldN 1 rfl Try.underlying24 rfl rfl ti22 rfl rfl rfl ?_
  refine TOps.load1 rfl ti22 (Rd.fld (r1.le (Le.trans bld_le (Le.drop (Le.drop (Le.refl _))))) 1 rfl) rfl ?_
  refine TOps.len rfl Try.underlying22 rfl ?_
  refine TOps.move rfl rfl ?_
  refine TOps.next ?_
  refine Tri.range (X := BS) (fun u k => [(1, .pointer (some ⟨b1, 0, none⟩)), (2, .pointer (some ⟨b2, 0, none⟩)), (4, .pointer (some ⟨b4, 0, none⟩)), (5, slV (some b22) 0 (v + F.nodes.length) (v + F.nodes.length)), (34, slV na off F.nodes.length cap nsp)]) (fun u k => bld 24 54 b4 v (dualS v F.nodes k).2 0 u (row (some b22) 3 1 (v + F.nodes.length) (ints (tabI (dualS v F.nodes k).1 (v + F.nodes.length))) :: row (some b2) 24 3 1 [.int .i64 0, slV none 0 0 0, .int .i64 0] :: H1)) (fun u k => u.ok (dualS v F.nodes k).2) (by omega) rfl rfl rfl (fun _ _ => ⟨rfl, rfl, rfl, rfl⟩) BS.new BS.new_ok ⟨rfl, rfl, rfl, rfl, rfl, trivial⟩ (Le.refl _) (fun k u hlt hp => ?_) (fun u ac wc hp hS hM => ?_)
  · skip
    have hz1 := hp
    obtain ⟨z1, hz1e⟩ : ∃ z1, u = z1 := ⟨_, rfl⟩
    rw [hz1e] at hz1 ⊢
    obtain ⟨nb, aa, ao, acap, asp, rfl, rfl, hn⟩ := hN.at hlt
    have hfi := hg.fits k hlt
    rw [hv] at hfi
    have hal := hfi.len
    obtain ⟨hTl, hSl⟩ := dualS_len (v := v) (nodes := F.nodes) k
    have hst : dualS v F.nodes (k + 1) = ((dualS v F.nodes k).1 ++ [(dualN v (dualS v F.nodes k).1 F.nodes[k] (dualS v F.nodes k).2).2], (dualN v (dualS v F.nodes k).1 F.nodes[k] (dualS v F.nodes k).2).1) := by rw [dualS]; simp [hlt]
    obtain ⟨d, hd⟩ : ∃ d, F.nodes[k] = d := ⟨_, rfl⟩
    obtain ⟨T, hT⟩ : ∃ T, (dualS v F.nodes k).1 = T := ⟨_, rfl⟩
    obtain ⟨NS, hNS⟩ : ∃ NS, (dualS v F.nodes k).2 = NS := ⟨_, rfl⟩
    rw [hd, hT, hNS] at hst
    rw [hd] at hn hfi hal
    rw [hT] at hTl
    rw [hNS] at hSl hz1
    rw [hT, hNS]
    obtain ⟨RR, hRR⟩ : ∃ RR, dualN v T d NS = RR := ⟨_, rfl⟩
    rw [hRR] at hst
    have hin : ∀ a ∈ d.args, 0 ≤ a ∧ a.toNat < v + k := fun a ha => by have := hfi.args a ha; omega
    have hk01 := hfi.kk.1
    have hk4 := hfi.kk.2.1
    refine Tri.seq (Tri.region ?_)
    refine TOps.move rfl rfl ?_
    refine TOps.indexAddr (off' := off + k * 3) rfl rfl Try.underlying22 ti54 (by omega) (by omega) (by simp) rfl ?_
    refine TOps.loadN (vs := [.int .i64 d.kind, .int .i64 d.k, slV aa ao d.args.length acap asp]) rfl ti54 (hn.cells.le (Le.trans bld_le (Le.drop (Le.drop (Le.refl _))))) rfl rfl ?_
    refine TOps.alloc ti54 rfl (fun b8 => ?_)
    refine TOps.assign rfl rfl ?_
    refine TOps.storeN rfl rfl ti54 rfl rfl (by repeat (first | exact Upd.here | apply Upd.there)) (by first | decide | (simp; done) | (simp; omega)) ?_
    refine TOps.le bld_in ?_
    obtain ⟨HB, hHB⟩ : ∃ HB, HB = row (some b8) 54 3 1 [.int .i64 d.kind, .int .i64 d.k, slV aa ao d.args.length acap asp] :: row (some b22) 3 1 (v + F.nodes.length) (ints (tabI T (v + F.nodes.length))) :: row (some b2) 24 3 1 [.int .i64 0, slV none 0 0 0, .int .i64 0] :: H1 := ⟨_, rfl⟩
    have r8 : Rd HB b8 0 [.int .i64 d.kind, .int .i64 d.k, slV aa ao d.args.length acap asp] := by rw [hHB]; exact Rd.all (by repeat (first | exact List.Mem.head _ | apply List.Mem.tail))
    have hargs : RInts HB aa ao d.args asp := by rw [hHB]; exact RdS.le hn.args (Le.drop (Le.drop (Le.drop (Le.refl _))))
    have rp : RInts HB (some b22) 0 (tabI T (v + F.nodes.length)) := by rw [hHB]; exact RdS.ofRowS (by repeat (first | exact List.Mem.head _ | apply List.Mem.tail))
    have htT : (tabI T (v + F.nodes.length)).length = v + F.nodes.length := tabI_length (by omega)
    refine TOps.le (H' := bld 24 54 b4 v NS 0 z1 HB) (by rw [hHB]; exact Le.refl _) ?_
    refine TOps.next ?_
    refine Tri.seq (Tri.region ?_)
    refine TOps.assign rfl rfl ?_
    refine TOps.next ?_
    refine Tri.seq ?_
    refine Tri.seq (Tri.region ?_)
    first | refine TOps.fieldB 2 rfl Try.underlying54 rfl rfl ti52 rfl rfl rfl ?_ | refine TOps.fieldN 2 rfl Try.underlying54 rfl rfl ti52 rfl rfl rfl ?_
    refine TOps.load1 rfl ti52 (Rd.fld (r8.le bld_le) 2 rfl) rfl ?_
    refine TOps.len rfl Try.underlying52 rfl ?_
    refine TOps.move rfl rfl ?_
    refine TOps.next ?_
    refine Tri.range (X := Option Nat × Nat) (fun q j => [(1, .pointer (some ⟨b1, 0, none⟩)), (2, .pointer (some ⟨b2, 0, none⟩)), (4, .pointer (some ⟨b4, 0, none⟩)), (5, slV (some b22) 0 (v + F.nodes.length) (v + F.nodes.length)), (34, slV (some nb) off F.nodes.length cap none), (35, .int .i64 F.nodes.length), (36, .int .i64 k), (7, .int .i64 k), (8, .pointer (some ⟨b8, 0, none⟩)), (9, slV q.1 0 j q.2), (42, slV aa ao d.args.length acap asp)]) (fun q j => row q.1 3 1 q.2 (ints (trI T (d.args.take j))) :: bld 24 54 b4 v NS 0 z1 HB) (fun q j => j ≠ 0 → ∃ b, q.1 = some b) (by omega) rfl rfl rfl (fun _ _ => ⟨rfl, rfl, rfl, rfl⟩) (none, 0) (fun h => absurd rfl h) ⟨rfl, rfl, rfl, rfl, rfl, rfl, rfl, rfl, rfl, rfl, rfl, trivial⟩ Le.addNil (fun j q hltj hpj => ?_) (fun q ac wc hpj hS hM => ?_)
    · skip
      obtain ⟨ab, rfl, rfl, ha⟩ := hargs.at hltj
      obtain ⟨hb0, hb1⟩ := hin _ (List.getElem_mem hltj)
      obtain ⟨_, e1, _, hpk⟩ := rp.at (i := d.args[j].toNat) (by omega)
      obtain rfl := Option.some.inj e1
      have gp : (tabI T (v + F.nodes.length))[d.args[j].toNat]'(by omega) = T.getD d.args[j].toNat 0 := by rw [← tabI_getD (m := v + F.nodes.length) (by omega), List.getD_eq_getElem?_getD, List.getElem?_eq_getElem (by omega)]; rfl
      rw [gp] at hpk
      refine Tri.seq (Tri.region ?_)
      refine TOps.indexAddr (off' := ao + j) rfl rfl Try.underlying52 ti3 (by omega) (by omega) (by simp) rfl ?_
      refine TOps.load1 rfl ti3 (Rd.le ha (Le.drop bld_le)) rfl ?_
      refine TOps.assign rfl rfl ?_
      refine TOps.next ?_
      refine Tri.region ?_
      refine TOps.move rfl rfl ?_
      refine TOps.move rfl rfl ?_
      refine TOps.move rfl rfl ?_
      refine TOps.indexAddr (off' := 0 + d.args[j].toNat) rfl rfl Try.underlying52 ti3 (by omega) (by omega) (by simp) rfl ?_
      refine TOps.load1 rfl ti3 (Rd.le hpk (Le.drop bld_le)) rfl ?_
      refine TOps.buildSlice (vs := [_]) (xs := [_]) Try.underlying52 ti3 ⟨rfl, rfl, trivial⟩ rfl rfl rfl rfl rfl rfl (by decide) rfl (fun b53 => ?_)
      refine TOps.appendLit rfl rfl Try.underlying52 ti3 rfl (fun _ _ => Upd.here) rfl (by simp [trI_length]; omega) rfl (by omega) (by omega) (by simp) rfl (fun b54 cap54 => ?_)
      refine TOps.assign rfl rfl ?_
      refine TOps.fin ?_
      refine Nrm.body (some b54, cap54) (fun _ => ⟨_, rfl⟩) ⟨rfl, rfl, rfl, rfl, rfl, rfl, rfl, rfl, rfl, rfl, rfl, rfl, rfl, trivial⟩ (Le.rowEq (by rw [trI_take_succ hltj, ints_snoc]))
    rw [List.take_length] at hM
    have hq := hpj
    obtain ⟨qa, qac⟩ := q
    dsimp only at hM hS hq
    refine Nrm.of hS hM ?_
    refine Nrm.next ?_
    refine Tri.seq (Tri.region ?_)
    refine TOps.le bld_in ?_
    obtain ⟨HB2, hHB2⟩ : ∃ HB2, HB2 = row qa 3 1 qac (ints (trI T d.args)) :: HB := ⟨_, rfl⟩
    refine TOps.le (H' := bld 24 54 b4 v NS 0 z1 HB2) (by rw [hHB2]; exact Le.refl _) ?_
    have lB2 : Le HB2 HB := by rw [hHB2]; exact Le.drop (Le.refl _)
    have ra : RInts HB2 qa 0 (trI T d.args) := by rw [hHB2]; exact RdS.ofRowA (by repeat (first | exact List.Mem.head _ | apply List.Mem.tail)) (fun h => (hq (by intro h0; exact h (by rw [List.eq_nil_of_length_eq_zero h0]; rfl))))
    have r8b := r8.le lB2
    refine TOps.assign rfl rfl ?_
    refine TOps.next ?_
    refine Tri.seqMid (X := BS) (fun y => [(1, .pointer (some ⟨b1, 0, none⟩)), (2, .pointer (some ⟨b2, 0, none⟩)), (4, .pointer (some ⟨b4, 0, none⟩)), (5, slV (some b22) 0 (v + F.nodes.length) (v + F.nodes.length)), (34, slV (some nb) off F.nodes.length cap none), (35, .int .i64 F.nodes.length), (36, .int .i64 k), (7, .int .i64 k), (12, .int .i64 RR.2)]) (fun y => bld 24 54 b4 v RR.1 0 y HB) (fun y => y.ok RR.1) ?_ (fun y hmid => ?_)
    · skip
      refine Tri.seq (Tri.region ?_)
      refine TOps.field0 rfl Try.underlying54 rfl rfl ti3 rfl rfl rfl ?_
      refine TOps.load1 rfl ti3 (Rd.fld (r8b.le bld_le) 0 rfl) rfl ?_
      refine TOps.next ?_
      refine Tri.block ?_
      refine Tri.seq (Tri.region ?_)
      refine TOps.eqlI rfl rfl rfl ?_
      refine TOps.assign rfl rfl ?_
      refine TOps.next ?_
      refine Tri.cond rfl (fun hc1 => ?_) (fun hc1 => ?_)
      · try simp only [decide_eq_true_eq, decide_eq_false_iff_not, Bool.and_eq_true, Bool.or_eq_true, Bool.not_eq_true', Bool.and_eq_false_iff, Bool.or_eq_false_iff, Bool.not_eq_false', Int.not_lt, Int.not_le, ne_eq, Decidable.not_not, Option.isSome_iff_ne_none, Option.isNone_iff_eq_none] at hc1
        obtain rfl : ((NS ++ [⟨0, 1 - d.k, []⟩], (v : Int) + NS.length) : List Nd × Int) = RR := by rw [← hRR]; unfold dualN; rw [if_pos hc1]
        have hk0' := hk01 hc1
        refine Tri.region ?_
        refine TOps.loadN rfl ti24 bld_rd rfl rfl ?_
        first | refine TOps.fieldB 1 rfl Try.underlying54 rfl rfl ti3 rfl rfl rfl ?_ | refine TOps.fieldN 1 rfl Try.underlying54 rfl rfl ti3 rfl rfl rfl ?_
        refine TOps.load1 rfl ti3 (Rd.fld (r8b.le bld_le) 1 rfl) rfl ?_
        refine TOps.sub rfl rfl (wrapI (by omega) (by omega)) rfl ?_
        refine TOps.call (vs := [_, _, _, _]) Try.call38 ⟨rfl, rfl, rfl, rfl, trivial⟩ (radd0_g (args := []) hz1 rfl ⟨by omega, by omega⟩ (by omega) rfl (by simp) (.inl rfl) 0 (1 - d.k)) rfl ?_
        rintro _ _ ⟨s2, rfl, hs2, rfl⟩
        refine TOps.move rfl rfl ?_
        refine TOps.extract rfl rfl rfl ?_
        refine TOps.extract rfl rfl rfl ?_
        refine TOps.storeBld rfl rfl ti24 (by simp) rfl ?_
        refine TOps.assign rfl rfl ?_
        refine TOps.fin ?_
        refine Nrm.unB ?_
        refine Nrm.mid s2 hs2 (by exact ⟨rfl, rfl, rfl, rfl, rfl, rfl, rfl, rfl, rfl, trivial⟩) (by rw [hHB2]; first | exact bld_mono (List.sublist_cons_self _ _) | exact Le.trans (Le.drop (Le.refl _)) (bld_mono (List.sublist_cons_self _ _)))
      try simp only [decide_eq_true_eq, decide_eq_false_iff_not, Bool.and_eq_true, Bool.or_eq_true, Bool.not_eq_true', Bool.and_eq_false_iff, Bool.or_eq_false_iff, Bool.not_eq_false', Int.not_lt, Int.not_le, ne_eq, Decidable.not_not, Option.isSome_iff_ne_none, Option.isNone_iff_eq_none] at hc1
      refine Tri.seq (Tri.region ?_)
      refine TOps.eqlI rfl rfl rfl ?_
      refine TOps.assign rfl rfl ?_
      refine TOps.next ?_
      refine Tri.cond rfl (fun hc2 => ?_) (fun hc2 => ?_)
      · try simp only [decide_eq_true_eq, decide_eq_false_iff_not, Bool.and_eq_true, Bool.or_eq_true, Bool.not_eq_true', Bool.and_eq_false_iff, Bool.or_eq_false_iff, Bool.not_eq_false', Int.not_lt, Int.not_le, ne_eq, Decidable.not_not, Option.isSome_iff_ne_none, Option.isNone_iff_eq_none] at hc2
        obtain rfl : ((NS ++ [⟨3, 0, trI T d.args⟩], (v : Int) + NS.length) : List Nd × Int) = RR := by rw [← hRR]; unfold dualN; rw [if_neg hc1, if_pos hc2]
        refine Tri.region ?_
        refine TOps.loadN rfl ti24 bld_rd rfl rfl ?_
        refine TOps.move rfl rfl ?_
        refine TOps.call (vs := [_, _, _, _]) Try.call38 ⟨rfl, rfl, rfl, rfl, trivial⟩ (radd0_g hz1 rfl ⟨by omega, by omega⟩ (by omega) (trI_length T d.args) (by omega) ra 3 0) rfl ?_
        rintro _ _ ⟨s2, rfl, hs2, rfl⟩
        refine TOps.move rfl rfl ?_
        refine TOps.extract rfl rfl rfl ?_
        refine TOps.extract rfl rfl rfl ?_
        refine TOps.storeBld rfl rfl ti24 (by simp) rfl ?_
        refine TOps.assign rfl rfl ?_
        refine TOps.fin ?_
        refine Nrm.unB ?_
        refine Nrm.mid s2 hs2 (by exact ⟨rfl, rfl, rfl, rfl, rfl, rfl, rfl, rfl, rfl, trivial⟩) (by rw [hHB2]; first | exact bld_mono (List.sublist_cons_self _ _) | exact Le.trans (Le.drop (Le.refl _)) (bld_mono (List.sublist_cons_self _ _)))
      try simp only [decide_eq_true_eq, decide_eq_false_iff_not, Bool.and_eq_true, Bool.or_eq_true, Bool.not_eq_true', Bool.and_eq_false_iff, Bool.or_eq_false_iff, Bool.not_eq_false', Int.not_lt, Int.not_le, ne_eq, Decidable.not_not, Option.isSome_iff_ne_none, Option.isNone_iff_eq_none] at hc2
      refine Tri.seq (Tri.region ?_)
      refine TOps.eqlI rfl rfl rfl ?_
      refine TOps.assign rfl rfl ?_
      refine TOps.next ?_
      refine Tri.cond rfl (fun hc3 => ?_) (fun hc3 => ?_)
      · try simp only [decide_eq_true_eq, decide_eq_false_iff_not, Bool.and_eq_true, Bool.or_eq_true, Bool.not_eq_true', Bool.and_eq_false_iff, Bool.or_eq_false_iff, Bool.not_eq_false', Int.not_lt, Int.not_le, ne_eq, Decidable.not_not, Option.isSome_iff_ne_none, Option.isNone_iff_eq_none] at hc3
        obtain rfl : ((NS ++ [⟨2, 0, trI T d.args⟩], (v : Int) + NS.length) : List Nd × Int) = RR := by rw [← hRR]; unfold dualN; rw [if_neg hc1, if_neg hc2, if_pos hc3]
        refine Tri.region ?_
        refine TOps.loadN rfl ti24 bld_rd rfl rfl ?_
        refine TOps.move rfl rfl ?_
        refine TOps.call (vs := [_, _, _, _]) Try.call38 ⟨rfl, rfl, rfl, rfl, trivial⟩ (radd0_g hz1 rfl ⟨by omega, by omega⟩ (by omega) (trI_length T d.args) (by omega) ra 2 0) rfl ?_
        rintro _ _ ⟨s2, rfl, hs2, rfl⟩
        refine TOps.move rfl rfl ?_
        refine TOps.extract rfl rfl rfl ?_
        refine TOps.extract rfl rfl rfl ?_
        refine TOps.storeBld rfl rfl ti24 (by simp) rfl ?_
        refine TOps.assign rfl rfl ?_
        refine TOps.fin ?_
        refine Nrm.unB ?_
        refine Nrm.mid s2 hs2 (by exact ⟨rfl, rfl, rfl, rfl, rfl, rfl, rfl, rfl, rfl, trivial⟩) (by rw [hHB2]; first | exact bld_mono (List.sublist_cons_self _ _) | exact Le.trans (Le.drop (Le.refl _)) (bld_mono (List.sublist_cons_self _ _)))
      try simp only [decide_eq_true_eq, decide_eq_false_iff_not, Bool.and_eq_true, Bool.or_eq_true, Bool.not_eq_true', Bool.and_eq_false_iff, Bool.or_eq_false_iff, Bool.not_eq_false', Int.not_lt, Int.not_le, ne_eq, Decidable.not_not, Option.isSome_iff_ne_none, Option.isNone_iff_eq_none] at hc3
      refine Tri.seq (Tri.region ?_)
      refine TOps.eqlI rfl rfl rfl ?_
      refine TOps.assign rfl rfl ?_
      refine TOps.next ?_
      refine Tri.cond rfl (fun hc4 => ?_) (fun hc4 => ?_)
      · try simp only [decide_eq_true_eq, decide_eq_false_iff_not, Bool.and_eq_true, Bool.or_eq_true, Bool.not_eq_true', Bool.and_eq_false_iff, Bool.or_eq_false_iff, Bool.not_eq_false', Int.not_lt, Int.not_le, ne_eq, Decidable.not_not, Option.isSome_iff_ne_none, Option.isNone_iff_eq_none] at hc4
        obtain rfl : ((NS ++ [⟨4, d.args.length - d.k + 1, trI T d.args⟩], (v : Int) + NS.length) : List Nd × Int) = RR := by rw [← hRR]; unfold dualN; rw [if_neg hc1, if_neg hc2, if_neg hc3, if_pos hc4]
        have hk4' := hk4 hc4
        refine Tri.region ?_
        refine TOps.loadN rfl ti24 bld_rd rfl rfl ?_
        refine TOps.move rfl rfl ?_
        refine TOps.len rfl Try.underlying52 rfl ?_
        first | refine TOps.fieldB 1 rfl Try.underlying54 rfl rfl ti3 rfl rfl rfl ?_ | refine TOps.fieldN 1 rfl Try.underlying54 rfl rfl ti3 rfl rfl rfl ?_
        refine TOps.load1 rfl ti3 (Rd.fld (r8b.le bld_le) 1 rfl) rfl ?_
        refine TOps.sub rfl rfl (wrapI (by omega) (by omega)) rfl ?_
        refine TOps.add rfl rfl (wrapI (by omega) (by omega)) rfl ?_
        refine TOps.move rfl rfl ?_
        refine TOps.call (vs := [_, _, _, _]) Try.call38 ⟨rfl, rfl, rfl, rfl, trivial⟩ (radd0_g hz1 rfl ⟨by omega, by omega⟩ (by omega) (trI_length T d.args) (by omega) ra 4 _) rfl ?_
        rintro _ _ ⟨s2, rfl, hs2, rfl⟩
        refine TOps.move rfl rfl ?_
        refine TOps.extract rfl rfl rfl ?_
        refine TOps.extract rfl rfl rfl ?_
        refine TOps.storeBld rfl rfl ti24 (by simp) rfl ?_
        refine TOps.assign rfl rfl ?_
        refine TOps.fin ?_
        refine Nrm.unB ?_
        refine Nrm.mid s2 hs2 (by exact ⟨rfl, rfl, rfl, rfl, rfl, rfl, rfl, rfl, rfl, trivial⟩) (by rw [hHB2]; first | exact bld_mono (List.sublist_cons_self _ _) | exact Le.trans (Le.drop (Le.refl _)) (bld_mono (List.sublist_cons_self _ _)))
      try simp only [decide_eq_true_eq, decide_eq_false_iff_not, Bool.and_eq_true, Bool.or_eq_true, Bool.not_eq_true', Bool.and_eq_false_iff, Bool.or_eq_false_iff, Bool.not_eq_false', Int.not_lt, Int.not_le, ne_eq, Decidable.not_not, Option.isSome_iff_ne_none, Option.isNone_iff_eq_none] at hc4
      refine Tri.seq (Tri.region ?_)
      refine TOps.loadN rfl ti24 bld_rd rfl rfl ?_
      refine TOps.field0 rfl Try.underlying54 rfl rfl ti3 rfl rfl rfl ?_
      refine TOps.load1 rfl ti3 (Rd.fld (r8b.le bld_le) 0 rfl) rfl ?_
      refine TOps.move rfl rfl ?_
      refine TOps.call (vs := [_, _, _, _]) Try.call38 ⟨rfl, rfl, rfl, rfl, trivial⟩ (radd0_g hz1 rfl ⟨by omega, by omega⟩ (by omega) (trI_length T d.args) (by omega) ra d.kind 0) rfl ?_
      rintro _ _ ⟨s2, rfl, hs2, rfl⟩
      refine TOps.move rfl rfl ?_
      refine TOps.extract rfl rfl rfl ?_
      refine TOps.extract rfl rfl rfl ?_
      refine TOps.storeBld rfl rfl ti24 (by simp) rfl ?_
      refine TOps.assign rfl rfl ?_
      refine TOps.next ?_
      refine Tri.seq (Tri.region ?_)
      refine TOps.field0 rfl Try.underlying54 rfl rfl ti3 rfl rfl rfl ?_
      refine TOps.load1 rfl ti3 (Rd.fld (r8b.le bld_le) 0 rfl) rfl ?_
      refine TOps.eqlI rfl rfl rfl ?_
      refine TOps.move rfl rfl ?_
      refine' TOps.andB 4 rfl rfl rfl rfl (fun hg20_3 => ?_) ?_; rotate_left
      · have hg20_3' := hg20_3
        try simp only [decide_eq_true_eq, decide_eq_false_iff_not, Bool.and_eq_true, Bool.or_eq_true, Bool.not_eq_true', Bool.and_eq_false_iff, Bool.or_eq_false_iff, Bool.not_eq_false', Int.not_lt, Int.not_le, ne_eq, Decidable.not_not] at hg20_3'
        refine TOps.strip 3 true rfl rfl hg20_3 rfl ?_
        refine TOps.move rfl rfl ?_
        refine TOps.len rfl Try.underlying52 rfl ?_
        refine TOps.rem (r := ((d.args.length % 2 : Nat) : Int)) rfl rfl (by omega) rfl rfl ?_
        refine TOps.eqlI rfl rfl rfl ?_
        refine TOps.blk rfl (by repeat (first | exact Ext.refl _ | refine Ext.cons rfl ?_)) (by repeat (first | exact Le.refl _ | apply Le.drop))
      refine TOps.next ?_
      refine Tri.cond rfl (fun hc5 => ?_) (fun hc5 => ?_)
      · try simp only [decide_eq_true_eq, decide_eq_false_iff_not, Bool.and_eq_true, Bool.or_eq_true, Bool.not_eq_true', Bool.and_eq_false_iff, Bool.or_eq_false_iff, Bool.not_eq_false', Int.not_lt, Int.not_le, ne_eq, Decidable.not_not, Option.isSome_iff_ne_none, Option.isNone_iff_eq_none] at hc5
        have hdk : d.kind = 5 := hc5.1
        have hev : d.args.length % 2 = 0 := by have := hc5.2; omega
        have hs2' : s2.ok (NS ++ [⟨5, 0, trI T d.args⟩]) := by rw [hdk] at hs2; exact hs2
        rw [hdk]
        obtain rfl : ((NS ++ [⟨5, 0, trI T d.args⟩] ++ [⟨1, 0, [(v : Int) + NS.length]⟩], (v : Int) + (NS.length + 1 : Nat)) : List Nd × Int) = RR := by rw [← hRR]; unfold dualN; rw [if_neg hc1, if_neg hc2, if_neg hc3, if_neg hc4, if_pos ⟨hdk, hev⟩]
        refine Tri.region ?_
        refine TOps.loadN rfl ti24 bld_rd rfl rfl ?_
        refine TOps.move rfl rfl ?_
        refine TOps.buildSlice (vs := [_]) (xs := [_]) Try.underlying52 ti3 ⟨rfl, rfl, trivial⟩ rfl rfl rfl rfl rfl rfl (by decide) rfl (fun b78 => ?_)
        refine TOps.call (vs := [_, _, _, _]) Try.call38 ⟨rfl, rfl, rfl, rfl, trivial⟩ (radd1_g (args := [(v : Int) + NS.length]) (L := NS.length + 1) hs2' (by simp) ⟨by omega, by omega⟩ (by simp; omega) rfl (by simp) (fun _ => ⟨_, rfl⟩) 1 0) rfl ?_
        rintro _ _ ⟨s3, rfl, hs3, rfl⟩
        refine TOps.move rfl rfl ?_
        refine TOps.extract rfl rfl rfl ?_
        refine TOps.extract rfl rfl rfl ?_
        refine TOps.storeBld rfl rfl ti24 (by simp) rfl ?_
        refine TOps.assign rfl rfl ?_
        obtain ⟨s2, hs2e⟩ : ∃ s2, s3 = s2 := ⟨_, rfl⟩
        rw [hs2e] at hs3 ⊢
        have hs2 := hs3
        refine TOps.fin ?_
        refine Nrm.unB ?_
        refine Nrm.mid s2 hs2 (by exact ⟨rfl, rfl, rfl, rfl, rfl, rfl, rfl, rfl, rfl, trivial⟩) (by rw [hHB2]; first | exact bld_mono (List.sublist_cons_self _ _) | exact Le.trans (Le.drop (Le.refl _)) (bld_mono (List.sublist_cons_self _ _)))
      try simp only [decide_eq_true_eq, decide_eq_false_iff_not, Bool.and_eq_true, Bool.or_eq_true, Bool.not_eq_true', Bool.and_eq_false_iff, Bool.or_eq_false_iff, Bool.not_eq_false', Int.not_lt, Int.not_le, ne_eq, Decidable.not_not, Option.isSome_iff_ne_none, Option.isNone_iff_eq_none] at hc5
      obtain rfl : ((NS ++ [⟨d.kind, 0, trI T d.args⟩], (v : Int) + NS.length) : List Nd × Int) = RR := by rw [← hRR]; unfold dualN; rw [if_neg hc1, if_neg hc2, if_neg hc3, if_neg hc4, if_neg (fun h => by rcases hc5 with e | e; exact e h.1; have := h.2; omega)]
      refine Tri.fin ?_
      refine Nrm.unB ?_
      refine Nrm.mid s2 hs2 (by exact ⟨rfl, rfl, rfl, rfl, rfl, rfl, rfl, rfl, rfl, trivial⟩) (by rw [hHB2]; first | exact bld_mono (List.sublist_cons_self _ _) | exact Le.trans (Le.drop (Le.refl _)) (bld_mono (List.sublist_cons_self _ _)))
    refine Tri.region ?_
    subst hHB
    refine TOps.move rfl rfl ?_
    refine TOps.field0 rfl Try.underlying24 rfl rfl ti3 rfl rfl rfl ?_
    refine TOps.load1 rfl ti3 (Rd.fld (r1.le (Le.trans bld_le (Le.drop (Le.drop (Le.drop (Le.refl _)))))) 0 rfl) rfl ?_
    refine TOps.move rfl rfl ?_
    refine TOps.add (r := ((v + k : Nat) : Int)) rfl rfl (by rw [wrapI (by omega) (by omega)]; omega) rfl ?_
    refine TOps.move rfl rfl ?_
    refine TOps.indexAddr (off' := v + k) rfl rfl Try.underlying52 ti3 (by omega) (by omega) (by omega) rfl ?_
    refine TOps.store1 rfl rfl ti3 rfl rfl (Upd.bld (Upd.there Upd.here)) (by rw [List.length_map, htT]; omega) ?_
    refine TOps.fin ?_
    refine Nrm.body y (by rw [hst]; exact hmid) ⟨rfl, rfl, rfl, rfl, rfl, rfl, rfl, trivial⟩ (by
      have e1 := tabI_set (P := T) (m := v + F.nodes.length) (x := RR.2) (by omega)
      rw [hTl] at e1
      rw [hst]
      dsimp only
      rw [← e1, ints_set]
      exact bld_mono (List.sublist_cons_self _ _))
  obtain ⟨hTl, hSl⟩ := dualS_len (v := v) (nodes := F.nodes) F.nodes.length
  obtain ⟨JN, hJN⟩ : ∃ JN, (dualS v F.nodes F.nodes.length).2 = JN := ⟨_, rfl⟩
  rw [hJN] at hp hM hSl ⊢
  refine Nrm.of hS hM ?_
  refine Nrm.next ?_
  refine Tri.seq (Tri.region ?_)
  refine TOps.move rfl rfl ?_
  first | refine TOps.fieldB 2 rfl Try.underlying24 rfl rfl ti3 rfl rfl rfl ?_ | refine TOps.fieldN 2 rfl Try.underlying24 rfl rfl ti3 rfl rfl rfl ?_
  refine TOps.load1 rfl ti3 (Rd.fld (r1.le (Le.trans bld_le (Le.drop (Le.drop (Le.refl _))))) 2 rfl) rfl ?_
  refine TOps.indexAddr (off' := tp) rfl rfl Try.underlying52 ti3 (by omega) (by omega) (by simp) rfl ?_
  refine TOps.load1 (v := .int .i64 ((dualS v F.nodes F.nodes.length).1.getD tp 0)) rfl ti3 (Rd.le (Rd.lit (List.Mem.head _) (by rw [← tabI_getD (m := v + F.nodes.length) (by omega)]; exact ints_get (by rw [tabI_length (by omega)]; omega))) bld_le) rfl ?_
  first | refine TOps.fieldB 2 rfl Try.underlying24 rfl rfl ti3 rfl rfl rfl ?_ | refine TOps.fieldN 2 rfl Try.underlying24 rfl rfl ti3 rfl rfl rfl ?_
  refine TOps.store1 rfl rfl ti3 rfl rfl Upd.here (by simp) ?_
  refine TOps.le (H' := bld 24 54 b4 v JN ((dualS v F.nodes F.nodes.length).1.getD tp 0) u (row (some b22) 3 1 (v + F.nodes.length) (ints (tabI (dualS v F.nodes F.nodes.length).1 (v + F.nodes.length))) :: row (some b2) 24 3 1 [.int .i64 0, slV none 0 0 0, .int .i64 0] :: H1)) (Le.refl _) ?_
  refine TOps.next ?_
  refine Tri.seq (Tri.region ?_)
  refine TOps.loadN rfl ti24 bld_rd rfl rfl ?_
  refine TOps.call (vs := [_]) Try.call39 ⟨rfl, trivial⟩ (rsized_g (N := row u.oa 54 3 u.cap (nsCells JN u.qs) :: u.N) (F := ⟨(v : Int), JN, (dualS v F.nodes F.nodes.length).1.getD tp 0⟩) (RNodes.ofA (E := 54) (sz := 3) (cap := u.cap) (List.Mem.head _) (hp.a.le (Le.drop (Le.refl _))) hp.o) (by dsimp only; omega)) rfl ?_
  rintro _ _ ⟨a2, c2, rfl, hN2, rfl⟩
  refine TOps.extract rfl rfl rfl ?_
  refine TOps.extract rfl rfl rfl ?_
  refine TOps.storeN rfl rfl ti24 rfl rfl (Upd.bld (Upd.there Upd.here)) (by simp) ?_
  refine TOps.assign rfl rfl ?_
  refine TOps.next ?_
  refine Tri.ret2 (H' := (row u.oa 54 3 u.cap (nsCells JN u.qs) :: u.N) ++ H) Try.results27 (fun _ _ h => h) (.cellN rfl rfl ti24 (Rd.all (bld_sub.subset (List.Mem.tail _ (List.Mem.head _)))) rfl) (.tmp rfl) ?_ ⟨a2, c2, row u.oa 54 3 u.cap (nsCells JN u.qs) :: u.N, rfl, hN2, rfl⟩
  exact Le.drop (Le.sub (List.Sublist.cons_cons _ ((List.Sublist.refl _).append (List.Sublist.cons _ (List.Sublist.cons _ s1)))))
end Go.Proofs
