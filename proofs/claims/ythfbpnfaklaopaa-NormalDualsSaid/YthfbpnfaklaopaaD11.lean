import Derived.Test.YthfbpnfaklaopaaC11
namespace Go.Proofs
open Go.GL
set_option linter.unusedVariables false
set_option linter.unusedSimpArgs false
theorem ints_snoc (l : List Int) (a : Int) : ints (l ++ [a]) = ints l ++ [Value.int .i64 a] := List.map_append
set_option maxHeartbeats 2000000 in
theorem push_g {H : List Ent} {fv : Value} {F : Fm} (hF : RFC H fv F) (hk : F.ok) :
    Gives Try.prog 13 [fv] H (NewN 47 F.pushF F.pushE H) := by
  have hF0 := hF.r
  obtain ⟨na, off, cap, nsp, rfl, hN⟩ := hF
  refine Gives.enter Try.func13 rfl (by exact Try.ntmps13) rfl ?_
  refine Tri.seq (Tri.region ?_)
  refine TOps.boxN rfl ti24 rfl rfl (fun b1 => ?_)
  refine TOps.hide (fun H1 l1 s1 r1 => ?_)
  replace hF0 := hF0.le l1; replace hN := hN.le l1
  refine TOps.alloc ti24 rfl (fun b2 => ?_)
  refine TOps.assign rfl rfl ?_
  refine TOps.next ?_
  refine Tri.seq ?_
  refine Tri.seq (Tri.region ?_)
  refine TOps.loadN rfl ti24 (by first | exact Rd.all (by repeat (first | exact List.Mem.head _ | apply List.Mem.tail)) | (repeat (first | assumption | apply Rd.up))) rfl rfl ?_
  refine TOps.call (vs := [_]) Try.call21 ⟨rfl, trivial⟩ (check_g (hF0.le (Le.drop (Le.refl _))) hk) rfl ?_
  rintro _ _ ⟨rfl, rfl⟩
  refine TOps.assign rfl rfl ?_
  refine TOps.next ?_
  refine Tri.seq (Tri.region ?_)
  refine TOps.move rfl rfl ?_
  refine TOps.neqNil rfl Try.underlying28 rfl ?_
  refine TOps.next ?_
  refine Tri.cond rfl (fun hc1 => ?_) (fun hc1 => ?_)
  · try simp only [decide_eq_true_eq, decide_eq_false_iff_not, Bool.and_eq_true, Bool.or_eq_true, Bool.not_eq_true', Bool.and_eq_false_iff, Bool.or_eq_false_iff, Bool.not_eq_false', Int.not_lt, Int.not_le, ne_eq, Decidable.not_not, Option.isSome_iff_ne_none, Option.isNone_iff_eq_none] at hc1
    obtain ⟨er, her⟩ := Option.ne_none_iff_exists'.1 hc1
    refine Tri.seq (Tri.region ?_)
    refine TOps.buildStruct (vs := []) (xs := [_, _, _]) [(0, 1), (1, 1), (2, 1)] Try.underlying24 ti24 (fun w => by simp) trivial rfl rfl ?_
    refine TOps.move rfl rfl ?_
    refine TOps.storeN rfl rfl ti24 rfl rfl (by repeat (first | exact Upd.here | apply Upd.there)) (by first | decide | (simp; done) | (simp; omega)) ?_
    refine TOps.assign rfl rfl ?_
    refine TOps.next ?_
    refine Tri.ret2 (H' := H) Try.results13 (fun _ _ h => h) (.cellN rfl rfl ti24 (Rd.all (by repeat (first | exact List.Mem.head _ | apply List.Mem.tail))) rfl) (.tmp rfl) (Le.drop l1) ⟨none, 0, [], ?_, ?_, rfl⟩
    · rw [show F.pushE = F.err from by unfold Fm.pushE; rw [her], show F.pushF = Fm.zero from by unfold Fm.pushF; rw [her]]; rfl
    · rw [show F.pushF = Fm.zero from by unfold Fm.pushF; rw [her]]; exact .inl rfl
  try simp only [decide_eq_true_eq, decide_eq_false_iff_not, Bool.and_eq_true, Bool.or_eq_true, Bool.not_eq_true', Bool.and_eq_false_iff, Bool.or_eq_false_iff, Bool.not_eq_false', Int.not_lt, Int.not_le, ne_eq, Decidable.not_not, Option.isSome_iff_ne_none, Option.isNone_iff_eq_none] at hc1
  have he : F.err = none := by simpa using hc1
  have hg := (Fm.good_iff F).1 he
  have g0 := hg.v0; have g1 := hg.v1; have g2 := hg.n1; have gt := hg.topLt
  obtain ⟨v, hv⟩ := Int.eq_ofNat_of_zero_le g0
  have hvn : F.vars.toNat = v := by omega
  obtain ⟨tp, htp⟩ := Int.eq_ofNat_of_zero_le gt.1
  have hpE : F.pushE = sizedE F.pushB.trim := by unfold Fm.pushE; rw [he]
  have hpF : F.pushF = sizedF F.pushB.trim := by unfold Fm.pushF; rw [he]
  have hfit := pushB_fit hg
  have hpb : F.pushB = ⟨(v : Int), (pushS v F.nodes F.nodes.length).2.2, (pushS v F.nodes F.nodes.length).1.getD tp 0⟩ := by unfold Fm.pushB; rw [hvn, hv, htp, Int.toNat_natCast]
  rw [hpb] at hpE hpF hfit
  have hal16 : ∀ i (hi : i < F.nodes.length), F.nodes[i].args.length ≤ 16 := fun i hi => (hg.fits i hi).len
  rw [hv, htp] at r1
  refine Tri.fin ?_
  refine Nrm.next ?_
  refine Tri.seq (Tri.region ?_)
  refine TOps.field0 rfl Try.underlying24 rfl rfl ti3 rfl rfl rfl ?_
  refine TOps.load1 rfl ti3 (by first | exact Rd.lit (by repeat (first | exact List.Mem.head _ | apply List.Mem.tail)) rfl | (repeat (first | assumption | exact Rd.fld (by assumption) 0 rfl | apply Rd.up))) rfl ?_
  refine TOps.buildStruct (vs := [(0, _)]) (xs := [_, _, _]) [(0, 1), (1, 1), (2, 1)] Try.underlying24 ti24 (fun w => by simp) ⟨rfl, rfl, trivial⟩ rfl rfl ?_
  refine TOps.buildStruct (vs := [(0, _)]) (xs := [_, _, _]) [(0, 3)] Try.underlying61 ti61 (fun w => by simp) ⟨rfl, rfl, trivial⟩ rfl rfl ?_
  refine TOps.boxN rfl ti61 rfl rfl (fun b24 => ?_)
  refine TOps.assign rfl rfl ?_
  refine TOps.next ?_
  refine Tri.seq (Tri.region ?_)
  refine TOps.assign rfl rfl ?_
  refine TOps.assign rfl rfl ?_
  refine TOps.next ?_
  refine Tri.seq ?_
  refine Tri.seq (Tri.region ?_)
  refine TOps.field0 rfl Try.underlying24 rfl rfl ti3 rfl rfl rfl ?_
  refine TOps.load1 rfl ti3 (by first | exact Rd.lit (by repeat (first | exact List.Mem.head _ | apply List.Mem.tail)) rfl | (repeat (first | assumption | exact Rd.fld (by assumption) 0 rfl | apply Rd.up))) rfl ?_
  refine TOps.move rfl rfl ?_
  refine TOps.next ?_
  refine Tri.range (X := Option Nat × Nat) (fun z k => [(1, .pointer (some ⟨b1, 0, none⟩)), (2, .pointer (some ⟨b2, 0, none⟩)), (5, .pointer (some ⟨b24, 0, none⟩)), (6, slV z.1 0 k z.2), (7, slV none 0 0 0)]) (fun z k => row z.1 3 1 z.2 (ints (evI k)) :: row (some b24) 61 3 1 [.int .i64 v, slV none 0 0 0, .int .i64 0] :: row (some b2) 24 3 1 [.int .i64 0, slV none 0 0 0, .int .i64 0] :: H1) (fun z k => k ≠ 0 → ∃ b, z.1 = some b) (by omega) rfl rfl rfl (fun _ _ => ⟨rfl, rfl, rfl, rfl⟩) (none, 0) (fun h => absurd rfl h) ⟨rfl, rfl, rfl, rfl, rfl, trivial⟩ Le.addNil (fun k z hlt hp => ?_) (fun z ac wc hp hS hM => ?_)
  · skip
    refine Tri.seq (Tri.region ?_)
    refine TOps.move rfl rfl ?_
    refine TOps.assign rfl rfl ?_
    refine TOps.next ?_
    refine Tri.region ?_
    refine TOps.move rfl rfl ?_
    refine TOps.move rfl rfl ?_
    refine TOps.buildSlice (vs := [_]) (xs := [_]) Try.underlying52 ti3 ⟨rfl, rfl, trivial⟩ rfl rfl rfl rfl rfl rfl (by decide) rfl (fun b32 => ?_)
    refine TOps.appendLit rfl rfl Try.underlying52 ti3 rfl (fun _ _ => Upd.here) rfl (by simp [evI_length]) rfl (by omega) (by omega) (by simp) rfl (fun b33 cap33 => ?_)
    refine TOps.assign rfl rfl ?_
    refine TOps.fin ?_
    refine Nrm.body (some b33, cap33) (fun _ => ⟨_, rfl⟩) ⟨rfl, rfl, rfl, rfl, rfl, rfl, rfl, trivial⟩ (Le.rowEq (by rw [evI_succ, ints_snoc]))
  have hz := hp
  refine Nrm.of hS hM ?_
  refine Nrm.next ?_
  refine Tri.seq ?_
  refine Tri.seq (Tri.region ?_)
  refine TOps.field0 rfl Try.underlying24 rfl rfl ti3 rfl rfl rfl ?_
  refine TOps.load1 rfl ti3 (by first | exact Rd.lit (by repeat (first | exact List.Mem.head _ | apply List.Mem.tail)) rfl | (repeat (first | assumption | exact Rd.fld (by assumption) 0 rfl | apply Rd.up))) rfl ?_
  refine TOps.move rfl rfl ?_
  refine TOps.next ?_
  refine Tri.range (X := (Option Nat × Nat) × BS) (fun y k => [(1, .pointer (some ⟨b1, 0, none⟩)), (2, .pointer (some ⟨b2, 0, none⟩)), (5, .pointer (some ⟨b24, 0, none⟩)), (6, slV z.1 0 v z.2), (7, slV y.1.1 0 k y.1.2)]) (fun y k => bld 61 54 b24 v (ngN k) 0 y.2 (row y.1.1 3 1 y.1.2 (ints (ngI v k)) :: row z.1 3 1 z.2 (ints (evI v)) :: row (some b2) 24 3 1 [.int .i64 0, slV none 0 0 0, .int .i64 0] :: H1)) (fun y k => y.2.ok (ngN k) ∧ (k ≠ 0 → ∃ b, y.1.1 = some b)) (by omega) rfl rfl rfl (fun _ _ => ⟨rfl, rfl, rfl, rfl⟩) ((none, 0), BS.new) ⟨BS.new_ok, fun h => absurd rfl h⟩ ⟨rfl, rfl, rfl, rfl, rfl, trivial⟩ (Le.trans (Le.addNil (E := 3) (sz := 1)) (Le.trans (b := row (some b24) 61 3 1 [.int .i64 v, slV none 0 0 0, .int .i64 0] :: row none 3 1 0 [] :: row z.1 3 1 z.2 (ints (evI v)) :: row (some b2) 24 3 1 [.int .i64 0, slV none 0 0 0, .int .i64 0] :: H1) (Sp.le (by repeat (first | exact Sp.refl _ | exact Sp.sub (by assumption) | refine Sp.cons (by repeat (first | exact Pick.here | apply Pick.there)) ?_ | exact Sp.nil | apply Sp.skip))) bld_new)) (fun k y hlt hp => ?_) (fun y ac wc hp hS hM => ?_)
  · skip
    refine Tri.seq (Tri.region ?_)
    refine TOps.move rfl rfl ?_
    refine TOps.assign rfl rfl ?_
    refine TOps.next ?_
    refine Tri.region ?_
    refine TOps.move rfl rfl ?_
    refine TOps.move rfl rfl ?_
    refine TOps.move rfl rfl ?_
    refine TOps.buildSlice (vs := [_]) (xs := [_]) Try.underlying52 ti3 ⟨rfl, rfl, trivial⟩ rfl rfl rfl rfl rfl rfl (by decide) rfl (fun b43 => ?_)
    refine TOps.call (vs := [_, _, _, _]) Try.call30 ⟨rfl, rfl, rfl, rfl, trivial⟩ (add1_g (args := [(k : Int)]) (L := k) hp.1 (ngN_length k) ⟨by omega, by omega⟩ (by rw [ngN_length]; omega) rfl (fun _ => ⟨_, rfl⟩) 1 0) rfl ?_
    rintro _ _ ⟨s2, rfl, hs2, rfl⟩
    refine TOps.buildSlice (vs := [_]) (xs := [_]) Try.underlying52 ti3 ⟨rfl, rfl, trivial⟩ rfl rfl rfl rfl rfl rfl (by decide) rfl (fun b45 => ?_)
    refine TOps.appendLit rfl rfl Try.underlying52 ti3 rfl (fun _ _ => Upd.bld Upd.here) rfl (by simp [ngI_length]) rfl (by omega) (by omega) (by simp) rfl (fun b46 cap46 => ?_)
    refine TOps.assign rfl rfl ?_
    refine TOps.fin ?_
    refine Nrm.body ((some b46, cap46), s2) ⟨by rw [ngN_succ]; exact hs2, fun _ => ⟨_, rfl⟩⟩ ⟨rfl, rfl, rfl, rfl, rfl, rfl, rfl, trivial⟩ (by rw [ngN_succ, ngI_succ, ints_snoc]; exact Le.refl _)
  refine Nrm.of hS hM ?_
  refine Nrm.next ?_
  refine Tri.seq ?_
  refine Tri.seq (Tri.region ?_)
  first | refine TOps.fieldB 1 rfl Try.underlying24 rfl rfl ti22 rfl rfl rfl ?_ | refine TOps.fieldN 1 rfl Try.underlying24 rfl rfl ti22 rfl rfl rfl ?_
  refine TOps.load1 rfl ti22 (Rd.fld (r1.le (Le.trans bld_le (Le.drop (Le.drop (Le.drop (Le.refl _)))))) 1 rfl) rfl ?_
  refine TOps.len rfl Try.underlying22 rfl ?_
  refine TOps.move rfl rfl ?_
  refine TOps.next ?_
  refine Tri.range (X := BS × (Option Nat × Nat) × (Option Nat × Nat)) (fun u k => [(1, .pointer (some ⟨b1, 0, none⟩)), (2, .pointer (some ⟨b2, 0, none⟩)), (5, .pointer (some ⟨b24, 0, none⟩)), (6, slV u.2.1.1 0 (v + k) u.2.1.2), (7, slV u.2.2.1 0 (v + k) u.2.2.2), (49, slV na off F.nodes.length cap nsp)]) (fun u k => bld 61 54 b24 v (pushS v F.nodes k).2.2 0 u.1 (row u.2.2.1 3 1 u.2.2.2 (ints (pushS v F.nodes k).2.1) :: row u.2.1.1 3 1 u.2.1.2 (ints (pushS v F.nodes k).1) :: row (some b2) 24 3 1 [.int .i64 0, slV none 0 0 0, .int .i64 0] :: H1)) (fun u k => u.1.ok (pushS v F.nodes k).2.2 ∧ (v + k ≠ 0 → ∃ b, u.2.1.1 = some b) ∧ (v + k ≠ 0 → ∃ b, u.2.2.1 = some b)) (by omega) rfl rfl rfl (fun _ _ => ⟨rfl, rfl, rfl, rfl⟩) (y.2, z, y.1) ⟨hp.1, hz, hp.2⟩ ⟨rfl, rfl, rfl, rfl, rfl, rfl, trivial⟩ (Le.refl _) (fun k u hlt hp => ?_) (fun u ac wc hp hS hM => ?_)
  · skip
    obtain ⟨z1, ⟨pa, pc⟩, na2, nc⟩ := u
    obtain ⟨hz1, hpa, hna⟩ := hp
    dsimp only at hz1 hpa hna ⊢
    obtain ⟨nb, aa, ao, acap, asp, rfl, rfl, hn, hcap⟩ := hN.at hlt
    have hfi := hg.fits k hlt
    rw [hv] at hfi
    have hal := hfi.len
    obtain ⟨hPl, hNl, hSl⟩ := pushS_len (v := v) hal16 k (by omega)
    have hst : pushS v F.nodes (k + 1) = ((pushS v F.nodes k).1 ++ [(pushN v (pushS v F.nodes k).1 (pushS v F.nodes k).2.1 F.nodes[k] (pushS v F.nodes k).2.2).2.1], (pushS v F.nodes k).2.1 ++ [(pushN v (pushS v F.nodes k).1 (pushS v F.nodes k).2.1 F.nodes[k] (pushS v F.nodes k).2.2).2.2], (pushN v (pushS v F.nodes k).1 (pushS v F.nodes k).2.1 F.nodes[k] (pushS v F.nodes k).2.2).1) := by rw [pushS]; simp [hlt]
    obtain ⟨d, hd⟩ : ∃ d, F.nodes[k] = d := ⟨_, rfl⟩
    obtain ⟨P, hPe⟩ : ∃ P, (pushS v F.nodes k).1 = P := ⟨_, rfl⟩
    obtain ⟨N, hNe⟩ : ∃ N, (pushS v F.nodes k).2.1 = N := ⟨_, rfl⟩
    obtain ⟨NS, hNS⟩ : ∃ NS, (pushS v F.nodes k).2.2 = NS := ⟨_, rfl⟩
    rw [hd, hPe, hNe, hNS] at hst
    rw [hd] at hn hfi hal hcap
    rw [hPe] at hPl
    rw [hNe] at hNl
    rw [hNS] at hSl hz1
    rw [hPe, hNe, hNS]
    obtain ⟨RR, hRR⟩ : ∃ RR, pushN v P N d NS = RR := ⟨_, rfl⟩
    rw [hRR] at hst
    have hin : ∀ a ∈ d.args, 0 ≤ a ∧ a.toNat < v + k := fun a ha => by have := hfi.args a ha; omega
    have har := hfi.ar
    have hne : d.kind ≠ 0 → d.args ≠ [] := by
      intro h0 h1
      rw [h1] at har
      unfold argsB at har
      rw [if_neg h0] at har
      split at har <;> simp at har
    have gP : ∀ i, i < v + k → ∃ h : i < P.length, P.getD i 0 = P[i] := fun i hi => ⟨by omega, by simp [hPl, hi]⟩
    have gN : ∀ i, i < v + k → ∃ h : i < N.length, N.getD i 0 = N[i] := fun i hi => ⟨by omega, by simp [hNl, hi]⟩
    refine Tri.seq (Tri.region ?_)
    refine TOps.indexAddr (off' := off + k * 3) rfl rfl Try.underlying22 ti54 (by omega) (by omega) (by simp) rfl ?_
    refine TOps.loadN (vs := [.int .i64 d.kind, .int .i64 d.k, slV aa ao d.args.length acap asp]) rfl ti54 (hn.cells.le (Le.trans bld_le (Le.drop (Le.drop (Le.drop (Le.refl _)))))) rfl rfl ?_
    refine TOps.alloc ti54 rfl (fun b11 => ?_)
    refine TOps.storeN rfl rfl ti54 rfl rfl (by repeat (first | exact Upd.here | apply Upd.there)) (by first | decide | (simp; done) | (simp; omega)) ?_
    refine TOps.le bld_in ?_
    obtain ⟨HB, hHB⟩ : ∃ HB, HB = row (some b11) 54 3 1 [.int .i64 d.kind, .int .i64 d.k, slV aa ao d.args.length acap asp] :: row na2 3 1 nc (ints N) :: row pa 3 1 pc (ints P) :: row (some b2) 24 3 1 [.int .i64 0, slV none 0 0 0, .int .i64 0] :: H1 := ⟨_, rfl⟩
    have r11 : Rd HB b11 0 [.int .i64 d.kind, .int .i64 d.k, slV aa ao d.args.length acap asp] := by rw [hHB]; exact Rd.all (by repeat (first | exact List.Mem.head _ | apply List.Mem.tail))
    have hargs : RInts HB aa ao d.args asp := by rw [hHB]; exact RdS.le hn.args (Le.drop (Le.drop (Le.drop (Le.drop (Le.refl _)))))
    have rp : RInts HB pa 0 P := by rw [hHB]; exact RdS.ofRowA (by repeat (first | exact List.Mem.head _ | apply List.Mem.tail)) (fun h => hpa (by intro h0; rw [h0] at hPl; exact h (by rw [List.eq_nil_of_length_eq_zero hPl]; rfl)))
    have rn : RInts HB na2 0 N := by rw [hHB]; exact RdS.ofRowA (by repeat (first | exact List.Mem.head _ | apply List.Mem.tail)) (fun h => hna (by intro h0; rw [h0] at hNl; exact h (by rw [List.eq_nil_of_length_eq_zero hNl]; rfl)))
    refine TOps.le (H' := bld 61 54 b24 v NS 0 z1 HB) (by rw [hHB]; exact Le.refl _) ?_
    refine TOps.next ?_
    refine Tri.seq (Tri.region ?_)
    refine TOps.assign rfl rfl ?_
    refine TOps.assign rfl rfl ?_
    refine TOps.next ?_
    refine Tri.seqMid (X := BS) (fun y => [(1, .pointer (some ⟨b1, 0, none⟩)), (2, .pointer (some ⟨b2, 0, none⟩)), (5, .pointer (some ⟨b24, 0, none⟩)), (6, slV pa 0 (v + k) pc), (7, slV na2 0 (v + k) nc), (49, slV (some nb) off F.nodes.length cap none), (50, .int .i64 F.nodes.length), (51, .int .i64 k), (12, .int .i64 RR.2.1), (13, .int .i64 RR.2.2)]) (fun y => bld 61 54 b24 v RR.1 0 y HB) (fun y => y.ok RR.1) ?_ (fun y hmid => ?_)
    · skip
      refine Tri.seq (Tri.region ?_)
      refine TOps.field0 rfl Try.underlying54 rfl rfl ti3 rfl rfl rfl ?_
      refine TOps.load1 rfl ti3 (Rd.fld (r11.le bld_le) 0 rfl) rfl ?_
      refine TOps.next ?_
      refine Tri.block ?_
      refine Tri.seq (Tri.region ?_)
      refine TOps.eqlI rfl rfl rfl ?_
      refine TOps.assign rfl rfl ?_
      refine TOps.next ?_
      refine Tri.cond rfl (fun hc2 => ?_) (fun hc2 => ?_)
      · try simp only [decide_eq_true_eq, decide_eq_false_iff_not, Bool.and_eq_true, Bool.or_eq_true, Bool.not_eq_true', Bool.and_eq_false_iff, Bool.or_eq_false_iff, Bool.not_eq_false', Int.not_lt, Int.not_le, ne_eq, Decidable.not_not, Option.isSome_iff_ne_none, Option.isNone_iff_eq_none] at hc2
        obtain rfl : ((NS ++ [⟨0, d.k, []⟩] ++ [⟨0, 1 - d.k, []⟩], (v : Int) + NS.length, (v : Int) + (NS.length + 1 : Nat)) : P3) = RR := by rw [← hRR]; unfold pushN p2; rw [if_neg (by omega), if_pos hc2]
        have hk01 := hfi.kk.1 hc2
        refine Tri.seq (Tri.region ?_)
        refine TOps.move rfl rfl ?_
        first | refine TOps.fieldB 1 rfl Try.underlying54 rfl rfl ti3 rfl rfl rfl ?_ | refine TOps.fieldN 1 rfl Try.underlying54 rfl rfl ti3 rfl rfl rfl ?_
        refine TOps.load1 rfl ti3 (Rd.fld (r11.le bld_le) 1 rfl) rfl ?_
        refine TOps.call (vs := [_, _, _, _]) Try.call30 ⟨rfl, rfl, rfl, rfl, trivial⟩ (add0_g hz1 rfl ⟨by omega, by omega⟩ (by omega) 0 d.k) rfl ?_
        rintro _ _ ⟨s1', rfl, hs1', rfl⟩
        refine TOps.assign rfl rfl ?_
        refine TOps.next ?_
        refine Tri.region ?_
        refine TOps.move rfl rfl ?_
        first | refine TOps.fieldB 1 rfl Try.underlying54 rfl rfl ti3 rfl rfl rfl ?_ | refine TOps.fieldN 1 rfl Try.underlying54 rfl rfl ti3 rfl rfl rfl ?_
        refine TOps.load1 rfl ti3 (Rd.fld (r11.le bld_le) 1 rfl) rfl ?_
        refine TOps.sub rfl rfl (wrapI (by omega) (by omega)) rfl ?_
        refine TOps.call (vs := [_, _, _, _]) Try.call30 ⟨rfl, rfl, rfl, rfl, trivial⟩ (add0_g (L := NS.length + 1) hs1' (by simp) ⟨by omega, by omega⟩ (by simp; omega) 0 (1 - d.k)) rfl ?_
        rintro _ _ ⟨s2, rfl, hs2, rfl⟩
        refine TOps.assign rfl rfl ?_
        refine TOps.fin ?_
        refine Nrm.unB ?_
        refine Nrm.mid s2 hs2 (by first | exact ⟨rfl, rfl, rfl, rfl, rfl, rfl, rfl, rfl, rfl, rfl, trivial⟩ | exact hfalse.elim) (by first | exact Le.refl _ | exact hfalse.elim)
      try simp only [decide_eq_true_eq, decide_eq_false_iff_not, Bool.and_eq_true, Bool.or_eq_true, Bool.not_eq_true', Bool.and_eq_false_iff, Bool.or_eq_false_iff, Bool.not_eq_false', Int.not_lt, Int.not_le, ne_eq, Decidable.not_not, Option.isSome_iff_ne_none, Option.isNone_iff_eq_none] at hc2
      refine Tri.seq (Tri.region ?_)
      refine TOps.eqlI rfl rfl rfl ?_
      refine TOps.assign rfl rfl ?_
      refine TOps.next ?_
      refine Tri.cond rfl (fun hc3 => ?_) (fun hc3 => ?_)
      · try simp only [decide_eq_true_eq, decide_eq_false_iff_not, Bool.and_eq_true, Bool.or_eq_true, Bool.not_eq_true', Bool.and_eq_false_iff, Bool.or_eq_false_iff, Bool.not_eq_false', Int.not_lt, Int.not_le, ne_eq, Decidable.not_not, Option.isSome_iff_ne_none, Option.isNone_iff_eq_none] at hc3
        have hlen1 : d.args.length = 1 := by rw [hc3] at har; unfold argsB at har; simp at har; omega
        obtain ⟨a0, ha0⟩ : ∃ a0, d.args = [a0] := List.length_eq_one_iff.1 hlen1
        obtain ⟨h00, h01⟩ := hin a0 (by rw [ha0]; exact List.mem_cons_self)
        obtain rfl : ((NS ++ [⟨3, 0, [N.getD a0.toNat 0]⟩] ++ [⟨3, 0, [P.getD a0.toNat 0]⟩], (v : Int) + NS.length, (v : Int) + (NS.length + 1 : Nat)) : P3) = RR := by rw [← hRR]; unfold pushN p2 trI; rw [if_neg (by omega), if_neg hc2, if_pos hc3, ha0]; rfl
        obtain ⟨ab, haa, hsp0, hxa⟩ := hargs.at (i := 0) (by omega)
        obtain ⟨pb, hpbe, _, hxp⟩ := rp.at (i := a0.toNat) (by omega)
        obtain ⟨nbb, hnbe, _, hxn⟩ := rn.at (i := a0.toNat) (by omega)
        obtain ⟨_, gp⟩ := gP _ h01
        obtain ⟨_, gn⟩ := gN _ h01
        rw [← gp] at hxp
        rw [← gn] at hxn
        simp only [ha0, List.getElem_cons_zero, Nat.add_zero] at hxa
        subst haa hsp0 hpbe hnbe
        refine Tri.seq (Tri.region ?_)
        refine TOps.move rfl rfl ?_
        refine TOps.move rfl rfl ?_
        first | refine TOps.fieldB 2 rfl Try.underlying54 rfl rfl ti52 rfl rfl rfl ?_ | refine TOps.fieldN 2 rfl Try.underlying54 rfl rfl ti52 rfl rfl rfl ?_
        refine TOps.load1 rfl ti52 (Rd.fld (r11.le bld_le) 2 rfl) rfl ?_
        refine TOps.indexAddr (off' := ao) rfl rfl Try.underlying52 ti3 (by omega) (by omega) (by simp) rfl ?_
        refine TOps.load1 rfl ti3 (Rd.le hxa bld_le) rfl ?_
        refine TOps.indexAddr (off' := 0 + a0.toNat) rfl rfl Try.underlying52 ti3 (by omega) (by omega) (by simp) rfl ?_
        refine TOps.load1 rfl ti3 (Rd.le hxn bld_le) rfl ?_
        refine TOps.buildSlice (vs := [_]) (xs := [_]) Try.underlying52 ti3 ⟨rfl, rfl, trivial⟩ rfl rfl rfl rfl rfl rfl (by decide) rfl (fun b78 => ?_)
        refine TOps.call (vs := [_, _, _, _]) Try.call30 ⟨rfl, rfl, rfl, rfl, trivial⟩ (add1_g (args := [N.getD a0.toNat 0]) hz1 rfl ⟨by omega, by omega⟩ (by omega) rfl (fun _ => ⟨_, rfl⟩) 3 0) rfl ?_
        rintro _ _ ⟨s1', rfl, hs1', rfl⟩
        refine TOps.assign rfl rfl ?_
        refine TOps.next ?_
        refine Tri.region ?_
        refine TOps.move rfl rfl ?_
        refine TOps.move rfl rfl ?_
        first | refine TOps.fieldB 2 rfl Try.underlying54 rfl rfl ti52 rfl rfl rfl ?_ | refine TOps.fieldN 2 rfl Try.underlying54 rfl rfl ti52 rfl rfl rfl ?_
        refine TOps.load1 rfl ti52 (Rd.fld (r11.le bld_le) 2 rfl) rfl ?_
        refine TOps.indexAddr (off' := ao) rfl rfl Try.underlying52 ti3 (by omega) (by omega) (by simp) rfl ?_
        refine TOps.load1 rfl ti3 (Rd.le hxa bld_le) rfl ?_
        refine TOps.indexAddr (off' := 0 + a0.toNat) rfl rfl Try.underlying52 ti3 (by omega) (by omega) (by simp) rfl ?_
        refine TOps.load1 rfl ti3 (Rd.le hxp bld_le) rfl ?_
        refine TOps.buildSlice (vs := [_]) (xs := [_]) Try.underlying52 ti3 ⟨rfl, rfl, trivial⟩ rfl rfl rfl rfl rfl rfl (by decide) rfl (fun b88 => ?_)
        refine TOps.call (vs := [_, _, _, _]) Try.call30 ⟨rfl, rfl, rfl, rfl, trivial⟩ (add1_g (args := [P.getD a0.toNat 0]) (L := NS.length + 1) hs1' (by simp) ⟨by omega, by omega⟩ (by simp; omega) rfl (fun _ => ⟨_, rfl⟩) 3 0) rfl ?_
        rintro _ _ ⟨s2, rfl, hs2, rfl⟩
        refine TOps.assign rfl rfl ?_
        refine TOps.fin ?_
        refine Nrm.unB ?_
        refine Nrm.mid s2 hs2 (by first | exact ⟨rfl, rfl, rfl, rfl, rfl, rfl, rfl, rfl, rfl, rfl, trivial⟩ | exact hfalse.elim) (by first | exact Le.refl _ | exact hfalse.elim)
      try simp only [decide_eq_true_eq, decide_eq_false_iff_not, Bool.and_eq_true, Bool.or_eq_true, Bool.not_eq_true', Bool.and_eq_false_iff, Bool.or_eq_false_iff, Bool.not_eq_false', Int.not_lt, Int.not_le, ne_eq, Decidable.not_not, Option.isSome_iff_ne_none, Option.isNone_iff_eq_none] at hc3
      refine Tri.seq (Tri.region ?_)
      refine TOps.eqlI rfl rfl rfl ?_
      refine TOps.assign rfl rfl ?_
      refine TOps.next ?_
      refine Tri.cond rfl (fun hc4 => ?_) (fun hc4 => ?_)
      · try simp only [decide_eq_true_eq, decide_eq_false_iff_not, Bool.and_eq_true, Bool.or_eq_true, Bool.not_eq_true', Bool.and_eq_false_iff, Bool.or_eq_false_iff, Bool.not_eq_false', Int.not_lt, Int.not_le, ne_eq, Decidable.not_not, Option.isSome_iff_ne_none, Option.isNone_iff_eq_none] at hc4
        obtain rfl : ((NS ++ [⟨2, 0, trI P d.args⟩] ++ [⟨3, 0, trI N d.args⟩], (v : Int) + NS.length, (v : Int) + (NS.length + 1 : Nat)) : P3) = RR := by rw [← hRR]; unfold pushN p2; rw [if_neg (by omega), if_neg hc2, if_neg hc3, if_pos hc4]
        refine Tri.seq (Tri.region ?_)
        refine TOps.move rfl rfl ?_
        first | refine TOps.fieldB 2 rfl Try.underlying54 rfl rfl ti52 rfl rfl rfl ?_ | refine TOps.fieldN 2 rfl Try.underlying54 rfl rfl ti52 rfl rfl rfl ?_
        refine TOps.load1 rfl ti52 (Rd.fld (r11.le bld_le) 2 rfl) rfl ?_
        refine TOps.move rfl rfl ?_
        refine TOps.call (vs := [_, _]) Try.call31 ⟨rfl, rfl, trivial⟩ (mapped_g (P := P) (RdS.le hargs bld_le) (by omega) (RdS.le rp bld_le) hPl (by omega) hin) rfl ?_
        rintro _ _ ⟨ma, mc, rfl, hma, rfl⟩
        refine TOps.call (vs := [_, _, _, _]) Try.call30 ⟨rfl, rfl, rfl, rfl, trivial⟩ (add1_g hz1 rfl ⟨by omega, by omega⟩ (by omega) (trI_length P d.args) (fun h => hma (fun e => h (by rw [e]; rfl))) 2 0) rfl ?_
        rintro _ _ ⟨s1', rfl, hs1', rfl⟩
        refine TOps.assign rfl rfl ?_
        refine TOps.next ?_
        refine Tri.region ?_
        refine TOps.move rfl rfl ?_
        first | refine TOps.fieldB 2 rfl Try.underlying54 rfl rfl ti52 rfl rfl rfl ?_ | refine TOps.fieldN 2 rfl Try.underlying54 rfl rfl ti52 rfl rfl rfl ?_
        refine TOps.load1 rfl ti52 (Rd.fld (r11.le bld_le) 2 rfl) rfl ?_
        refine TOps.move rfl rfl ?_
        refine TOps.call (vs := [_, _]) Try.call31 ⟨rfl, rfl, trivial⟩ (mapped_g (P := N) (RdS.le hargs bld_le) (by omega) (RdS.le rn bld_le) hNl (by omega) hin) rfl ?_
        rintro _ _ ⟨ma2, mc2, rfl, hma2, rfl⟩
        refine TOps.call (vs := [_, _, _, _]) Try.call30 ⟨rfl, rfl, rfl, rfl, trivial⟩ (add1_g (L := NS.length + 1) hs1' (by simp) ⟨by omega, by omega⟩ (by simp; omega) (trI_length N d.args) (fun h => hma2 (fun e => h (by rw [e]; rfl))) 3 0) rfl ?_
        rintro _ _ ⟨s2, rfl, hs2, rfl⟩
        refine TOps.assign rfl rfl ?_
        refine TOps.fin ?_
        refine Nrm.unB ?_
        refine Nrm.mid s2 hs2 (by first | exact ⟨rfl, rfl, rfl, rfl, rfl, rfl, rfl, rfl, rfl, rfl, trivial⟩ | exact hfalse.elim) (by first | exact Le.refl _ | exact hfalse.elim)
      try simp only [decide_eq_true_eq, decide_eq_false_iff_not, Bool.and_eq_true, Bool.or_eq_true, Bool.not_eq_true', Bool.and_eq_false_iff, Bool.or_eq_false_iff, Bool.not_eq_false', Int.not_lt, Int.not_le, ne_eq, Decidable.not_not, Option.isSome_iff_ne_none, Option.isNone_iff_eq_none] at hc4
      refine Tri.seq (Tri.region ?_)
      refine TOps.eqlI rfl rfl rfl ?_
      refine TOps.assign rfl rfl ?_
      refine TOps.next ?_
      refine Tri.cond rfl (fun hc5 => ?_) (fun hc5 => ?_)
      · try simp only [decide_eq_true_eq, decide_eq_false_iff_not, Bool.and_eq_true, Bool.or_eq_true, Bool.not_eq_true', Bool.and_eq_false_iff, Bool.or_eq_false_iff, Bool.not_eq_false', Int.not_lt, Int.not_le, ne_eq, Decidable.not_not, Option.isSome_iff_ne_none, Option.isNone_iff_eq_none] at hc5
        obtain rfl : ((NS ++ [⟨3, 0, trI P d.args⟩] ++ [⟨2, 0, trI N d.args⟩], (v : Int) + NS.length, (v : Int) + (NS.length + 1 : Nat)) : P3) = RR := by rw [← hRR]; unfold pushN p2; rw [if_neg (by omega), if_neg hc2, if_neg hc3, if_neg hc4, if_pos hc5]
        refine Tri.seq (Tri.region ?_)
        refine TOps.move rfl rfl ?_
        first | refine TOps.fieldB 2 rfl Try.underlying54 rfl rfl ti52 rfl rfl rfl ?_ | refine TOps.fieldN 2 rfl Try.underlying54 rfl rfl ti52 rfl rfl rfl ?_
        refine TOps.load1 rfl ti52 (Rd.fld (r11.le bld_le) 2 rfl) rfl ?_
        refine TOps.move rfl rfl ?_
        refine TOps.call (vs := [_, _]) Try.call31 ⟨rfl, rfl, trivial⟩ (mapped_g (P := P) (RdS.le hargs bld_le) (by omega) (RdS.le rp bld_le) hPl (by omega) hin) rfl ?_
        rintro _ _ ⟨ma, mc, rfl, hma, rfl⟩
        refine TOps.call (vs := [_, _, _, _]) Try.call30 ⟨rfl, rfl, rfl, rfl, trivial⟩ (add1_g hz1 rfl ⟨by omega, by omega⟩ (by omega) (trI_length P d.args) (fun h => hma (fun e => h (by rw [e]; rfl))) 3 0) rfl ?_
        rintro _ _ ⟨s1', rfl, hs1', rfl⟩
        refine TOps.assign rfl rfl ?_
        refine TOps.next ?_
        refine Tri.region ?_
        refine TOps.move rfl rfl ?_
        first | refine TOps.fieldB 2 rfl Try.underlying54 rfl rfl ti52 rfl rfl rfl ?_ | refine TOps.fieldN 2 rfl Try.underlying54 rfl rfl ti52 rfl rfl rfl ?_
        refine TOps.load1 rfl ti52 (Rd.fld (r11.le bld_le) 2 rfl) rfl ?_
        refine TOps.move rfl rfl ?_
        refine TOps.call (vs := [_, _]) Try.call31 ⟨rfl, rfl, trivial⟩ (mapped_g (P := N) (RdS.le hargs bld_le) (by omega) (RdS.le rn bld_le) hNl (by omega) hin) rfl ?_
        rintro _ _ ⟨ma2, mc2, rfl, hma2, rfl⟩
        refine TOps.call (vs := [_, _, _, _]) Try.call30 ⟨rfl, rfl, rfl, rfl, trivial⟩ (add1_g (L := NS.length + 1) hs1' (by simp) ⟨by omega, by omega⟩ (by simp; omega) (trI_length N d.args) (fun h => hma2 (fun e => h (by rw [e]; rfl))) 2 0) rfl ?_
        rintro _ _ ⟨s2, rfl, hs2, rfl⟩
        refine TOps.assign rfl rfl ?_
        refine TOps.fin ?_
        refine Nrm.unB ?_
        refine Nrm.mid s2 hs2 (by first | exact ⟨rfl, rfl, rfl, rfl, rfl, rfl, rfl, rfl, rfl, rfl, trivial⟩ | exact hfalse.elim) (by first | exact Le.refl _ | exact hfalse.elim)
      try simp only [decide_eq_true_eq, decide_eq_false_iff_not, Bool.and_eq_true, Bool.or_eq_true, Bool.not_eq_true', Bool.and_eq_false_iff, Bool.or_eq_false_iff, Bool.not_eq_false', Int.not_lt, Int.not_le, ne_eq, Decidable.not_not, Option.isSome_iff_ne_none, Option.isNone_iff_eq_none] at hc5
      refine Tri.seq (Tri.region ?_)
      refine TOps.eqlI rfl rfl rfl ?_
      refine TOps.assign rfl rfl ?_
      refine TOps.next ?_
      refine Tri.cond rfl (fun hc6 => ?_) (fun hc6 => ?_)
      · try simp only [decide_eq_true_eq, decide_eq_false_iff_not, Bool.and_eq_true, Bool.or_eq_true, Bool.not_eq_true', Bool.and_eq_false_iff, Bool.or_eq_false_iff, Bool.not_eq_false', Int.not_lt, Int.not_le, ne_eq, Decidable.not_not, Option.isSome_iff_ne_none, Option.isNone_iff_eq_none] at hc6
        obtain rfl : ((NS ++ [⟨4, d.k, trI P d.args⟩] ++ [⟨4, d.args.length - d.k + 1, trI N d.args⟩], (v : Int) + NS.length, (v : Int) + (NS.length + 1 : Nat)) : P3) = RR := by rw [← hRR]; unfold pushN p2; rw [if_neg (by omega), if_neg hc2, if_neg hc3, if_neg hc4, if_neg hc5]
        have hk4 := hfi.kk.2.1 hc6
        refine Tri.seq ?_
        have hlc : ∀ (x : (Option Nat × Nat) × BS) (c : Nat), Le (match c with | 0 => bld 61 54 b24 v NS 0 z1 HB | 1 => fact (d.args ≠ [] → ∃ b, x.1.1 = some b) :: row x.1.1 3 1 x.1.2 (ints (trI P d.args)) :: bld 61 54 b24 v NS 0 z1 HB | _ + 2 => fact (x.2.ok (NS ++ [⟨4, d.k, trI P d.args⟩])) :: bld 61 54 b24 v (NS ++ [⟨4, d.k, trI P d.args⟩]) 0 x.2 HB) HB := by
          intro x c
          match c with
          | 0 => exact bld_le
          | 1 => exact Le.drop (Le.drop bld_le)
          | _ + 2 => exact Le.drop bld_le
        refine Tri.drawX (X := (Option Nat × Nat) × BS) rfl [(1, .pointer (some ⟨b1, 0, none⟩)), (2, .pointer (some ⟨b2, 0, none⟩)), (5, .pointer (some ⟨b24, 0, none⟩)), (6, slV pa 0 (v + k) pc), (7, slV na2 0 (v + k) nc), (49, slV (some nb) off F.nodes.length cap none), (50, .int .i64 F.nodes.length), (51, .int .i64 k), (11, .pointer (some ⟨b11, 0, none⟩))] [] (fun x => [_, _, _, _, _, _, slV x.1.1 0 d.args.length x.1.2, _, _]) (fun x c => match c with | 0 => bld 61 54 b24 v NS 0 z1 HB | 1 => fact (d.args ≠ [] → ∃ b, x.1.1 = some b) :: row x.1.1 3 1 x.1.2 (ints (trI P d.args)) :: bld 61 54 b24 v NS 0 z1 HB | _ + 2 => fact (x.2.ok (NS ++ [⟨4, d.k, trI P d.args⟩])) :: bld 61 54 b24 v (NS ++ [⟨4, d.k, trI P d.args⟩]) 0 x.2 HB) [6, 7] ((none, 0), BS.new) [8] rfl rfl ⟨rfl, rfl, rfl, rfl, rfl, rfl, rfl, rfl, rfl, trivial⟩ trivial (by repeat (first | exact Le.refl _ | assumption | apply Le.drop)) (by
          refine ⟨?_, ?_, ?_, ?_, ?_, ?_, ?_, ?_, ?_, trivial⟩
          · refine ⟨fun x S c he hw hd hc hcu hm _ => ?_, trivial⟩
            refine TOps.move (he _ _ rfl) rfl ?_
            exact TOps.fin (Nrm.draw x (fun _ _ _ => rfl) rfl (by first | exact Le.refl _ | assumption | exact (by repeat (first | exact Le.refl _ | assumption | apply Le.drop))))
          · refine ⟨fun x S c he hw hd hc hcu hm _ => ?_, trivial⟩
            first | refine TOps.fieldB 1 (he _ _ rfl) Try.underlying54 rfl rfl ti3 rfl rfl rfl ?_ | refine TOps.fieldN 1 (he _ _ rfl) Try.underlying54 rfl rfl ti3 rfl rfl rfl ?_
            exact TOps.fin (Nrm.draw x (fun _ _ _ => rfl) rfl (by first | exact Le.refl _ | assumption | exact (by repeat (first | exact Le.refl _ | assumption | apply Le.drop))))
          · refine ⟨fun x S c he hw hd hc hcu hm _ => ?_, trivial⟩
            obtain ⟨h1, -⟩ := hd
            refine TOps.load1 h1 ti3 (Rd.fld (r11.le (hlc x c)) 1 rfl) rfl ?_
            exact TOps.fin (Nrm.draw x (fun _ _ _ => rfl) rfl (by first | exact Le.refl _ | assumption | exact (by repeat (first | exact Le.refl _ | assumption | apply Le.drop))))
          · refine ⟨fun x S c he hw hd hc hcu hm _ => ?_, trivial⟩
            first | refine TOps.fieldB 2 (he _ _ rfl) Try.underlying54 rfl rfl ti52 rfl rfl rfl ?_ | refine TOps.fieldN 2 (he _ _ rfl) Try.underlying54 rfl rfl ti52 rfl rfl rfl ?_
            exact TOps.fin (Nrm.draw x (fun _ _ _ => rfl) rfl (by first | exact Le.refl _ | assumption | exact (by repeat (first | exact Le.refl _ | assumption | apply Le.drop))))
          · refine ⟨fun x S c he hw hd hc hcu hm _ => ?_, trivial⟩
            obtain ⟨h3, -⟩ := hd
            refine TOps.load1 h3 ti52 (Rd.fld (r11.le (hlc x c)) 2 rfl) rfl ?_
            exact TOps.fin (Nrm.draw x (fun _ _ _ => rfl) rfl (by first | exact Le.refl _ | assumption | exact (by repeat (first | exact Le.refl _ | assumption | apply Le.drop))))
          · refine ⟨fun x S c he hw hd hc hcu hm _ => ?_, trivial⟩
            refine TOps.move (he _ _ rfl) rfl ?_
            exact TOps.fin (Nrm.draw x (fun _ _ _ => rfl) rfl (by first | exact Le.refl _ | assumption | exact (by repeat (first | exact Le.refl _ | assumption | apply Le.drop))))
          · refine ⟨fun x S c he hw hd hc hcu hm _ => ?_, trivial⟩
            obtain ⟨h4, h5, -⟩ := hd
            obtain rfl : c = 0 := hm rfl
            refine TOps.call (vs := [_, _]) Try.call31 ⟨h4, h5, trivial⟩ (mapped_g (P := P) (RdS.le hargs bld_le) (by omega) (RdS.le rp bld_le) hPl (by omega) hin) rfl ?_
            rintro _ _ ⟨ma, mc, rfl, hma, rfl⟩
            refine TOps.fin (Nrm.draw ((ma, mc), x.2) ?_ rfl (Le.addFact hma))
            intro j hj hcj; rcases j with _|_|_|_|_|_|_|_|_|j <;> first | rfl | exact absurd rfl hj | exact absurd hcj (by decide)
          · refine ⟨fun x S c he hw hd hc hcu hm _ => ?_, trivial⟩
            obtain ⟨h0, h2, h6, _, -⟩ := hd
            obtain rfl : c = 1 := hm rfl
            refine TOps.fact (List.Mem.head _) (fun hma => ?_)
            refine TOps.le (Le.drop (Le.refl _)) ?_
            refine TOps.call (vs := [_, _, _, _]) Try.call30 ⟨h0, rfl, h2, h6, trivial⟩ (add1_g hz1 rfl ⟨by omega, by omega⟩ (by omega) (trI_length P d.args) (fun h => hma (fun e => h (by rw [e]; rfl))) 4 d.k) rfl ?_
            rintro _ _ ⟨s', rfl, hs', rfl⟩
            refine TOps.fin (Nrm.draw (x.1, s') ?_ rfl (Le.addFact hs'))
            intro j hj hcj; rcases j with _|_|_|_|_|_|_|_|_|j <;> first | rfl | exact absurd rfl hj | exact absurd hcj (by decide)
          · refine ⟨fun x S c he hw hd hc hcu hm _ => ?_, trivial⟩
            obtain ⟨h7, _, h0, h1, h2, h3, h4, h5, h6, _, -⟩ := hd
            refine TOps.assign h7 rfl ?_
            exact TOps.fin (Nrm.draw x (fun _ _ _ => rfl) rfl (by first | exact Le.refl _ | assumption | exact (by repeat (first | exact Le.refl _ | assumption | apply Le.drop))))
          ) (fun w => ?_)
        refine Nrm.fact (List.Mem.head _) (fun hs1' => ?_)
        refine Nrm.le (Le.drop (Le.refl _)) ?_
        clear hlc
        have hN2l : (NS ++ ([⟨4, d.k, trI P d.args⟩] : List Nd)).length = NS.length + 1 := by simp
        obtain ⟨NS2, hNS2⟩ : ∃ NS2, NS ++ ([⟨4, d.k, trI P d.args⟩] : List Nd) = NS2 := ⟨_, rfl⟩
        rw [hNS2] at hs1' hN2l ⊢
        refine Nrm.next ?_
        have hlc : ∀ (x : (Option Nat × Nat) × BS) (c : Nat), Le (match c with | 0 => bld 61 54 b24 v NS2 0 w.2 HB | 1 => fact (d.args ≠ [] → ∃ b, x.1.1 = some b) :: row x.1.1 3 1 x.1.2 (ints (trI N d.args)) :: bld 61 54 b24 v NS2 0 w.2 HB | _ + 2 => fact (x.2.ok (NS2 ++ [⟨4, ((d.args.length : Int) - d.k + 1), trI N d.args⟩])) :: bld 61 54 b24 v (NS2 ++ [⟨4, ((d.args.length : Int) - d.k + 1), trI N d.args⟩]) 0 x.2 HB) HB := by
          intro x c
          match c with
          | 0 => exact bld_le
          | 1 => exact Le.drop (Le.drop bld_le)
          | _ + 2 => exact Le.drop bld_le
        refine Tri.drawX (X := (Option Nat × Nat) × BS) rfl [(1, .pointer (some ⟨b1, 0, none⟩)), (2, .pointer (some ⟨b2, 0, none⟩)), (5, .pointer (some ⟨b24, 0, none⟩)), (6, slV pa 0 (v + k) pc), (7, slV na2 0 (v + k) nc), (49, slV (some nb) off F.nodes.length cap none), (50, .int .i64 F.nodes.length), (51, .int .i64 k), (11, .pointer (some ⟨b11, 0, none⟩)), (12, .int .i64 (v + NS.length))] [] (fun x => [_, _, _, _, _, _, _, _, _, _, _, slV x.1.1 0 d.args.length x.1.2, _, _]) (fun x c => match c with | 0 => bld 61 54 b24 v NS2 0 w.2 HB | 1 => fact (d.args ≠ [] → ∃ b, x.1.1 = some b) :: row x.1.1 3 1 x.1.2 (ints (trI N d.args)) :: bld 61 54 b24 v NS2 0 w.2 HB | _ + 2 => fact (x.2.ok (NS2 ++ [⟨4, ((d.args.length : Int) - d.k + 1), trI N d.args⟩])) :: bld 61 54 b24 v (NS2 ++ [⟨4, ((d.args.length : Int) - d.k + 1), trI N d.args⟩]) 0 x.2 HB) [11, 12] ((none, 0), BS.new) [13] rfl rfl ⟨rfl, rfl, rfl, rfl, rfl, rfl, rfl, rfl, rfl, rfl, trivial⟩ trivial (by repeat (first | exact Le.refl _ | assumption | apply Le.drop)) (by
          refine ⟨?_, ?_, ?_, ?_, ?_, ?_, ?_, ?_, ?_, ?_, ?_, ?_, ?_, ?_, trivial⟩
          · refine ⟨fun x S c he hw hd hc hcu hm _ => ?_, trivial⟩
            refine TOps.move (he _ _ rfl) rfl ?_
            exact TOps.fin (Nrm.draw x (fun _ _ _ => rfl) rfl (by first | exact Le.refl _ | assumption | exact (by repeat (first | exact Le.refl _ | assumption | apply Le.drop))))
          · refine ⟨fun x S c he hw hd hc hcu hm _ => ?_, trivial⟩
            first | refine TOps.fieldB 2 (he _ _ rfl) Try.underlying54 rfl rfl ti52 rfl rfl rfl ?_ | refine TOps.fieldN 2 (he _ _ rfl) Try.underlying54 rfl rfl ti52 rfl rfl rfl ?_
            exact TOps.fin (Nrm.draw x (fun _ _ _ => rfl) rfl (by first | exact Le.refl _ | assumption | exact (by repeat (first | exact Le.refl _ | assumption | apply Le.drop))))
          · refine ⟨fun x S c he hw hd hc hcu hm _ => ?_, trivial⟩
            obtain ⟨h1, -⟩ := hd
            refine TOps.load1 h1 ti52 (Rd.fld (r11.le (hlc x c)) 2 rfl) rfl ?_
            exact TOps.fin (Nrm.draw x (fun _ _ _ => rfl) rfl (by first | exact Le.refl _ | assumption | exact (by repeat (first | exact Le.refl _ | assumption | apply Le.drop))))
          · refine ⟨fun x S c he hw hd hc hcu hm _ => ?_, trivial⟩
            obtain ⟨h2, -⟩ := hd
            refine TOps.len h2 Try.underlying52 rfl ?_
            exact TOps.fin (Nrm.draw x (fun _ _ _ => rfl) rfl (by first | exact Le.refl _ | assumption | exact (by repeat (first | exact Le.refl _ | assumption | apply Le.drop))))
          · refine ⟨fun x S c he hw hd hc hcu hm _ => ?_, trivial⟩
            first | refine TOps.fieldB 1 (he _ _ rfl) Try.underlying54 rfl rfl ti3 rfl rfl rfl ?_ | refine TOps.fieldN 1 (he _ _ rfl) Try.underlying54 rfl rfl ti3 rfl rfl rfl ?_
            exact TOps.fin (Nrm.draw x (fun _ _ _ => rfl) rfl (by first | exact Le.refl _ | assumption | exact (by repeat (first | exact Le.refl _ | assumption | apply Le.drop))))
          · refine ⟨fun x S c he hw hd hc hcu hm _ => ?_, trivial⟩
            obtain ⟨h4, -⟩ := hd
            refine TOps.load1 h4 ti3 (Rd.fld (r11.le (hlc x c)) 1 rfl) rfl ?_
            exact TOps.fin (Nrm.draw x (fun _ _ _ => rfl) rfl (by first | exact Le.refl _ | assumption | exact (by repeat (first | exact Le.refl _ | assumption | apply Le.drop))))
          · refine ⟨fun x S c he hw hd hc hcu hm _ => ?_, trivial⟩
            obtain ⟨h3, h5, -⟩ := hd
            refine TOps.sub h3 h5 (wrapI (by omega) (by omega)) rfl ?_
            exact TOps.fin (Nrm.draw x (fun _ _ _ => rfl) rfl (by first | exact Le.refl _ | assumption | exact (by repeat (first | exact Le.refl _ | assumption | apply Le.drop))))
          · refine ⟨fun x S c he hw hd hc hcu hm _ => ?_, trivial⟩
            obtain ⟨h6, -⟩ := hd
            refine TOps.add h6 rfl (wrapI (by omega) (by omega)) rfl ?_
            exact TOps.fin (Nrm.draw x (fun _ _ _ => rfl) rfl (by first | exact Le.refl _ | assumption | exact (by repeat (first | exact Le.refl _ | assumption | apply Le.drop))))
          · refine ⟨fun x S c he hw hd hc hcu hm _ => ?_, trivial⟩
            first | refine TOps.fieldB 2 (he _ _ rfl) Try.underlying54 rfl rfl ti52 rfl rfl rfl ?_ | refine TOps.fieldN 2 (he _ _ rfl) Try.underlying54 rfl rfl ti52 rfl rfl rfl ?_
            exact TOps.fin (Nrm.draw x (fun _ _ _ => rfl) rfl (by first | exact Le.refl _ | assumption | exact (by repeat (first | exact Le.refl _ | assumption | apply Le.drop))))
          · refine ⟨fun x S c he hw hd hc hcu hm _ => ?_, trivial⟩
            obtain ⟨h8, -⟩ := hd
            refine TOps.load1 h8 ti52 (Rd.fld (r11.le (hlc x c)) 2 rfl) rfl ?_
            exact TOps.fin (Nrm.draw x (fun _ _ _ => rfl) rfl (by first | exact Le.refl _ | assumption | exact (by repeat (first | exact Le.refl _ | assumption | apply Le.drop))))
          · refine ⟨fun x S c he hw hd hc hcu hm _ => ?_, trivial⟩
            refine TOps.move (he _ _ rfl) rfl ?_
            exact TOps.fin (Nrm.draw x (fun _ _ _ => rfl) rfl (by first | exact Le.refl _ | assumption | exact (by repeat (first | exact Le.refl _ | assumption | apply Le.drop))))
          · refine ⟨fun x S c he hw hd hc hcu hm _ => ?_, trivial⟩
            obtain ⟨h9, h10, -⟩ := hd
            obtain rfl : c = 0 := hm rfl
            refine TOps.call (vs := [_, _]) Try.call31 ⟨h9, h10, trivial⟩ (mapped_g (P := N) (RdS.le hargs bld_le) (by omega) (RdS.le rn bld_le) hNl (by omega) hin) rfl ?_
            rintro _ _ ⟨ma, mc, rfl, hma, rfl⟩
            refine TOps.fin (Nrm.draw ((ma, mc), x.2) ?_ rfl (Le.addFact hma))
            intro j hj hcj; rcases j with _|_|_|_|_|_|_|_|_|_|_|_|_|_|j <;> first | rfl | exact absurd rfl hj | exact absurd hcj (by decide)
          · refine ⟨fun x S c he hw hd hc hcu hm _ => ?_, trivial⟩
            obtain ⟨h0, h7, h11, _, -⟩ := hd
            obtain rfl : c = 1 := hm rfl
            refine TOps.fact (List.Mem.head _) (fun hma => ?_)
            refine TOps.le (Le.drop (Le.refl _)) ?_
            refine TOps.call (vs := [_, _, _, _]) Try.call30 ⟨h0, rfl, h7, h11, trivial⟩ (add1_g (L := NS.length + 1) hs1' hN2l ⟨by omega, by omega⟩ (by omega) (trI_length N d.args) (fun h => hma (fun e => h (by rw [e]; rfl))) 4 _) rfl ?_
            rintro _ _ ⟨s', rfl, hs', rfl⟩
            refine TOps.fin (Nrm.draw (x.1, s') ?_ rfl (Le.addFact hs'))
            intro j hj hcj; rcases j with _|_|_|_|_|_|_|_|_|_|_|_|_|_|j <;> first | rfl | exact absurd rfl hj | exact absurd hcj (by decide)
          · refine ⟨fun x S c he hw hd hc hcu hm _ => ?_, trivial⟩
            obtain ⟨h12, _, h0, h1, h2, h3, h4, h5, h6, h7, h8, h9, h10, h11, _, -⟩ := hd
            refine TOps.assign h12 rfl ?_
            exact TOps.fin (Nrm.draw x (fun _ _ _ => rfl) rfl (by first | exact Le.refl _ | assumption | exact (by repeat (first | exact Le.refl _ | assumption | apply Le.drop))))
          ) (fun w' => ?_)
        refine Nrm.fact (List.Mem.head _) (fun hs2 => ?_)
        refine Nrm.le (Le.drop (Le.refl _)) ?_
        obtain ⟨s2, hs2e⟩ : ∃ s2, w'.2 = s2 := ⟨_, rfl⟩
        rw [hs2e] at hs2 ⊢
        refine Nrm.unB ?_
        refine Nrm.mid s2 hs2 (by first | exact ⟨rfl, rfl, rfl, rfl, rfl, rfl, rfl, rfl, rfl, rfl, trivial⟩ | exact hfalse.elim) (by first | exact Le.refl _ | exact hfalse.elim)
      try simp only [decide_eq_true_eq, decide_eq_false_iff_not, Bool.and_eq_true, Bool.or_eq_true, Bool.not_eq_true', Bool.and_eq_false_iff, Bool.or_eq_false_iff, Bool.not_eq_false', Int.not_lt, Int.not_le, ne_eq, Decidable.not_not, Option.isSome_iff_ne_none, Option.isNone_iff_eq_none] at hc6
      refine Tri.seq (Tri.region ?_)
      refine TOps.eqlI rfl rfl rfl ?_
      refine TOps.assign rfl rfl ?_
      refine TOps.next ?_
      refine Tri.cond rfl (fun hc7 => ?_) (fun hc7 => ?_)
      · try simp only [decide_eq_true_eq, decide_eq_false_iff_not, Bool.and_eq_true, Bool.or_eq_true, Bool.not_eq_true', Bool.and_eq_false_iff, Bool.or_eq_false_iff, Bool.not_eq_false', Int.not_lt, Int.not_le, ne_eq, Decidable.not_not, Option.isSome_iff_ne_none, Option.isNone_iff_eq_none] at hc7
        obtain rfl : xor0 v P N d.args NS = RR := by rw [← hRR]; unfold pushN; rw [if_pos hc7]
        refine Tri.region ?_
        refine TOps.move rfl rfl ?_
        first | refine TOps.fieldB 2 rfl Try.underlying54 rfl rfl ti52 rfl rfl rfl ?_ | refine TOps.fieldN 2 rfl Try.underlying54 rfl rfl ti52 rfl rfl rfl ?_
        refine TOps.load1 rfl ti52 (Rd.fld (r11.le bld_le) 2 rfl) rfl ?_
        refine TOps.move rfl rfl ?_
        refine TOps.move rfl rfl ?_
        refine TOps.call (vs := [_, _, _, _]) Try.call32 ⟨rfl, rfl, rfl, rfl, trivial⟩ (xor_g hz1 ⟨by omega, by omega⟩ (by omega) rp hPl rn hNl (by omega) hargs (hne (by omega)) hal hcap hin) rfl ?_
        rintro _ _ ⟨s2, rfl, hs2, rfl⟩
        refine TOps.move rfl rfl ?_
        refine TOps.extract rfl rfl rfl ?_
        refine TOps.extract rfl rfl rfl ?_
        refine TOps.assign rfl rfl ?_
        refine TOps.assign rfl rfl ?_
        refine TOps.fin ?_
        refine Nrm.unB ?_
        refine Nrm.mid s2 hs2 (by first | exact ⟨rfl, rfl, rfl, rfl, rfl, rfl, rfl, rfl, rfl, rfl, trivial⟩ | exact hfalse.elim) (by first | exact Le.refl _ | exact hfalse.elim)
      try simp only [decide_eq_true_eq, decide_eq_false_iff_not, Bool.and_eq_true, Bool.or_eq_true, Bool.not_eq_true', Bool.and_eq_false_iff, Bool.or_eq_false_iff, Bool.not_eq_false', Int.not_lt, Int.not_le, ne_eq, Decidable.not_not, Option.isSome_iff_ne_none, Option.isNone_iff_eq_none] at hc7
      have hfalse : False := by have := hfi.k0; have := hfi.k1; omega
      obtain ⟨s2, hs2⟩ : ∃ s2 : BS, s2.ok RR.1 := hfalse.elim
      refine Tri.fin ?_
      refine Nrm.unB ?_
      refine Nrm.mid s2 hs2 (by first | exact ⟨rfl, rfl, rfl, rfl, rfl, rfl, rfl, rfl, rfl, rfl, trivial⟩ | exact hfalse.elim) (by first | exact Le.refl _ | exact hfalse.elim)
    refine Tri.region ?_
    subst hHB
    refine TOps.move rfl rfl ?_
    refine TOps.move rfl rfl ?_
    refine TOps.buildSlice (vs := [_]) (xs := [_]) Try.underlying52 ti3 ⟨rfl, rfl, trivial⟩ rfl rfl rfl rfl rfl rfl (by decide) rfl (fun b154 => ?_)
    refine TOps.appendLit rfl rfl Try.underlying52 ti3 rfl (fun _ _ => Upd.bld (Upd.there (Upd.there Upd.here))) rfl (by rw [List.length_map, hPl, Nat.mul_one]) rfl (by omega) (by omega) (by simp) rfl (fun b155 cap155 => ?_)
    refine TOps.move rfl rfl ?_
    refine TOps.move rfl rfl ?_
    refine TOps.buildSlice (vs := [_]) (xs := [_]) Try.underlying52 ti3 ⟨rfl, rfl, trivial⟩ rfl rfl rfl rfl rfl rfl (by decide) rfl (fun b158 => ?_)
    refine TOps.appendLit rfl rfl Try.underlying52 ti3 rfl (fun _ _ => Upd.bld (Upd.there Upd.here)) rfl (by rw [List.length_map, hNl, Nat.mul_one]) rfl (by omega) (by omega) (by simp) rfl (fun b159 cap159 => ?_)
    refine TOps.assign rfl rfl ?_
    refine TOps.assign rfl rfl ?_
    refine TOps.fin ?_
    refine Nrm.body (y, (some b155, cap155), (some b159, cap159)) (by rw [hst]; exact ⟨hmid, fun _ => ⟨_, rfl⟩, fun _ => ⟨_, rfl⟩⟩) ⟨rfl, rfl, rfl, rfl, rfl, rfl, rfl, rfl, trivial⟩ (by rw [hst]; dsimp only; rw [ints_snoc, ints_snoc]; exact bld_mono (List.sublist_cons_self _ _))
  obtain ⟨z1, ⟨pa, pc⟩, na2, nc⟩ := u
  obtain ⟨hz1, hpa, hna⟩ := hp
  dsimp only at hz1 hpa hna hM hS ⊢
  obtain ⟨pb, rfl⟩ := hpa (by omega)
  obtain ⟨hPl, hNl, hSl⟩ := pushS_len (v := v) hal16 F.nodes.length (Nat.le_refl _)
  refine Nrm.of hS hM ?_
  refine Nrm.next ?_
  refine Tri.seq (Tri.region ?_)
  refine TOps.move rfl rfl ?_
  refine TOps.move rfl rfl ?_
  first | refine TOps.fieldB 2 rfl Try.underlying24 rfl rfl ti3 rfl rfl rfl ?_ | refine TOps.fieldN 2 rfl Try.underlying24 rfl rfl ti3 rfl rfl rfl ?_
  refine TOps.load1 rfl ti3 (Rd.fld (r1.le (Le.trans bld_le (Le.drop (Le.drop (Le.drop (Le.refl _)))))) 2 rfl) rfl ?_
  refine TOps.indexAddr (off' := tp) rfl rfl Try.underlying52 ti3 (by omega) (by omega) (by simp) rfl ?_
  refine TOps.load1 rfl ti3 (Rd.le (Rd.lit (List.Mem.tail _ (List.Mem.head _)) (ints_get (by omega))) bld_le) rfl ?_
  refine TOps.call (vs := [_, _]) Try.call33 ⟨rfl, rfl, trivial⟩ (trimmed_g hz1 (by omega) hfit) rfl ?_
  rintro _ _ ⟨a1, c1, NN, rfl, hN2, rfl⟩
  refine TOps.extract rfl rfl rfl ?_
  refine TOps.extract rfl rfl rfl ?_
  refine TOps.storeN rfl rfl ti24 rfl rfl (Upd.app (Upd.there (Upd.there Upd.here)) NN) (by simp) ?_
  refine TOps.assign rfl rfl ?_
  refine TOps.next ?_
  refine Tri.ret2 (H' := NN ++ H) Try.results13 (fun _ _ h => h) (.cellN rfl rfl ti24 (Rd.all (List.mem_append_right _ (List.Mem.tail _ (List.Mem.tail _ (List.Mem.head _))))) rfl) (.tmp rfl) (sub_app (List.Sublist.cons _ (List.Sublist.cons _ (List.Sublist.cons _ s1)))) ⟨a1, c1, NN, ?_, ?_, rfl⟩
  · rw [hpE, hpF]; rfl
  · rw [hpF]; exact hN2
end Go.Proofs
