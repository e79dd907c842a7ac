import Derived.Test.YthfbpnfaklaopaaX11
import Derived.Test.YthfbpnfaklaopaaB11
import Derived.Test.YthfbpnfaklaopaaGL76
namespace Go.Proofs
open Go.GL
set_option linter.unusedVariables false
set_option linter.unusedSimpArgs false
set_option maxHeartbeats 2000000 in
theorem fold_g {H : List Ent} {fv : Value} {F : Fm} (hF : RF H fv F) (hk : F.ok) :
    Gives Try.prog 26 [fv] H (NewN 47 F.foldF F.foldE H) := by
  have hF0 := hF
  obtain ⟨na, off, cap, nsp, rfl, hN⟩ := hF
  refine Gives.enter Try.func26 rfl (by exact Try.ntmps26) rfl ?_
  refine Tri.seq (Tri.region ?_)
  refine TOps.boxN rfl ti24 rfl rfl (fun b1 => ?_)
  refine TOps.hide (fun H1 l1 s1 r1 => ?_)
  replace hF0 := hF0.le l1; replace hN := hN.le l1
  refine TOps.alloc ti24 rfl (fun b2 => ?_)
  refine TOps.assign rfl rfl ?_
  refine TOps.next ?_
  refine Tri.seq ?_
  refine Tri.seq (Tri.region ?_)
  refine TOps.loadN rfl ti24 (by first | exact Rd.all (by repeat (first | exact List.Mem.head _ | apply List.Mem.tail)) | (repeat (first | assumption | apply Rd.up))) rfl rfl ?_
  refine TOps.call (vs := [_]) Try.call21 ⟨rfl, trivial⟩ (check_g (hF0.le (Le.drop (Le.refl _))) hk) rfl ?_
  rintro _ _ ⟨rfl, rfl⟩
  refine TOps.assign rfl rfl ?_
  refine TOps.next ?_
  refine Tri.seq (Tri.region ?_)
  refine TOps.move rfl rfl ?_
  refine TOps.neqNil rfl Try.underlying28 rfl ?_
  refine TOps.next ?_
  refine Tri.cond rfl (fun hc1 => ?_) (fun hc1 => ?_)
  · try simp only [decide_eq_true_eq, decide_eq_false_iff_not, Bool.and_eq_true, Bool.or_eq_true, Bool.not_eq_true', Bool.and_eq_false_iff, Bool.or_eq_false_iff, Bool.not_eq_false', Int.not_lt, Int.not_le, ne_eq, Decidable.not_not, Option.isSome_iff_ne_none, Option.isNone_iff_eq_none] at hc1
    obtain ⟨er, her⟩ := Option.ne_none_iff_exists'.1 hc1
    refine Tri.seq (Tri.region ?_)
    refine TOps.buildStruct (vs := []) (xs := [_, _, _]) [(0, 1), (1, 1), (2, 1)] Try.underlying24 ti24 (fun w => by simp) trivial rfl rfl ?_
    refine TOps.move rfl rfl ?_
    refine TOps.storeN rfl rfl ti24 rfl rfl (by repeat (first | exact Upd.here | apply Upd.there)) (by first | decide | (simp; done) | (simp; omega)) ?_
    refine TOps.assign rfl rfl ?_
    refine TOps.next ?_
    refine Tri.ret2 (H' := H) Try.results26 (fun _ _ h => h) (.cellN rfl rfl ti24 (Rd.all (by repeat (first | exact List.Mem.head _ | apply List.Mem.tail))) rfl) (.tmp rfl) (Le.drop l1) ⟨none, 0, [], ?_, ?_, rfl⟩
    · rw [show F.foldE = F.err from by unfold Fm.foldE; rw [her], show F.foldF = Fm.zero from by unfold Fm.foldF; rw [her]]; rfl
    · rw [show F.foldF = Fm.zero from by unfold Fm.foldF; rw [her]]; exact .inl rfl
  try simp only [decide_eq_true_eq, decide_eq_false_iff_not, Bool.and_eq_true, Bool.or_eq_true, Bool.not_eq_true', Bool.and_eq_false_iff, Bool.or_eq_false_iff, Bool.not_eq_false', Int.not_lt, Int.not_le, ne_eq, Decidable.not_not, Option.isSome_iff_ne_none, Option.isNone_iff_eq_none] at hc1
  have he : F.err = none := by simpa using hc1
  have hg := (Fm.good_iff F).1 he
  have g0 := hg.v0; have g1 := hg.v1; have g2 := hg.n1; have gt := hg.topLt
  obtain ⟨v, hv⟩ := Int.eq_ofNat_of_zero_le g0
  have hvn : F.vars.toNat = v := by omega
  obtain ⟨tp, htp⟩ := Int.eq_ofNat_of_zero_le gt.1
  have hpE : F.foldE = if F.foldT = -1 ∨ F.foldT = -2 then none else sizedE F.foldB.trim := by unfold Fm.foldE; rw [he]
  have hpF : F.foldF = if F.foldT = -1 ∨ F.foldT = -2 then F.foldC else sizedF F.foldB.trim := by unfold Fm.foldF; rw [he]
  have hbf := foldB_fit hg
  have hft : F.foldT = (foldS v F.nodes F.nodes.length).1.getD tp 0 := by unfold Fm.foldT; rw [hvn, htp, Int.toNat_natCast]
  have hpb : F.foldB = ⟨(v : Int), (foldS v F.nodes F.nodes.length).2, F.foldT⟩ := by unfold Fm.foldB; rw [hvn, hv]
  have hpc : F.foldC = ⟨(v : Int), [⟨0, F.foldT + 2, []⟩], (v : Int)⟩ := by unfold Fm.foldC; rw [hv]
  have hti := foldT_in hg
  rw [hpb] at hpE hpF hbf hti
  rw [hpc] at hpF
  rw [hv, htp] at r1
  refine Tri.fin ?_
  refine Nrm.next ?_
  refine Tri.seq (Tri.region ?_)
  refine TOps.field0 rfl Try.underlying24 rfl rfl ti3 rfl rfl rfl ?_
  refine TOps.load1 rfl ti3 (by first | exact Rd.lit (by repeat (first | exact List.Mem.head _ | apply List.Mem.tail)) rfl | (repeat (first | assumption | exact Rd.fld (by assumption) 0 rfl | apply Rd.up))) rfl ?_
  refine TOps.buildStruct (vs := [(0, _)]) (xs := [_, _, _]) [(0, 1), (1, 1), (2, 1)] Try.underlying24 ti24 (fun w => by simp) ⟨rfl, rfl, trivial⟩ rfl rfl ?_
  refine TOps.buildStruct (vs := [(0, _)]) (xs := [_, _, _]) [(0, 3)] Try.underlying61 ti61 (fun w => by simp) ⟨rfl, rfl, trivial⟩ rfl rfl ?_
  refine TOps.boxN rfl ti61 rfl rfl (fun b26 => ?_)
  refine TOps.assign rfl rfl ?_
  refine TOps.next ?_
  refine Tri.seq (Tri.region ?_)
  refine TOps.assign rfl rfl ?_
  refine TOps.next ?_
  refine Tri.seq ?_
  refine Tri.seq (Tri.region ?_)
  refine TOps.field0 rfl Try.underlying24 rfl rfl ti3 rfl rfl rfl ?_
  refine TOps.load1 rfl ti3 (by first | exact Rd.lit (by repeat (first | exact List.Mem.head _ | apply List.Mem.tail)) rfl | (repeat (first | assumption | exact Rd.fld (by assumption) 0 rfl | apply Rd.up))) rfl ?_
  refine TOps.move rfl rfl ?_
  refine TOps.next ?_
  refine Tri.range (X := Option Nat × Nat) (fun z k => [(1, .pointer (some ⟨b1, 0, none⟩)), (2, .pointer (some ⟨b2, 0, none⟩)), (5, .pointer (some ⟨b26, 0, none⟩)), (6, slV z.1 0 k z.2)]) (fun z k => row z.1 3 1 z.2 (ints (evI k)) :: row (some b26) 61 3 1 [.int .i64 v, slV none 0 0 0, .int .i64 0] :: row (some b2) 24 3 1 [.int .i64 0, slV none 0 0 0, .int .i64 0] :: H1) (fun z k => k ≠ 0 → ∃ b, z.1 = some b) (by omega) rfl rfl rfl (fun _ _ => ⟨rfl, rfl, rfl, rfl⟩) (none, 0) (fun h => absurd rfl h) ⟨rfl, rfl, rfl, rfl, trivial⟩ Le.addNil (fun k z hlt hp => ?_) (fun z ac wc hp hS hM => ?_)
  · skip
    refine Tri.seq (Tri.region ?_)
    refine TOps.move rfl rfl ?_
    refine TOps.assign rfl rfl ?_
    refine TOps.next ?_
    refine Tri.region ?_
    refine TOps.move rfl rfl ?_
    refine TOps.move rfl rfl ?_
    refine TOps.buildSlice (vs := [_]) (xs := [_]) Try.underlying52 ti3 ⟨rfl, rfl, trivial⟩ rfl rfl rfl rfl rfl rfl (by decide) rfl (fun b34 => ?_)
    refine TOps.appendLit rfl rfl Try.underlying52 ti3 rfl (fun _ _ => Upd.here) rfl (by simp [evI_length]) rfl (by omega) (by omega) (by simp) rfl (fun b34 cap34 => ?_)
    refine TOps.assign rfl rfl ?_
    refine TOps.fin ?_
    refine Nrm.body (some b34, cap34) (fun _ => ⟨_, rfl⟩) ⟨rfl, rfl, rfl, rfl, rfl, rfl, trivial⟩ (Le.rowEq (by rw [evI_succ, ints_snoc]))
  have hz := hp
  refine Nrm.of hS hM ?_
  refine Nrm.next ?_
  refine Tri.seq ?_
  refine Tri.seq (Tri.region ?_)
  first | refine TOps.fieldB 1 rfl Try.underlying24 rfl rfl ti22 rfl rfl rfl ?_ | refine TOps.fieldN 1 rfl Try.underlying24 rfl rfl ti22 rfl rfl rfl ?_
  refine TOps.load1 rfl ti22 (by first | exact Rd.lit (by repeat (first | exact List.Mem.head _ | apply List.Mem.tail)) rfl | (repeat (first | assumption | exact Rd.fld (by assumption) 1 rfl | apply Rd.up))) rfl ?_
  refine TOps.len rfl Try.underlying22 rfl ?_
  refine TOps.move rfl rfl ?_
  refine TOps.next ?_
  refine Tri.range (X := BS × (Option Nat × Nat)) (fun u k => [(1, .pointer (some ⟨b1, 0, none⟩)), (2, .pointer (some ⟨b2, 0, none⟩)), (5, .pointer (some ⟨b26, 0, none⟩)), (6, slV u.2.1 0 (v + k) u.2.2), (38, slV na off F.nodes.length cap nsp)]) (fun u k => bld 61 54 b26 v (foldS v F.nodes k).2 0 u.1 (row u.2.1 3 1 u.2.2 (ints (foldS v F.nodes k).1) :: row (some b2) 24 3 1 [.int .i64 0, slV none 0 0 0, .int .i64 0] :: H1)) (fun u k => u.1.ok (foldS v F.nodes k).2 ∧ (v + k ≠ 0 → ∃ b, u.2.1 = some b)) (by omega) rfl rfl rfl (fun _ _ => ⟨rfl, rfl, rfl, rfl⟩) (BS.new, z) ⟨BS.new_ok, hz⟩ ⟨rfl, rfl, rfl, rfl, rfl, trivial⟩ (Le.swap.trans bld_new) (fun k u hlt hp => ?_) (fun u ac wc hp hS hM => ?_)
  · skip
    obtain ⟨z1, ta, tc⟩ := u
    obtain ⟨hz1, hta⟩ := hp
    dsimp only at hz1 hta ⊢
    obtain ⟨nb, aa, ao, acap, asp, rfl, rfl, hn⟩ := hN.at hlt
    have hfi := hg.fits k hlt
    rw [hv] at hfi
    have hal := hfi.len
    obtain ⟨hTl, hSl⟩ := foldS_len (v := v) (nodes := F.nodes) k
    have hst : foldS v F.nodes (k + 1) = ((foldS v F.nodes k).1 ++ [(fold1 v F.nodes[k] (restOf (trI (foldS v F.nodes k).1 F.nodes[k].args)) (cntC (-1) (trI (foldS v F.nodes k).1 F.nodes[k].args)) (cntC (-2) (trI (foldS v F.nodes k).1 F.nodes[k].args)) (foldS v F.nodes k).2).2], (fold1 v F.nodes[k] (restOf (trI (foldS v F.nodes k).1 F.nodes[k].args)) (cntC (-1) (trI (foldS v F.nodes k).1 F.nodes[k].args)) (cntC (-2) (trI (foldS v F.nodes k).1 F.nodes[k].args)) (foldS v F.nodes k).2).1) := by rw [foldS]; simp [hlt]
    obtain ⟨d, hd⟩ : ∃ d, F.nodes[k] = d := ⟨_, rfl⟩
    obtain ⟨T, hT⟩ : ∃ T, (foldS v F.nodes k).1 = T := ⟨_, rfl⟩
    obtain ⟨NS, hNS⟩ : ∃ NS, (foldS v F.nodes k).2 = NS := ⟨_, rfl⟩
    rw [hd, hT, hNS] at hst
    rw [hd] at hn hfi hal
    rw [hT] at hTl
    rw [hNS] at hSl hz1
    rw [hT, hNS]
    obtain ⟨A, hA⟩ : ∃ A, trI T d.args = A := ⟨_, rfl⟩
    have hAl : A.length = d.args.length := by rw [← hA, trI_length]
    rw [hA] at hst
    have hc3 := count3 A
    obtain ⟨RR, hRR⟩ : ∃ RR, fold1 v d (restOf A) (cntC (-1) A) (cntC (-2) A) NS = RR := ⟨_, rfl⟩
    rw [hRR] at hst
    have hin : ∀ a ∈ d.args, 0 ≤ a ∧ a.toNat < v + k := fun a ha => by have := hfi.args a ha; omega
    have hk4 := hfi.kk.2.1
    have hdok := hk.2.2.1 d (by rw [← hd]; exact List.getElem_mem hlt)
    refine Tri.seq (Tri.region ?_)
    refine TOps.indexAddr (off' := off + k * 3) rfl rfl Try.underlying22 ti54 (by omega) (by omega) (by simp) rfl ?_
    refine TOps.loadN (vs := [.int .i64 d.kind, .int .i64 d.k, slV aa ao d.args.length acap asp]) rfl ti54 (hn.cells.le (Le.trans bld_le (Le.drop (Le.drop (Le.refl _))))) rfl rfl ?_
    refine TOps.alloc ti54 rfl (fun b9 => ?_)
    refine TOps.storeN rfl rfl ti54 rfl rfl (by repeat (first | exact Upd.here | apply Upd.there)) (by first | decide | (simp; done) | (simp; omega)) ?_
    refine TOps.le bld_in ?_
    obtain ⟨HB, hHB⟩ : ∃ HB, HB = row (some b9) 54 3 1 [.int .i64 d.kind, .int .i64 d.k, slV aa ao d.args.length acap asp] :: row ta 3 1 tc (ints T) :: row (some b2) 24 3 1 [.int .i64 0, slV none 0 0 0, .int .i64 0] :: H1 := ⟨_, rfl⟩
    have r9 : Rd HB b9 0 [.int .i64 d.kind, .int .i64 d.k, slV aa ao d.args.length acap asp] := by rw [hHB]; exact Rd.all (by repeat (first | exact List.Mem.head _ | apply List.Mem.tail))
    have hargs : RInts HB aa ao d.args asp := by rw [hHB]; exact RdS.le hn.args (Le.drop (Le.drop (Le.drop (Le.refl _))))
    have rT : RInts HB ta 0 T := by rw [hHB]; exact RdS.ofRowA (by repeat (first | exact List.Mem.head _ | apply List.Mem.tail)) (fun h => hta (by intro h0; rw [h0] at hTl; exact h (by rw [List.eq_nil_of_length_eq_zero hTl]; rfl)))
    refine TOps.le (H' := bld 61 54 b26 v NS 0 z1 HB) (by rw [hHB]; exact Le.refl _) ?_
    refine TOps.next ?_
    refine Tri.seq (Tri.region ?_)
    refine TOps.assign rfl rfl ?_
    refine TOps.next ?_
    refine Tri.seq (Tri.region ?_)
    refine TOps.assign rfl rfl ?_
    refine TOps.assign rfl rfl ?_
    refine TOps.next ?_
    refine Tri.seq ?_
    refine Tri.seq (Tri.region ?_)
    first | refine TOps.fieldB 2 rfl Try.underlying54 rfl rfl ti52 rfl rfl rfl ?_ | refine TOps.fieldN 2 rfl Try.underlying54 rfl rfl ti52 rfl rfl rfl ?_
    refine TOps.load1 rfl ti52 (Rd.fld (r9.le bld_le) 2 rfl) rfl ?_
    refine TOps.move rfl rfl ?_
    refine TOps.call (vs := [_, _]) Try.call31 ⟨rfl, rfl, trivial⟩ (mapped_g (P := T) (RdS.le hargs bld_le) (by omega) (RdS.le rT bld_le) hTl (by omega) hin) rfl ?_
    rintro _ _ ⟨ma, mc, rfl, hma, rfl⟩
    rw [hA]
    refine TOps.len rfl Try.underlying52 rfl ?_
    refine TOps.move rfl rfl ?_
    refine TOps.next ?_
    refine Tri.range (X := Option Nat × Nat) (fun q j => [(1, .pointer (some ⟨b1, 0, none⟩)), (2, .pointer (some ⟨b2, 0, none⟩)), (5, .pointer (some ⟨b26, 0, none⟩)), (6, slV ta 0 (v + k) tc), (38, slV (some nb) off F.nodes.length cap none), (39, .int .i64 F.nodes.length), (40, .int .i64 k), (9, .pointer (some ⟨b9, 0, none⟩)), (10, slV q.1 0 (restOf (A.take j)).length q.2), (11, .int .i64 (cntC (-1) (A.take j) : Nat)), (12, .int .i64 (cntC (-2) (A.take j) : Nat)), (47, slV ma 0 d.args.length mc)]) (fun q j => row q.1 3 1 q.2 (ints (restOf (A.take j))) :: row ma 3 1 mc (ints A) :: bld 61 54 b26 v NS 0 z1 HB) (fun q j => restOf (A.take j) ≠ [] → ∃ b, q.1 = some b) (by omega) rfl rfl rfl (fun _ _ => ⟨rfl, rfl, rfl, rfl⟩) (none, 0) (fun h => absurd rfl h) ⟨rfl, rfl, rfl, rfl, rfl, rfl, rfl, rfl, rfl, rfl, rfl, rfl, trivial⟩ Le.addNil (fun j q hltj hpj => ?_) (fun q ac wc hpj hS hM => ?_)
    · skip
      have htk : A.take (j + 1) = A.take j ++ [A[j]'(by omega)] := List.take_succ_eq_append_getElem (by omega)
      obtain ⟨mb, rfl⟩ := hma (by intro h0; rw [h0] at hltj; simp at hltj)
      have hxa : (ints A)[j]? = some (.int .i64 (A[j]'(by omega))) := by simp [ints, show j < A.length by omega]
      obtain ⟨B, hB⟩ : ∃ B, A[j]'(by omega) = B := ⟨_, rfl⟩
      rw [hB] at htk hxa
      have hrl : (restOf (A.take j)).length ≤ 16 := Nat.le_trans (restOf_le _) (by rw [List.length_take]; omega)
      have hc3j := count3 (A.take j)
      have htl : (A.take j).length ≤ 16 := by rw [List.length_take]; omega
      refine Tri.seq (Tri.region ?_)
      refine TOps.indexAddr (off' := j) rfl rfl Try.underlying52 ti3 (by omega) (by omega) (by simp) rfl ?_
      refine TOps.load1 rfl ti3 (Rd.lit (List.Mem.tail _ (List.Mem.head _)) hxa) rfl ?_
      refine TOps.assign rfl rfl ?_
      refine TOps.next ?_
      refine Tri.seq (Tri.region ?_)
      refine TOps.move rfl rfl ?_
      refine TOps.next ?_
      refine Tri.block ?_
      refine Tri.seq (Tri.region ?_)
      refine TOps.eqlI rfl rfl rfl ?_
      refine TOps.assign rfl rfl ?_
      refine TOps.next ?_
      refine Tri.cond rfl (fun hc2 => ?_) (fun hc2 => ?_)
      · try simp only [decide_eq_true_eq, decide_eq_false_iff_not, Bool.and_eq_true, Bool.or_eq_true, Bool.not_eq_true', Bool.and_eq_false_iff, Bool.or_eq_false_iff, Bool.not_eq_false', Int.not_lt, Int.not_le, ne_eq, Decidable.not_not, Option.isSome_iff_ne_none, Option.isNone_iff_eq_none] at hc2
        have a1 : restOf (A.take (j + 1)) = restOf (A.take j) := by rw [htk, hc2]; simp [restOf]
        have a2 : cntC (-1) (A.take (j + 1)) = cntC (-1) (A.take j) + 1 := by rw [htk, hc2]; simp [cntC]
        have a3 : cntC (-2) (A.take (j + 1)) = cntC (-2) (A.take j) := by rw [htk, hc2]; simp [cntC]
        refine Tri.region ?_
        refine TOps.move rfl rfl ?_
        refine TOps.add (r := ((cntC (-1) (A.take j) + 1 : Nat) : Int)) rfl rfl (by rw [wrapI (by omega) (by omega)]; omega) rfl ?_
        refine TOps.assign rfl rfl ?_
        refine TOps.fin ?_
        refine Nrm.unB ?_
        first
         | refine Nrm.body (some b57, cap57) (fun _ => ⟨_, rfl⟩) (by rw [a1, a2, a3, List.length_append, List.length_singleton]; exact ⟨rfl, rfl, rfl, rfl, rfl, rfl, rfl, rfl, rfl, rfl, rfl, rfl, rfl, rfl, trivial⟩) (by rw [a1, ints_snoc]; exact Le.refl _)
         | refine Nrm.body q (by rw [a1]; exact hpj) (by rw [a1, a2, a3]; exact ⟨rfl, rfl, rfl, rfl, rfl, rfl, rfl, rfl, rfl, rfl, rfl, rfl, rfl, rfl, trivial⟩) (by rw [a1]; exact Le.refl _)
      try simp only [decide_eq_true_eq, decide_eq_false_iff_not, Bool.and_eq_true, Bool.or_eq_true, Bool.not_eq_true', Bool.and_eq_false_iff, Bool.or_eq_false_iff, Bool.not_eq_false', Int.not_lt, Int.not_le, ne_eq, Decidable.not_not, Option.isSome_iff_ne_none, Option.isNone_iff_eq_none] at hc2
      refine Tri.seq (Tri.region ?_)
      refine TOps.eqlI rfl rfl rfl ?_
      refine TOps.assign rfl rfl ?_
      refine TOps.next ?_
      refine Tri.cond rfl (fun hc3 => ?_) (fun hc3 => ?_)
      · try simp only [decide_eq_true_eq, decide_eq_false_iff_not, Bool.and_eq_true, Bool.or_eq_true, Bool.not_eq_true', Bool.and_eq_false_iff, Bool.or_eq_false_iff, Bool.not_eq_false', Int.not_lt, Int.not_le, ne_eq, Decidable.not_not, Option.isSome_iff_ne_none, Option.isNone_iff_eq_none] at hc3
        have a1 : restOf (A.take (j + 1)) = restOf (A.take j) := by rw [htk, hc3]; simp [restOf]
        have a2 : cntC (-1) (A.take (j + 1)) = cntC (-1) (A.take j) := by rw [htk, hc3]; simp [cntC]
        have a3 : cntC (-2) (A.take (j + 1)) = cntC (-2) (A.take j) + 1 := by rw [htk, hc3]; simp [cntC]
        refine Tri.region ?_
        refine TOps.move rfl rfl ?_
        refine TOps.add (r := ((cntC (-2) (A.take j) + 1 : Nat) : Int)) rfl rfl (by rw [wrapI (by omega) (by omega)]; omega) rfl ?_
        refine TOps.assign rfl rfl ?_
        refine TOps.fin ?_
        refine Nrm.unB ?_
        first
         | refine Nrm.body (some b57, cap57) (fun _ => ⟨_, rfl⟩) (by rw [a1, a2, a3, List.length_append, List.length_singleton]; exact ⟨rfl, rfl, rfl, rfl, rfl, rfl, rfl, rfl, rfl, rfl, rfl, rfl, rfl, rfl, trivial⟩) (by rw [a1, ints_snoc]; exact Le.refl _)
         | refine Nrm.body q (by rw [a1]; exact hpj) (by rw [a1, a2, a3]; exact ⟨rfl, rfl, rfl, rfl, rfl, rfl, rfl, rfl, rfl, rfl, rfl, rfl, rfl, rfl, trivial⟩) (by rw [a1]; exact Le.refl _)
      try simp only [decide_eq_true_eq, decide_eq_false_iff_not, Bool.and_eq_true, Bool.or_eq_true, Bool.not_eq_true', Bool.and_eq_false_iff, Bool.or_eq_false_iff, Bool.not_eq_false', Int.not_lt, Int.not_le, ne_eq, Decidable.not_not, Option.isSome_iff_ne_none, Option.isNone_iff_eq_none] at hc3
      have a1 : restOf (A.take (j + 1)) = restOf (A.take j) ++ [B] := by rw [htk]; simp [restOf, hc2, hc3]
      have a2 : cntC (-1) (A.take (j + 1)) = cntC (-1) (A.take j) := by rw [htk]; simp [cntC, hc2]
      have a3 : cntC (-2) (A.take (j + 1)) = cntC (-2) (A.take j) := by rw [htk]; simp [cntC, hc3]
      refine Tri.region ?_
      refine TOps.move rfl rfl ?_
      refine TOps.move rfl rfl ?_
      refine TOps.buildSlice (vs := [_]) (xs := [_]) Try.underlying52 ti3 ⟨rfl, rfl, trivial⟩ rfl rfl rfl rfl rfl rfl (by decide) rfl (fun b56 => ?_)
      refine TOps.appendLit rfl rfl Try.underlying52 ti3 rfl (fun _ _ => Upd.here) rfl (by rw [List.length_map, Nat.mul_one]) rfl (by omega) (by omega) (by simp) rfl (fun b57 cap57 => ?_)
      refine TOps.assign rfl rfl ?_
      refine TOps.fin ?_
      refine Nrm.unB ?_
      first
       | refine Nrm.body (some b57, cap57) (fun _ => ⟨_, rfl⟩) (by rw [a1, a2, a3, List.length_append, List.length_singleton]; exact ⟨rfl, rfl, rfl, rfl, rfl, rfl, rfl, rfl, rfl, rfl, rfl, rfl, rfl, rfl, trivial⟩) (by rw [a1, ints_snoc]; exact Le.refl _)
       | refine Nrm.body q (by rw [a1]; exact hpj) (by rw [a1, a2, a3]; exact ⟨rfl, rfl, rfl, rfl, rfl, rfl, rfl, rfl, rfl, rfl, rfl, rfl, rfl, rfl, trivial⟩) (by rw [a1]; exact Le.refl _)
    rw [show A.take d.args.length = A from List.take_of_length_le (by omega)] at hM hS hpj
    refine Nrm.of hS hM ?_
    refine Nrm.next ?_
    refine Tri.region ?_
    refine TOps.move rfl rfl ?_
    refine TOps.move rfl rfl ?_
    refine TOps.loadN (vs := [.int .i64 d.kind, .int .i64 d.k, slV aa ao d.args.length acap asp]) rfl ti54 (r9.le (Le.drop (Le.drop bld_le))) rfl rfl ?_
    refine TOps.move rfl rfl ?_
    refine TOps.move rfl rfl ?_
    refine TOps.move rfl rfl ?_
    refine TOps.le (Le.keep (List.sublist_cons_self _ _)) ?_
    refine TOps.call (vs := [_, _, _, _, _]) Try.call49 ⟨rfl, rfl, rfl, rfl, rfl, trivial⟩ (folded_g hz1 ⟨by omega, by omega⟩ (by omega) ⟨hfi.k0, hfi.k1⟩ hdok.2.1 (fun h => by have := hk4 h; omega) hpj (by omega) (cntC (-1) A) (cntC (-2) A) (by omega) (by omega) rfl) rfl ?_
    rintro _ _ ⟨s2, rfl, hs2, rfl⟩
    rw [hRR] at hs2 ⊢
    subst hHB
    refine TOps.buildSlice (vs := [_]) (xs := [_]) Try.underlying52 ti3 ⟨rfl, rfl, trivial⟩ rfl rfl rfl rfl rfl rfl (by decide) rfl (fun b74 => ?_)
    refine TOps.appendLit rfl rfl Try.underlying52 ti3 rfl (fun _ _ => Upd.bld (Upd.there Upd.here)) rfl (by rw [List.length_map, hTl, Nat.mul_one]) rfl (by omega) (by omega) (by simp) rfl (fun b75 cap75 => ?_)
    refine TOps.assign rfl rfl ?_
    refine TOps.fin ?_
    refine Nrm.body (s2, some b75, cap75) (by rw [hst]; exact ⟨hs2, fun _ => ⟨_, rfl⟩⟩) ⟨rfl, rfl, rfl, rfl, rfl, rfl, rfl, trivial⟩ (by rw [hst]; dsimp only; rw [ints_snoc]; exact bld_mono (List.sublist_cons_self _ _))
  obtain ⟨z1, ta, tc⟩ := u
  obtain ⟨hz1, hta⟩ := hp
  dsimp only at hz1 hta hM hS ⊢
  obtain ⟨tb, rfl⟩ := hta (by omega)
  obtain ⟨hTl, hSl⟩ := foldS_len (v := v) (nodes := F.nodes) F.nodes.length
  obtain ⟨AT, hAT⟩ : ∃ AT, F.foldT = AT := ⟨_, rfl⟩
  rw [hAT] at hpE hpF hbf hti hft
  refine Nrm.of hS hM ?_
  refine Nrm.next ?_
  refine Tri.seq (Tri.region ?_)
  refine TOps.move rfl rfl ?_
  first | refine TOps.fieldB 2 rfl Try.underlying24 rfl rfl ti3 rfl rfl rfl ?_ | refine TOps.fieldN 2 rfl Try.underlying24 rfl rfl ti3 rfl rfl rfl ?_
  refine TOps.load1 rfl ti3 (Rd.fld (r1.le (Le.trans bld_le (Le.drop (Le.drop (Le.refl _))))) 2 rfl) rfl ?_
  refine TOps.indexAddr (off' := tp) rfl rfl Try.underlying52 ti3 (by omega) (by omega) (by simp) rfl ?_
  refine TOps.load1 (v := .int .i64 AT) rfl ti3 (Rd.le (Rd.lit (List.Mem.head _) (by rw [hft]; exact ints_get (by omega))) bld_le) rfl ?_
  refine TOps.assign rfl rfl ?_
  refine TOps.next ?_
  refine Tri.seq (Tri.region ?_)
  refine TOps.move rfl rfl ?_
  refine TOps.next ?_
  refine Tri.block ?_
  refine Tri.seq ?_
  refine Tri.seq (Tri.region ?_)
  refine TOps.eqlI rfl rfl rfl ?_
  refine TOps.assign rfl rfl ?_
  refine TOps.next ?_
  refine Tri.cond rfl (fun hc4 => ?_) (fun hc4 => ?_)
  · try simp only [decide_eq_true_eq, decide_eq_false_iff_not, Bool.and_eq_true, Bool.or_eq_true, Bool.not_eq_true', Bool.and_eq_false_iff, Bool.or_eq_false_iff, Bool.not_eq_false', Int.not_lt, Int.not_le, ne_eq, Decidable.not_not, Option.isSome_iff_ne_none, Option.isNone_iff_eq_none] at hc4
    refine Tri.fin ?_
    refine Nrm.next ?_
    refine Tri.cond rfl (fun hc5 => ?_) (fun hc5 => ?_)
    · try simp only [decide_eq_true_eq, decide_eq_false_iff_not, Bool.and_eq_true, Bool.or_eq_true, Bool.not_eq_true', Bool.and_eq_false_iff, Bool.or_eq_false_iff, Bool.not_eq_false', Int.not_lt, Int.not_le, ne_eq, Decidable.not_not, Option.isSome_iff_ne_none, Option.isNone_iff_eq_none] at hc5
      have hfc : sizedF ⟨(v : Int), ([] : List Nd) ++ [⟨0, AT + 2, []⟩], (v : Int) + ((0 : Nat) : Int)⟩ = ⟨(v : Int), [⟨0, AT + 2, []⟩], (v : Int)⟩ := by rw [show (v : Int) + ((0 : Nat) : Int) = v by omega]; rfl
      refine Tri.seq (Tri.region ?_)
      refine TOps.field0 rfl Try.underlying24 rfl rfl ti3 rfl rfl rfl ?_
      refine TOps.load1 rfl ti3 (Rd.fld (r1.le (Le.trans bld_le (Le.drop (Le.drop (Le.refl _))))) 0 rfl) rfl ?_
      refine TOps.buildStruct (vs := [(0, _)]) (xs := [_, _, _]) [(0, 1), (1, 1), (2, 1)] Try.underlying24 ti24 (fun w => by simp) ⟨rfl, rfl, trivial⟩ rfl rfl ?_
      refine TOps.buildStruct (vs := [(0, _)]) (xs := [_, _, _]) [(0, 3)] Try.underlying61 ti61 (fun w => by simp) ⟨rfl, rfl, trivial⟩ rfl rfl ?_
      refine TOps.boxN rfl ti61 rfl rfl (fun b95 => ?_)
      refine TOps.assign rfl rfl ?_
      refine TOps.next ?_
      refine Tri.seq (Tri.region ?_)
      refine TOps.le (bld_new (TN := 54)) ?_
      refine TOps.move rfl rfl ?_
      refine TOps.move rfl rfl ?_
      refine TOps.move rfl rfl ?_
      refine TOps.sub (r := AT + 2) rfl rfl (by rw [wrapI (by omega) (by omega)]; omega) rfl ?_
      refine TOps.call (vs := [_, _, _, _]) Try.call30 ⟨rfl, rfl, rfl, rfl, trivial⟩ (add0_g BS.new_ok (L := 0) rfl ⟨by omega, by omega⟩ (by simp) 0 (AT + 2)) rfl ?_
      rintro _ _ ⟨s2, rfl, hs2, rfl⟩
      refine TOps.call (vs := [_, _]) Try.call42 ⟨rfl, rfl, trivial⟩ (done_g hs2 (by simp) _) rfl ?_
      rintro _ _ ⟨a1, c1, NN, rfl, hN2, rfl⟩
      refine TOps.extract rfl rfl rfl ?_
      refine TOps.extract rfl rfl rfl ?_
      refine TOps.storeN rfl rfl ti24 rfl rfl (Upd.app (Upd.bld (Upd.there Upd.here)) NN) (by simp) ?_
      refine TOps.assign rfl rfl ?_
      refine TOps.next ?_
      refine Tri.ret2 (H' := NN ++ H) Try.results26 (fun _ _ h => h) (.cellN rfl rfl ti24 (Rd.all (List.mem_append_right _ (bld_sub.subset (List.Mem.tail _ (List.Mem.head _))))) rfl) (.tmp rfl) (sub_app ((List.Sublist.cons _ (List.Sublist.cons _ s1)).trans bld_sub)) ⟨a1, c1, NN, ?_, ?_, rfl⟩
      · rw [hpE, hpF, if_pos (by omega), if_pos (by omega), ← hfc]; rfl
      · rw [hpF, if_pos (by omega), ← hfc]; exact hN2
    try simp only [decide_eq_true_eq, decide_eq_false_iff_not, Bool.and_eq_true, Bool.or_eq_true, Bool.not_eq_true', Bool.and_eq_false_iff, Bool.or_eq_false_iff, Bool.not_eq_false', Int.not_lt, Int.not_le, ne_eq, Decidable.not_not, Option.isSome_iff_ne_none, Option.isNone_iff_eq_none] at hc5
    have hfalse : False := by omega
    refine Tri.seq (Tri.region ?_)
    refine TOps.move rfl rfl ?_
    refine TOps.move rfl rfl ?_
    refine TOps.call (vs := [_, _]) Try.call33 ⟨rfl, rfl, trivial⟩ (trimmed_g hz1 (by omega) (hbf (by omega))) rfl ?_
    rintro _ _ ⟨a1, c1, NN, rfl, hN2, rfl⟩
    refine TOps.extract rfl rfl rfl ?_
    refine TOps.extract rfl rfl rfl ?_
    refine TOps.storeN rfl rfl ti24 rfl rfl (Upd.app (Upd.there Upd.here) NN) (by simp) ?_
    refine TOps.assign rfl rfl ?_
    refine TOps.next ?_
    exact hfalse.elim
  try simp only [decide_eq_true_eq, decide_eq_false_iff_not, Bool.and_eq_true, Bool.or_eq_true, Bool.not_eq_true', Bool.and_eq_false_iff, Bool.or_eq_false_iff, Bool.not_eq_false', Int.not_lt, Int.not_le, ne_eq, Decidable.not_not, Option.isSome_iff_ne_none, Option.isNone_iff_eq_none] at hc4
  refine Tri.region ?_
  refine TOps.eqlI rfl rfl rfl ?_
  refine TOps.assign rfl rfl ?_
  refine TOps.fin ?_
  refine Nrm.next ?_
  refine Tri.cond rfl (fun hc6 => ?_) (fun hc6 => ?_)
  · try simp only [decide_eq_true_eq, decide_eq_false_iff_not, Bool.and_eq_true, Bool.or_eq_true, Bool.not_eq_true', Bool.and_eq_false_iff, Bool.or_eq_false_iff, Bool.not_eq_false', Int.not_lt, Int.not_le, ne_eq, Decidable.not_not, Option.isSome_iff_ne_none, Option.isNone_iff_eq_none] at hc6
    have hfc : sizedF ⟨(v : Int), ([] : List Nd) ++ [⟨0, AT + 2, []⟩], (v : Int) + ((0 : Nat) : Int)⟩ = ⟨(v : Int), [⟨0, AT + 2, []⟩], (v : Int)⟩ := by rw [show (v : Int) + ((0 : Nat) : Int) = v by omega]; rfl
    refine Tri.seq (Tri.region ?_)
    refine TOps.field0 rfl Try.underlying24 rfl rfl ti3 rfl rfl rfl ?_
    refine TOps.load1 rfl ti3 (Rd.fld (r1.le (Le.trans bld_le (Le.drop (Le.drop (Le.refl _))))) 0 rfl) rfl ?_
    refine TOps.buildStruct (vs := [(0, _)]) (xs := [_, _, _]) [(0, 1), (1, 1), (2, 1)] Try.underlying24 ti24 (fun w => by simp) ⟨rfl, rfl, trivial⟩ rfl rfl ?_
    refine TOps.buildStruct (vs := [(0, _)]) (xs := [_, _, _]) [(0, 3)] Try.underlying61 ti61 (fun w => by simp) ⟨rfl, rfl, trivial⟩ rfl rfl ?_
    refine TOps.boxN rfl ti61 rfl rfl (fun b95 => ?_)
    refine TOps.assign rfl rfl ?_
    refine TOps.next ?_
    refine Tri.seq (Tri.region ?_)
    refine TOps.le (bld_new (TN := 54)) ?_
    refine TOps.move rfl rfl ?_
    refine TOps.move rfl rfl ?_
    refine TOps.move rfl rfl ?_
    refine TOps.sub (r := AT + 2) rfl rfl (by rw [wrapI (by omega) (by omega)]; omega) rfl ?_
    refine TOps.call (vs := [_, _, _, _]) Try.call30 ⟨rfl, rfl, rfl, rfl, trivial⟩ (add0_g BS.new_ok (L := 0) rfl ⟨by omega, by omega⟩ (by simp) 0 (AT + 2)) rfl ?_
    rintro _ _ ⟨s2, rfl, hs2, rfl⟩
    refine TOps.call (vs := [_, _]) Try.call42 ⟨rfl, rfl, trivial⟩ (done_g hs2 (by simp) _) rfl ?_
    rintro _ _ ⟨a1, c1, NN, rfl, hN2, rfl⟩
    refine TOps.extract rfl rfl rfl ?_
    refine TOps.extract rfl rfl rfl ?_
    refine TOps.storeN rfl rfl ti24 rfl rfl (Upd.app (Upd.bld (Upd.there Upd.here)) NN) (by simp) ?_
    refine TOps.assign rfl rfl ?_
    refine TOps.next ?_
    refine Tri.ret2 (H' := NN ++ H) Try.results26 (fun _ _ h => h) (.cellN rfl rfl ti24 (Rd.all (List.mem_append_right _ (bld_sub.subset (List.Mem.tail _ (List.Mem.head _))))) rfl) (.tmp rfl) (sub_app ((List.Sublist.cons _ (List.Sublist.cons _ s1)).trans bld_sub)) ⟨a1, c1, NN, ?_, ?_, rfl⟩
    · rw [hpE, hpF, if_pos (by omega), if_pos (by omega), ← hfc]; rfl
    · rw [hpF, if_pos (by omega), ← hfc]; exact hN2
  try simp only [decide_eq_true_eq, decide_eq_false_iff_not, Bool.and_eq_true, Bool.or_eq_true, Bool.not_eq_true', Bool.and_eq_false_iff, Bool.or_eq_false_iff, Bool.not_eq_false', Int.not_lt, Int.not_le, ne_eq, Decidable.not_not, Option.isSome_iff_ne_none, Option.isNone_iff_eq_none] at hc6
  refine Tri.seq (Tri.region ?_)
  refine TOps.move rfl rfl ?_
  refine TOps.move rfl rfl ?_
  refine TOps.call (vs := [_, _]) Try.call33 ⟨rfl, rfl, trivial⟩ (trimmed_g hz1 (by omega) (hbf (by omega))) rfl ?_
  rintro _ _ ⟨a1, c1, NN, rfl, hN2, rfl⟩
  refine TOps.extract rfl rfl rfl ?_
  refine TOps.extract rfl rfl rfl ?_
  refine TOps.storeN rfl rfl ti24 rfl rfl (Upd.app (Upd.there Upd.here) NN) (by simp) ?_
  refine TOps.assign rfl rfl ?_
  refine TOps.next ?_
  refine Tri.ret2 (H' := NN ++ H) Try.results26 (fun _ _ h => h) (.cellN rfl rfl ti24 (Rd.all (List.mem_append_right _ (List.Mem.tail _ (List.Mem.head _)))) rfl) (.tmp rfl) (sub_app (List.Sublist.cons _ (List.Sublist.cons _ s1))) ⟨a1, c1, NN, ?_, ?_, rfl⟩
  · rw [hpE, hpF, if_neg (by omega), if_neg (by omega)]; rfl
  · rw [hpF, if_neg (by omega)]; exact hN2
end Go.Proofs
