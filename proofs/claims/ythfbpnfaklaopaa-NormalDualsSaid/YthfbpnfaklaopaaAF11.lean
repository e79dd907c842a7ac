import Derived.Test.YthfbpnfaklaopaaAE11
namespace Go.Proofs
open Go.GL
set_option linter.unusedVariables false
set_option linter.unusedSimpArgs false
theorem swapC_ge {a : Int} (h : -2 ≤ a) : -2 ≤ swapC a := by unfold swapC; (repeat' split) <;> omega
theorem trI_ge {T xs : List Int} (h : ∀ a ∈ T, -2 ≤ a) : ∀ a ∈ trI (T.map swapC) xs, -2 ≤ a := by
  intro a ha
  obtain ⟨b, _, rfl⟩ := List.mem_map.1 ha
  rw [getD_swap]
  refine swapC_ge ?_
  rw [List.getD_eq_getElem?_getD]
  rcases Nat.lt_or_ge b.toNat T.length with hl | hl
  · rw [List.getElem?_eq_getElem hl]; exact h _ (List.getElem_mem _)
  · rw [List.getElem?_eq_none hl]; decide
set_option maxHeartbeats 2000000 in
theorem rfold_g {H : List Ent} {fv : Value} {F : Fm} (hF : RF H fv F) (hg : F.Good) :
    Gives Try.prog 28 [fv] H (NewV F.foldF (.int .i64 (F.foldE.getD 0)) H) := by
  obtain ⟨na, off, cap, nsp, rfl, hN⟩ := hF
  have g0 := hg.v0; have g1 := hg.v1; have g2 := hg.n1; have gt := hg.topLt
  obtain ⟨v, hv⟩ := Int.eq_ofNat_of_zero_le g0
  have hvn : F.vars.toNat = v := by omega
  obtain ⟨tp, htp⟩ := Int.eq_ofNat_of_zero_le gt.1
  have he := (Fm.good_iff F).2 hg
  have hpE : F.foldE = if F.foldT = -1 ∨ F.foldT = -2 then none else sizedE F.foldB.trim := by unfold Fm.foldE; rw [he]
  have hpF : F.foldF = if F.foldT = -1 ∨ F.foldT = -2 then F.foldC else sizedF F.foldB.trim := by unfold Fm.foldF; rw [he]
  have hfc : F.foldC = ⟨(v : Int), [⟨0, F.foldT + 2, []⟩], (v : Int)⟩ := by unfold Fm.foldC; rw [hv]
  have hfb : F.foldB = ⟨(v : Int), (foldS v F.nodes F.nodes.length).2, F.foldT⟩ := by unfold Fm.foldB; rw [hvn, hv]
  have hft : F.foldT = (foldS v F.nodes F.nodes.length).1.getD tp 0 := by unfold Fm.foldT; rw [hvn, htp, Int.toNat_natCast]
  have hti : -2 ≤ F.foldT := by have h := foldT_in hg; rcases h with h | h | h; omega; omega; have := h.1; omega
  have hbf : ¬(F.foldT = -1 ∨ F.foldT = -2) → F.foldB.Fit := fun h => foldB_fit hg h
  rw [hfb] at hpE hpF hbf
  rw [hfc] at hpF
  have hTge : ∀ k, k ≤ F.nodes.length → ∀ a ∈ (foldS v F.nodes k).1, -2 ≤ a := fun k hk a ha => by
    have h := (foldS_law hg hv k hk).2.1 a ha
    rcases h with h | h | h
    · omega
    · omega
    · have := h.1; omega
  clear hfc hfb he
  obtain ⟨AT, hAT⟩ : ∃ AT, F.foldT = AT := ⟨_, rfl⟩
  rw [hAT] at hpE hpF hbf hti hft
  rw [hv, htp]
  refine Gives.enter Try.func28 rfl (by exact Try.ntmps28) rfl ?_
  refine Tri.seq (Tri.region ?_)
  refine TOps.boxN rfl ti24 rfl rfl (fun b1 => ?_)
  refine TOps.hide (fun H1 l1 s1 r1 => ?_)
  replace hN := hN.le l1
  refine TOps.alloc ti24 rfl (fun b2 => ?_)
  refine TOps.assign rfl rfl ?_
  refine TOps.next ?_
  refine Tri.seq (Tri.region ?_)
  refine TOps.field0 rfl Try.underlying24 rfl rfl ti3 rfl rfl rfl ?_
  refine TOps.load1 rfl ti3 (by first | exact Rd.lit (by repeat (first | exact List.Mem.head _ | apply List.Mem.tail)) rfl | (repeat (first | assumption | exact Rd.fld (by assumption) 0 rfl | apply Rd.up))) rfl ?_
  refine TOps.buildStruct (vs := [(0, _)]) (xs := [_, _, _]) [(0, 1), (1, 1), (2, 1)] Try.underlying24 ti24 (fun w => by simp) ⟨rfl, rfl, trivial⟩ rfl rfl ?_
  refine TOps.alloc ti24 rfl (fun b4 => ?_)
  refine TOps.storeN rfl rfl ti24 rfl rfl (by repeat (first | exact Upd.here | apply Upd.there)) (by first | decide | (simp; done) | (simp; omega)) ?_
  refine TOps.next ?_
  refine Tri.seq (Tri.region ?_)
  refine TOps.field0 rfl Try.underlying24 rfl rfl ti3 rfl rfl rfl ?_
  refine TOps.load1 rfl ti3 (by first | exact Rd.lit (by repeat (first | exact List.Mem.head _ | apply List.Mem.tail)) rfl | (repeat (first | assumption | exact Rd.fld (by assumption) 0 rfl | apply Rd.up))) rfl ?_
  first | refine TOps.fieldB 1 rfl Try.underlying24 rfl rfl ti22 rfl rfl rfl ?_ | refine TOps.fieldN 1 rfl Try.underlying24 rfl rfl ti22 rfl rfl rfl ?_
  refine TOps.load1 rfl ti22 (by first | exact Rd.lit (by repeat (first | exact List.Mem.head _ | apply List.Mem.tail)) rfl | (repeat (first | assumption | exact Rd.fld (by assumption) 1 rfl | apply Rd.up))) rfl ?_
  refine TOps.len rfl Try.underlying22 rfl ?_
  refine TOps.add (r := ((v + F.nodes.length : Nat) : Int)) rfl rfl (by rw [wrapI (by omega) (by omega)]; omega) rfl ?_
  refine TOps.make1 rfl rfl Try.underlying52 ti3 (by omega) (by omega) (by omega) rfl (fun b21 => ?_)
  refine TOps.assign rfl rfl ?_
  refine TOps.le (H' := bld 24 54 b4 v [] 0 BS.new (row (some b21) 3 1 (v + F.nodes.length) (List.replicate (v + F.nodes.length) (.int .i64 0)) :: row (some b2) 24 3 1 [.int .i64 0, slV none 0 0 0, .int .i64 0] :: H1)) (Le.trans (b := row (some b4) 24 3 1 [.int .i64 v, slV none 0 0 0, .int .i64 0] :: row (some b21) 3 1 (v + F.nodes.length) (List.replicate (v + F.nodes.length) (.int .i64 0)) :: row (some b2) 24 3 1 [.int .i64 0, slV none 0 0 0, .int .i64 0] :: H1) (Sp.le (by repeat (first | exact Sp.refl _ | exact Sp.sub (by assumption) | refine Sp.cons (by repeat (first | exact Pick.here | apply Pick.there)) ?_ | exact Sp.nil | apply Sp.skip))) bld_new) ?_
  refine TOps.next ?_
  refine Tri.seq ?_
  refine Tri.seq (Tri.region ?_)
  refine TOps.field0 rfl Try.underlying24 rfl rfl ti3 rfl rfl rfl ?_
  refine TOps.load1 rfl ti3 (Rd.fld (r1.le (Le.trans bld_le (Le.drop (Le.drop (Le.refl _))))) 0 rfl) rfl ?_
  refine TOps.move rfl rfl ?_
  refine TOps.next ?_
  refine Tri.range (X := Unit) (fun x k => [(1, .pointer (some ⟨b1, 0, none⟩)), (2, .pointer (some ⟨b2, 0, none⟩)), (4, .pointer (some ⟨b4, 0, none⟩)), (5, slV (some b21) 0 (v + F.nodes.length) (v + F.nodes.length))]) (fun x k => bld 24 54 b4 v [] 0 BS.new (row (some b21) 3 1 (v + F.nodes.length) (ints (tabI (evI k) (v + F.nodes.length))) :: row (some b2) 24 3 1 [.int .i64 0, slV none 0 0 0, .int .i64 0] :: H1)) (fun x k => True) (by omega) rfl rfl rfl (fun _ _ => ⟨rfl, rfl, rfl, rfl⟩) () trivial ⟨rfl, rfl, rfl, rfl, trivial⟩ (by rw [show evI 0 = [] from rfl, tabI_nil]; simp only [ints, List.map_replicate]; exact Le.refl _) (fun k x hlt hp => ?_) (fun x ac wc hp hS hM => ?_)
  · skip
    refine Tri.seq (Tri.region ?_)
    refine TOps.move rfl rfl ?_
    refine TOps.assign rfl rfl ?_
    refine TOps.next ?_
    refine Tri.region ?_
    refine TOps.move rfl rfl ?_
    refine TOps.move rfl rfl ?_
    refine TOps.move rfl rfl ?_
    refine TOps.indexAddr (off' := k) rfl rfl Try.underlying52 ti3 (by omega) (by omega) (by simp) rfl ?_
    refine TOps.store1 rfl rfl ti3 rfl rfl (Upd.bld Upd.here) (by rw [List.length_map, tabI_length (by rw [evI_length]; omega)]; omega) ?_
    refine TOps.fin ?_
    refine Nrm.body () trivial ⟨rfl, rfl, rfl, rfl, rfl, rfl, trivial⟩ (by
      have e1 := tabI_set (P := evI k) (m := v + F.nodes.length) (x := (k : Int)) (by rw [evI_length]; omega)
      rw [evI_length] at e1
      rw [evI_succ, ← e1, ints_set]
      exact Le.refl _)
  refine Nrm.of hS hM ?_
  refine Nrm.next ?_
  refine Tri.seq ?_
  refine Tri.seq (Tri.region ?_)
  first | refine TOps.fieldB 1 rfl Try.underlying24 rfl rfl ti22 rfl rfl rfl ?_ | refine TOps.fieldN 1 rfl Try.underlying24 rfl rfl ti22 rfl rfl rfl ?_
  refine TOps.load1 rfl ti22 (Rd.fld (r1.le (Le.trans bld_le (Le.drop (Le.drop (Le.refl _))))) 1 rfl) rfl ?_
  refine TOps.len rfl Try.underlying22 rfl ?_
  refine TOps.move rfl rfl ?_
  refine TOps.next ?_
  refine Tri.range (X := BS) (fun u k => [(1, .pointer (some ⟨b1, 0, none⟩)), (2, .pointer (some ⟨b2, 0, none⟩)), (4, .pointer (some ⟨b4, 0, none⟩)), (5, slV (some b21) 0 (v + F.nodes.length) (v + F.nodes.length)), (33, slV na off F.nodes.length cap nsp)]) (fun u k => bld 24 54 b4 v (foldS v F.nodes k).2 0 u (row (some b21) 3 1 (v + F.nodes.length) (ints (tabI ((foldS v F.nodes k).1.map swapC) (v + F.nodes.length))) :: row (some b2) 24 3 1 [.int .i64 0, slV none 0 0 0, .int .i64 0] :: H1)) (fun u k => u.ok (foldS v F.nodes k).2) (by omega) rfl rfl rfl (fun _ _ => ⟨rfl, rfl, rfl, rfl⟩) BS.new BS.new_ok ⟨rfl, rfl, rfl, rfl, rfl, trivial⟩ (by rw [show (foldS v F.nodes 0).1 = evI v from rfl, evI_swap]; exact Le.refl _) (fun k u hlt hp => ?_) (fun u ac wc hp hS hM => ?_)
  · skip
    have hz1 := hp
    obtain ⟨z1, hz1e⟩ : ∃ z1, u = z1 := ⟨_, rfl⟩
    rw [hz1e] at hz1 ⊢
    obtain ⟨nb, aa, ao, acap, asp, rfl, rfl, hn⟩ := hN.at hlt
    have hfi := hg.fits k hlt
    rw [hv] at hfi
    have hal := hfi.len
    obtain ⟨hTl, hSl⟩ := foldS_len (v := v) (nodes := F.nodes) k
    have hst : foldS v F.nodes (k + 1) = ((foldS v F.nodes k).1 ++ [(fold1 v F.nodes[k] (restOf (trI (foldS v F.nodes k).1 F.nodes[k].args)) (cntC (-1) (trI (foldS v F.nodes k).1 F.nodes[k].args)) (cntC (-2) (trI (foldS v F.nodes k).1 F.nodes[k].args)) (foldS v F.nodes k).2).2], (fold1 v F.nodes[k] (restOf (trI (foldS v F.nodes k).1 F.nodes[k].args)) (cntC (-1) (trI (foldS v F.nodes k).1 F.nodes[k].args)) (cntC (-2) (trI (foldS v F.nodes k).1 F.nodes[k].args)) (foldS v F.nodes k).2).1) := by rw [foldS]; simp [hlt]
    have hdok := hg.ok.2.2.1 F.nodes[k] (List.getElem_mem hlt)
    have hge := hTge k (by omega)
    obtain ⟨d, hd⟩ : ∃ d, F.nodes[k] = d := ⟨_, rfl⟩
    obtain ⟨T, hT⟩ : ∃ T, (foldS v F.nodes k).1 = T := ⟨_, rfl⟩
    obtain ⟨NS, hNS⟩ : ∃ NS, (foldS v F.nodes k).2 = NS := ⟨_, rfl⟩
    rw [hd, hT, hNS] at hst
    rw [hd] at hn hfi hal hdok
    rw [hT] at hTl hge
    rw [hNS] at hSl hz1
    rw [hT, hNS]
    obtain ⟨RR, hRR⟩ : ∃ RR, fold1 v d (restOf (trI T d.args)) (cntC (-1) (trI T d.args)) (cntC (-2) (trI T d.args)) NS = RR := ⟨_, rfl⟩
    rw [hRR] at hst
    have hRR' := hRR
    rw [← restOf_swap, ← cnt2_swap, ← cnt1_swap (trI T d.args), ← trI_swap] at hRR'
    have hA0 := trI_ge (xs := d.args) hge
    obtain ⟨Tr, hTr⟩ : ∃ Tr, T.map swapC = Tr := ⟨_, rfl⟩
    have hTrl : Tr.length = v + k := by rw [← hTr, List.length_map, hTl]
    have hstr : (T ++ [RR.2]).map swapC = Tr ++ [swapC RR.2] := by rw [List.map_append, hTr]; rfl
    rw [hTr] at hRR' hA0 ⊢
    have hin : ∀ a ∈ d.args, 0 ≤ a ∧ a.toNat < v + k := fun a ha => by have := hfi.args a ha; omega
    have hk4 := hfi.kk.2.1
    have har := hfi.ar
    have hk1 : d.kind = 1 → d.args.length = 1 := fun h1 => by rw [h1] at har; unfold argsB at har; simp at har; omega
    refine Tri.seq (Tri.region ?_)
    refine TOps.move rfl rfl ?_
    refine TOps.indexAddr (off' := off + k * 3) rfl rfl Try.underlying22 ti54 (by omega) (by omega) (by simp) rfl ?_
    refine TOps.loadN (vs := [.int .i64 d.kind, .int .i64 d.k, slV aa ao d.args.length acap asp]) rfl ti54 (hn.cells.le (Le.trans bld_le (Le.drop (Le.drop (Le.refl _))))) rfl rfl ?_
    refine TOps.alloc ti54 rfl (fun b8 => ?_)
    refine TOps.assign rfl rfl ?_
    refine TOps.storeN rfl rfl ti54 rfl rfl (by repeat (first | exact Upd.here | apply Upd.there)) (by first | decide | (simp; done) | (simp; omega)) ?_
    refine TOps.le bld_in ?_
    obtain ⟨HB, hHB⟩ : ∃ HB, HB = row (some b8) 54 3 1 [.int .i64 d.kind, .int .i64 d.k, slV aa ao d.args.length acap asp] :: row (some b21) 3 1 (v + F.nodes.length) (ints (tabI Tr (v + F.nodes.length))) :: row (some b2) 24 3 1 [.int .i64 0, slV none 0 0 0, .int .i64 0] :: H1 := ⟨_, rfl⟩
    have r8 : Rd HB b8 0 [.int .i64 d.kind, .int .i64 d.k, slV aa ao d.args.length acap asp] := by rw [hHB]; exact Rd.all (by repeat (first | exact List.Mem.head _ | apply List.Mem.tail))
    have hargs : RInts HB aa ao d.args asp := by rw [hHB]; exact RdS.le hn.args (Le.drop (Le.drop (Le.drop (Le.refl _))))
    have rp : RInts HB (some b21) 0 (tabI Tr (v + F.nodes.length)) := by rw [hHB]; exact RdS.ofRowS (by repeat (first | exact List.Mem.head _ | apply List.Mem.tail))
    have htT : (tabI Tr (v + F.nodes.length)).length = v + F.nodes.length := tabI_length (by omega)
    refine TOps.le (H' := bld 24 54 b4 v NS 0 z1 HB) (by rw [hHB]; exact Le.refl _) ?_
    refine TOps.next ?_
    refine Tri.seq (Tri.region ?_)
    refine TOps.assign rfl rfl ?_
    refine TOps.next ?_
    refine Tri.seq ?_
    refine Tri.seq (Tri.region ?_)
    first | refine TOps.fieldB 2 rfl Try.underlying54 rfl rfl ti52 rfl rfl rfl ?_ | refine TOps.fieldN 2 rfl Try.underlying54 rfl rfl ti52 rfl rfl rfl ?_
    refine TOps.load1 rfl ti52 (Rd.fld (r8.le bld_le) 2 rfl) rfl ?_
    refine TOps.len rfl Try.underlying52 rfl ?_
    refine TOps.move rfl rfl ?_
    refine TOps.next ?_
    refine Tri.range (X := Option Nat × Nat) (fun q j => [(1, .pointer (some ⟨b1, 0, none⟩)), (2, .pointer (some ⟨b2, 0, none⟩)), (4, .pointer (some ⟨b4, 0, none⟩)), (5, slV (some b21) 0 (v + F.nodes.length) (v + F.nodes.length)), (33, slV (some nb) off F.nodes.length cap none), (34, .int .i64 F.nodes.length), (35, .int .i64 k), (7, .int .i64 k), (8, .pointer (some ⟨b8, 0, none⟩)), (9, slV q.1 0 j q.2), (41, slV aa ao d.args.length acap asp)]) (fun q j => row q.1 3 1 q.2 (ints (trI Tr (d.args.take j))) :: bld 24 54 b4 v NS 0 z1 HB) (fun q j => j ≠ 0 → ∃ b, q.1 = some b) (by omega) rfl rfl rfl (fun _ _ => ⟨rfl, rfl, rfl, rfl⟩) (none, 0) (fun h => absurd rfl h) ⟨rfl, rfl, rfl, rfl, rfl, rfl, rfl, rfl, rfl, rfl, rfl, trivial⟩ Le.addNil (fun j q hltj hpj => ?_) (fun q ac wc hpj hS hM => ?_)
    · skip
      obtain ⟨ab, rfl, rfl, ha⟩ := hargs.at hltj
      obtain ⟨hb0, hb1⟩ := hin _ (List.getElem_mem hltj)
      obtain ⟨_, e1, _, hpk⟩ := rp.at (i := d.args[j].toNat) (by omega)
      obtain rfl := Option.some.inj e1
      have gp : (tabI Tr (v + F.nodes.length))[d.args[j].toNat]'(by omega) = Tr.getD d.args[j].toNat 0 := by rw [← tabI_getD (m := v + F.nodes.length) (by omega), List.getD_eq_getElem?_getD, List.getElem?_eq_getElem (by omega)]; rfl
      rw [gp] at hpk
      refine Tri.seq (Tri.region ?_)
      refine TOps.indexAddr (off' := ao + j) rfl rfl Try.underlying52 ti3 (by omega) (by omega) (by simp) rfl ?_
      refine TOps.load1 rfl ti3 (Rd.le ha (Le.drop bld_le)) rfl ?_
      refine TOps.assign rfl rfl ?_
      refine TOps.next ?_
      refine Tri.region ?_
      refine TOps.move rfl rfl ?_
      refine TOps.move rfl rfl ?_
      refine TOps.move rfl rfl ?_
      refine TOps.indexAddr (off' := 0 + d.args[j].toNat) rfl rfl Try.underlying52 ti3 (by omega) (by omega) (by simp) rfl ?_
      refine TOps.load1 rfl ti3 (Rd.le hpk (Le.drop bld_le)) rfl ?_
      refine TOps.buildSlice (vs := [_]) (xs := [_]) Try.underlying52 ti3 ⟨rfl, rfl, trivial⟩ rfl rfl rfl rfl rfl rfl (by decide) rfl (fun b52 => ?_)
      refine TOps.appendLit rfl rfl Try.underlying52 ti3 rfl (fun _ _ => Upd.here) rfl (by simp [trI_length]; omega) rfl (by omega) (by omega) (by simp) rfl (fun b53 cap53 => ?_)
      refine TOps.assign rfl rfl ?_
      refine TOps.fin ?_
      refine Nrm.body (some b53, cap53) (fun _ => ⟨_, rfl⟩) ⟨rfl, rfl, rfl, rfl, rfl, rfl, rfl, rfl, rfl, rfl, rfl, rfl, rfl, trivial⟩ (Le.rowEq (by rw [trI_take_succ hltj, ints_snoc]))
    rw [List.take_length] at hM
    have hq := hpj
    obtain ⟨qa, qac⟩ := q
    dsimp only at hM hS hq
    refine Nrm.of hS hM ?_
    refine Nrm.next ?_
    subst hHB
    refine Tri.le bld_in ?_
    have ra : RInts (row qa 3 1 qac (ints (trI Tr d.args)) :: row (some b8) 54 3 1 [.int .i64 d.kind, .int .i64 d.k, slV aa ao d.args.length acap asp] :: row (some b21) 3 1 (v + F.nodes.length) (ints (tabI Tr (v + F.nodes.length))) :: row (some b2) 24 3 1 [.int .i64 0, slV none 0 0 0, .int .i64 0] :: H1) qa 0 (trI Tr d.args) := RdS.ofRowA (by repeat (first | exact List.Mem.head _ | apply List.Mem.tail)) (fun h => (hq (by intro h0; exact h (by rw [List.eq_nil_of_length_eq_zero h0]; rfl))))
    have hlc : ∀ (x : BS) (c : Nat), Le (match c with | 0 => bld 24 54 b4 v NS 0 z1 (row qa 3 1 qac (ints (trI Tr d.args)) :: row (some b8) 54 3 1 [.int .i64 d.kind, .int .i64 d.k, slV aa ao d.args.length acap asp] :: row (some b21) 3 1 (v + F.nodes.length) (ints (tabI Tr (v + F.nodes.length))) :: row (some b2) 24 3 1 [.int .i64 0, slV none 0 0 0, .int .i64 0] :: H1) | 1 => fact (x.ok RR.1) :: bldH 24 54 b4 [.int .i64 v, slV z1.oa 0 NS.length z1.cap, .int .i64 0] RR.1 x (row qa 3 1 qac (ints (trI Tr d.args)) :: row (some b8) 54 3 1 [.int .i64 d.kind, .int .i64 d.k, slV aa ao d.args.length acap asp] :: row (some b21) 3 1 (v + F.nodes.length) (ints (tabI Tr (v + F.nodes.length))) :: row (some b2) 24 3 1 [.int .i64 0, slV none 0 0 0, .int .i64 0] :: H1) | 2 => fact (x.ok RR.1) :: bld 24 54 b4 v RR.1 0 x (row qa 3 1 qac (ints (trI Tr d.args)) :: row (some b8) 54 3 1 [.int .i64 d.kind, .int .i64 d.k, slV aa ao d.args.length acap asp] :: row (some b21) 3 1 (v + F.nodes.length) (ints (tabI Tr (v + F.nodes.length))) :: row (some b2) 24 3 1 [.int .i64 0, slV none 0 0 0, .int .i64 0] :: H1) | _ + 3 => fact (x.ok RR.1) :: bld 24 54 b4 v RR.1 0 x (row qa 3 1 qac (ints (trI Tr d.args)) :: row (some b8) 54 3 1 [.int .i64 d.kind, .int .i64 d.k, slV aa ao d.args.length acap asp] :: row (some b21) 3 1 (v + F.nodes.length) ((ints (tabI Tr (v + F.nodes.length))).set (v + k) (.int .i64 (swapC RR.2))) :: row (some b2) 24 3 1 [.int .i64 0, slV none 0 0 0, .int .i64 0] :: H1)) H1 := by
      intro x c
      match c with
      | 0 => exact Le.trans bld_le (Le.drop (Le.drop (Le.drop (Le.drop (Le.refl _)))))
      | 1 => exact Le.drop (Le.trans bldH_le (Le.drop (Le.drop (Le.drop (Le.drop (Le.refl _))))))
      | 2 => exact Le.drop (Le.trans bld_le (Le.drop (Le.drop (Le.drop (Le.drop (Le.refl _))))))
      | _ + 3 => exact Le.drop (Le.trans bld_le (Le.drop (Le.drop (Le.drop (Le.drop (Le.refl _))))))
    refine Tri.drawX (X := BS) rfl [(1, .pointer (some ⟨b1, 0, none⟩)), (2, .pointer (some ⟨b2, 0, none⟩)), (4, .pointer (some ⟨b4, 0, none⟩)), (5, slV (some b21) 0 (v + F.nodes.length) (v + F.nodes.length)), (33, slV (some nb) off F.nodes.length cap none), (34, .int .i64 F.nodes.length), (35, .int .i64 k), (7, .int .i64 k), (8, .pointer (some ⟨b8, 0, none⟩)), (9, slV qa 0 d.args.length qac)] [] (fun x => [_, _, _, _, _, _, _, _, .tuple (List.toArray [.agg (List.toArray [.int .i64 v, slV x.oa 0 RR.1.length x.cap, .int .i64 0]), .int .i64 (swapC RR.2)]), .tuple (List.toArray [.agg (List.toArray [.int .i64 v, slV x.oa 0 RR.1.length x.cap, .int .i64 0]), .int .i64 (swapC RR.2)]), .agg (List.toArray [.int .i64 v, slV x.oa 0 RR.1.length x.cap, .int .i64 0]), .int .i64 (swapC RR.2), undef, _, undef]) (fun x c => match c with | 0 => bld 24 54 b4 v NS 0 z1 (row qa 3 1 qac (ints (trI Tr d.args)) :: row (some b8) 54 3 1 [.int .i64 d.kind, .int .i64 d.k, slV aa ao d.args.length acap asp] :: row (some b21) 3 1 (v + F.nodes.length) (ints (tabI Tr (v + F.nodes.length))) :: row (some b2) 24 3 1 [.int .i64 0, slV none 0 0 0, .int .i64 0] :: H1) | 1 => fact (x.ok RR.1) :: bldH 24 54 b4 [.int .i64 v, slV z1.oa 0 NS.length z1.cap, .int .i64 0] RR.1 x (row qa 3 1 qac (ints (trI Tr d.args)) :: row (some b8) 54 3 1 [.int .i64 d.kind, .int .i64 d.k, slV aa ao d.args.length acap asp] :: row (some b21) 3 1 (v + F.nodes.length) (ints (tabI Tr (v + F.nodes.length))) :: row (some b2) 24 3 1 [.int .i64 0, slV none 0 0 0, .int .i64 0] :: H1) | 2 => fact (x.ok RR.1) :: bld 24 54 b4 v RR.1 0 x (row qa 3 1 qac (ints (trI Tr d.args)) :: row (some b8) 54 3 1 [.int .i64 d.kind, .int .i64 d.k, slV aa ao d.args.length acap asp] :: row (some b21) 3 1 (v + F.nodes.length) (ints (tabI Tr (v + F.nodes.length))) :: row (some b2) 24 3 1 [.int .i64 0, slV none 0 0 0, .int .i64 0] :: H1) | _ + 3 => fact (x.ok RR.1) :: bld 24 54 b4 v RR.1 0 x (row qa 3 1 qac (ints (trI Tr d.args)) :: row (some b8) 54 3 1 [.int .i64 d.kind, .int .i64 d.k, slV aa ao d.args.length acap asp] :: row (some b21) 3 1 (v + F.nodes.length) ((ints (tabI Tr (v + F.nodes.length))).set (v + k) (.int .i64 (swapC RR.2))) :: row (some b2) 24 3 1 [.int .i64 0, slV none 0 0 0, .int .i64 0] :: H1)) [8, 12, 14] BS.new [] rfl rfl ⟨rfl, rfl, rfl, rfl, rfl, rfl, rfl, rfl, rfl, rfl, trivial⟩ trivial (Le.refl _) (by
      refine ⟨?_, ?_, ?_, ?_, ?_, ?_, ?_, ?_, ?_, ?_, ?_, ?_, ?_, ?_, ?_, trivial⟩
      · refine ⟨fun x S c he hw hd hc hcu hm _ => ?_, trivial⟩
        refine TOps.move (he _ _ rfl) rfl ?_
        exact TOps.fin (Nrm.draw x (fun _ _ _ => rfl) rfl (by first | exact Le.refl _ | assumption | exact (by repeat (first | exact Le.refl _ | assumption | apply Le.drop))))
      · refine ⟨fun x S c he hw hd hc hcu hm _ => ?_, trivial⟩
        refine TOps.field0 (he _ _ rfl) Try.underlying24 rfl rfl ti3 rfl rfl rfl ?_
        exact TOps.fin (Nrm.draw x (fun _ _ _ => rfl) rfl (by first | exact Le.refl _ | assumption | exact (by repeat (first | exact Le.refl _ | assumption | apply Le.drop))))
      · refine ⟨fun x S c he hw hd hc hcu hm _ => ?_, trivial⟩
        obtain ⟨h1, -⟩ := hd
        refine TOps.load1 h1 ti3 (Rd.fld (r1.le (hlc x c)) 0 rfl) rfl ?_
        exact TOps.fin (Nrm.draw x (fun _ _ _ => rfl) rfl (by first | exact Le.refl _ | assumption | exact (by repeat (first | exact Le.refl _ | assumption | apply Le.drop))))
      · refine ⟨fun x S c he hw hd hc hcu hm _ => ?_, trivial⟩
        refine TOps.move (he _ _ rfl) rfl ?_
        exact TOps.fin (Nrm.draw x (fun _ _ _ => rfl) rfl (by first | exact Le.refl _ | assumption | exact (by repeat (first | exact Le.refl _ | assumption | apply Le.drop))))
      · refine ⟨fun x S c he hw hd hc hcu hm _ => ?_, trivial⟩
        obtain ⟨h2, h3, -⟩ := hd
        refine TOps.add (r := ((v + k : Nat) : Int)) h2 h3 (by rw [wrapI (by omega) (by omega)]; omega) rfl ?_
        exact TOps.fin (Nrm.draw x (fun _ _ _ => rfl) rfl (by first | exact Le.refl _ | assumption | exact (by repeat (first | exact Le.refl _ | assumption | apply Le.drop))))
      · refine ⟨fun x S c he hw hd hc hcu hm _ => ?_, trivial⟩
        obtain rfl : c = 0 := by have : c ≤ 0 := hcu; omega
        refine TOps.loadN (vs := [.int .i64 v, slV z1.oa 0 NS.length z1.cap, .int .i64 0]) (he _ _ rfl) ti24 bld_rd rfl rfl ?_
        exact TOps.fin (Nrm.draw x (fun _ _ _ => rfl) rfl (by first | exact Le.refl _ | assumption | exact (by repeat (first | exact Le.refl _ | assumption | apply Le.drop))))
      · refine ⟨fun x S c he hw hd hc hcu hm _ => ?_, trivial⟩
        obtain rfl : c = 0 := by have : c ≤ 0 := hcu; omega
        refine TOps.loadN (vs := [.int .i64 d.kind, .int .i64 d.k, slV aa ao d.args.length acap asp]) (he _ _ rfl) ti54 (Rd.le (Rd.all (List.Mem.tail _ (List.Mem.head _))) bld_le) rfl rfl ?_
        exact TOps.fin (Nrm.draw x (fun _ _ _ => rfl) rfl (by first | exact Le.refl _ | assumption | exact (by repeat (first | exact Le.refl _ | assumption | apply Le.drop))))
      · refine ⟨fun x S c he hw hd hc hcu hm _ => ?_, trivial⟩
        refine TOps.move (he _ _ rfl) rfl ?_
        exact TOps.fin (Nrm.draw x (fun _ _ _ => rfl) rfl (by first | exact Le.refl _ | assumption | exact (by repeat (first | exact Le.refl _ | assumption | apply Le.drop))))
      · refine ⟨fun x S c he hw hd hc hcu hm _ => ?_, trivial⟩
        obtain ⟨h5, h6, h7, -⟩ := hd
        obtain rfl : c = 0 := hm rfl
        refine TOps.call (vs := [_, _, _]) Try.call50 ⟨h5, h6, h7, trivial⟩ (rfolded0_g hz1 ⟨by omega, by omega⟩ (by omega) ⟨hfi.k0, hfi.k1⟩ hdok.2.1 (fun h => by have := hk4 h; omega) (trI_length Tr d.args) hal hk1 ra hRR' hA0) rfl ?_
        rintro _ _ ⟨s', rfl, hs', rfl⟩
        refine TOps.fin (Nrm.draw s' ?_ rfl (Le.addFact hs'))
        intro j hj hcj; rcases j with _|_|_|_|_|_|_|_|_|_|_|_|_|_|_|j <;> first | rfl | exact absurd rfl hj | exact absurd hcj (by decide)
      · refine ⟨fun x S c he hw hd hc hcu hm _ => ?_, trivial⟩
        obtain ⟨h8, -⟩ := hd
        refine TOps.move h8 rfl ?_
        exact TOps.fin (Nrm.draw x (fun _ _ _ => rfl) rfl (by first | exact Le.refl _ | assumption | exact (by repeat (first | exact Le.refl _ | assumption | apply Le.drop))))
      · refine ⟨fun x S c he hw hd hc hcu hm _ => ?_, trivial⟩
        obtain ⟨h9, -⟩ := hd
        refine TOps.extract h9 rfl rfl ?_
        exact TOps.fin (Nrm.draw x (fun _ _ _ => rfl) rfl (by first | exact Le.refl _ | assumption | exact (by repeat (first | exact Le.refl _ | assumption | apply Le.drop))))
      · refine ⟨fun x S c he hw hd hc hcu hm _ => ?_, trivial⟩
        obtain ⟨h9, -⟩ := hd
        refine TOps.extract h9 rfl rfl ?_
        exact TOps.fin (Nrm.draw x (fun _ _ _ => rfl) rfl (by first | exact Le.refl _ | assumption | exact (by repeat (first | exact Le.refl _ | assumption | apply Le.drop))))
      · refine ⟨fun x S c he hw hd hc hcu hm _ => ?_, trivial⟩
        obtain ⟨h10, h8, h5, h6, h7, _, h9, _, -⟩ := hd
        obtain rfl : c = 1 := hm rfl
        refine TOps.fact (List.Mem.head _) (fun hs' => ?_)
        refine TOps.le (Le.drop (Le.refl _)) ?_
        refine TOps.storeBld (he _ _ rfl) h10 ti24 rfl rfl ?_
        refine TOps.fin (Nrm.draw x (fun _ _ _ => rfl) rfl (Le.addFact hs'))
      · refine ⟨fun x S c he hw hd hc hcu hm _ => ?_, trivial⟩
        obtain ⟨h0, h4, _, h1, h2, h3, _, h5, h6, h7, h8, h9, h10, h11, h12, -⟩ := hd
        refine TOps.indexAddr (off' := v + k) h0 h4 Try.underlying52 ti3 (by omega) (by omega) (by omega) rfl ?_
        exact TOps.fin (Nrm.draw x (fun _ _ _ => rfl) rfl (by first | exact Le.refl _ | assumption | exact (by repeat (first | exact Le.refl _ | assumption | apply Le.drop))))
      · refine ⟨fun x S c he hw hd hc hcu hm _ => ?_, trivial⟩
        obtain ⟨h13, h11, h12, h0, h1, h2, h3, h4, h5, h6, h7, h8, h9, h10, _, _, -⟩ := hd
        obtain rfl : c = 2 := hm rfl
        refine TOps.store1 h13 h11 ti3 rfl rfl (Upd.there (Upd.bld (Upd.there (Upd.there Upd.here)))) (by rw [List.length_map, htT]; omega) ?_
        exact TOps.fin (Nrm.draw x (fun _ _ _ => rfl) rfl (by first | exact Le.refl _ | assumption | exact (by repeat (first | exact Le.refl _ | assumption | apply Le.drop))))
      ) (fun w => ?_)
    refine Nrm.fact (List.Mem.head _) (fun hw => ?_)
    refine Nrm.le (Le.drop (Le.refl _)) ?_
    refine Nrm.body w (by rw [hst]; exact hw) ⟨rfl, rfl, rfl, rfl, rfl, rfl, rfl, trivial⟩ (by
      have e1 := tabI_set (P := Tr) (m := v + F.nodes.length) (x := swapC RR.2) (by omega)
      rw [hTrl] at e1
      rw [hst]
      dsimp only
      rw [hstr, ← e1, ints_set]
      exact bld_mono (List.Sublist.cons _ (List.sublist_cons_self _ _)))
  obtain ⟨hTl, hSl⟩ := foldS_len (v := v) (nodes := F.nodes) F.nodes.length
  have hfs : ((foldS v F.nodes F.nodes.length).1.map swapC).getD tp 0 = swapC AT := by rw [getD_swap, hft]
  obtain ⟨Tr, hTr⟩ : ∃ Tr, (foldS v F.nodes F.nodes.length).1.map swapC = Tr := ⟨_, rfl⟩
  have hTrl : Tr.length = v + F.nodes.length := by rw [← hTr, List.length_map, hTl]
  rw [hTr] at hM hfs
  obtain ⟨JN, hJN⟩ : ∃ JN, (foldS v F.nodes F.nodes.length).2 = JN := ⟨_, rfl⟩
  rw [hJN] at hp hM hSl hpE hpF hbf
  have hgx : (ints (tabI Tr (v + F.nodes.length)))[tp]? = some (.int .i64 (swapC AT)) := by rw [← hfs, ← tabI_getD (m := v + F.nodes.length) (by omega)]; exact ints_get (by rw [tabI_length (by omega)]; omega)
  have sm1 := swapC_m1 (a := AT)
  have sm2 := swapC_m2 (a := AT)
  refine Nrm.of hS hM ?_
  refine Nrm.next ?_
  refine Tri.seq ?_
  refine Tri.seq (Tri.region ?_)
  refine TOps.move rfl rfl ?_
  first | refine TOps.fieldB 2 rfl Try.underlying24 rfl rfl ti3 rfl rfl rfl ?_ | refine TOps.fieldN 2 rfl Try.underlying24 rfl rfl ti3 rfl rfl rfl ?_
  refine TOps.load1 rfl ti3 (Rd.fld (r1.le (Le.trans bld_le (Le.drop (Le.drop (Le.refl _))))) 2 rfl) rfl ?_
  refine TOps.indexAddr (off' := tp) rfl rfl Try.underlying52 ti3 (by omega) (by omega) (by simp) rfl ?_
  refine TOps.load1 (v := .int .i64 (swapC AT)) rfl ti3 (Rd.le (Rd.lit (List.Mem.head _) hgx) bld_le) rfl ?_
  refine TOps.next ?_
  refine Tri.block ?_
  refine Tri.seq (Tri.region ?_)
  refine TOps.eqlI rfl rfl rfl ?_
  refine TOps.assign rfl rfl ?_
  refine TOps.next ?_
  refine Tri.cond rfl (fun hc1 => ?_) (fun hc1 => ?_)
  · try simp only [decide_eq_true_eq, decide_eq_false_iff_not, Bool.and_eq_true, Bool.or_eq_true, Bool.not_eq_true', Bool.and_eq_false_iff, Bool.or_eq_false_iff, Bool.not_eq_false', Int.not_lt, Int.not_le, ne_eq, Decidable.not_not, Option.isSome_iff_ne_none, Option.isNone_iff_eq_none] at hc1
    have hA1 : AT = -1 := sm2.1 hc1
    refine Tri.seq (Tri.region ?_)
    refine TOps.field0 rfl Try.underlying24 rfl rfl ti3 rfl rfl rfl ?_
    refine TOps.load1 rfl ti3 (Rd.fld (r1.le (Le.trans bld_le (Le.drop (Le.drop (Le.refl _))))) 0 rfl) rfl ?_
    refine TOps.buildStruct (vs := [(0, _), (1, _)]) (xs := [_, _, _]) [(0, 1), (1, 1), (2, 1)] Try.underlying54 ti54 (fun w => by simp) ⟨rfl, rfl, rfl, rfl, trivial⟩ rfl rfl ?_
    refine TOps.buildSlice (vs := [_]) (xs := [_, _, _]) Try.underlying22 ti54 ⟨rfl, rfl, trivial⟩ rfl rfl rfl rfl rfl rfl (by decide) rfl (fun b79 => ?_)
    refine TOps.field0 rfl Try.underlying24 rfl rfl ti3 rfl rfl rfl ?_
    refine TOps.load1 rfl ti3 (Rd.fld (r1.le (Le.drop (Le.trans bld_le (Le.drop (Le.drop (Le.refl _)))))) 0 rfl) rfl ?_
    refine TOps.buildStruct (vs := [(0, _), (1, _), (2, _)]) (xs := [_, _, _]) [(0, 1), (1, 1), (2, 1)] Try.underlying24 ti24 (fun w => by simp) ⟨rfl, rfl, rfl, rfl, rfl, rfl, trivial⟩ rfl rfl ?_
    refine TOps.storeN rfl rfl ti24 rfl rfl (Upd.there (Upd.bld (Upd.there Upd.here))) (by simp) ?_
    refine TOps.assign rfl rfl ?_
    refine TOps.next ?_
    refine Tri.ret2 (H' := [row (some b79) 54 3 1 [.int .i64 0, .int .i64 1, slV none 0 0 0]] ++ H) Try.results28 (fun _ _ h => h) (.cellN rfl rfl ti24 (Rd.all (List.Mem.tail _ (bld_sub.subset (List.Mem.tail _ (List.Mem.head _))))) rfl) (.tmp rfl) (sub_app (N := [_]) ((List.Sublist.cons _ (List.Sublist.cons _ s1)).trans bld_sub)) ⟨some b79, 1, [row (some b79) 54 3 1 [.int .i64 0, .int .i64 1, slV none 0 0 0]], ?_, ?_, rfl⟩
    · rw [hpE, hpF, if_pos (.inl hA1), if_pos (.inl hA1)]; rfl
    · rw [hpF, if_pos (.inl hA1), hA1]; exact RNodes.ofA (E := 54) (sz := 3) (cap := 1) (qs := [(none, 0, 0, none)]) (List.Mem.head _) (ArgsIn.nil.snoc (q := (none, 0, 0, none)) (.inl rfl)) (fun _ => ⟨_, rfl⟩)
  try simp only [decide_eq_true_eq, decide_eq_false_iff_not, Bool.and_eq_true, Bool.or_eq_true, Bool.not_eq_true', Bool.and_eq_false_iff, Bool.or_eq_false_iff, Bool.not_eq_false', Int.not_lt, Int.not_le, ne_eq, Decidable.not_not, Option.isSome_iff_ne_none, Option.isNone_iff_eq_none] at hc1
  refine Tri.seq (Tri.region ?_)
  refine TOps.eqlI rfl rfl rfl ?_
  refine TOps.assign rfl rfl ?_
  refine TOps.next ?_
  refine Tri.cond rfl (fun hc2 => ?_) (fun hc2 => ?_)
  · try simp only [decide_eq_true_eq, decide_eq_false_iff_not, Bool.and_eq_true, Bool.or_eq_true, Bool.not_eq_true', Bool.and_eq_false_iff, Bool.or_eq_false_iff, Bool.not_eq_false', Int.not_lt, Int.not_le, ne_eq, Decidable.not_not, Option.isSome_iff_ne_none, Option.isNone_iff_eq_none] at hc2
    have hA1 : AT = -2 := sm1.1 hc2
    refine Tri.seq (Tri.region ?_)
    refine TOps.field0 rfl Try.underlying24 rfl rfl ti3 rfl rfl rfl ?_
    refine TOps.load1 rfl ti3 (Rd.fld (r1.le (Le.trans bld_le (Le.drop (Le.drop (Le.refl _))))) 0 rfl) rfl ?_
    refine TOps.buildStruct (vs := [(0, _)]) (xs := [_, _, _]) [(0, 1), (1, 1), (2, 1)] Try.underlying54 ti54 (fun w => by simp) ⟨rfl, rfl, trivial⟩ rfl rfl ?_
    refine TOps.buildSlice (vs := [_]) (xs := [_, _, _]) Try.underlying22 ti54 ⟨rfl, rfl, trivial⟩ rfl rfl rfl rfl rfl rfl (by decide) rfl (fun b88 => ?_)
    refine TOps.field0 rfl Try.underlying24 rfl rfl ti3 rfl rfl rfl ?_
    refine TOps.load1 rfl ti3 (Rd.fld (r1.le (Le.drop (Le.trans bld_le (Le.drop (Le.drop (Le.refl _)))))) 0 rfl) rfl ?_
    refine TOps.buildStruct (vs := [(0, _), (1, _), (2, _)]) (xs := [_, _, _]) [(0, 1), (1, 1), (2, 1)] Try.underlying24 ti24 (fun w => by simp) ⟨rfl, rfl, rfl, rfl, rfl, rfl, trivial⟩ rfl rfl ?_
    refine TOps.storeN rfl rfl ti24 rfl rfl (Upd.there (Upd.bld (Upd.there Upd.here))) (by simp) ?_
    refine TOps.assign rfl rfl ?_
    refine TOps.next ?_
    refine Tri.ret2 (H' := [row (some b88) 54 3 1 [.int .i64 0, .int .i64 0, slV none 0 0 0]] ++ H) Try.results28 (fun _ _ h => h) (.cellN rfl rfl ti24 (Rd.all (List.Mem.tail _ (bld_sub.subset (List.Mem.tail _ (List.Mem.head _))))) rfl) (.tmp rfl) (sub_app (N := [_]) ((List.Sublist.cons _ (List.Sublist.cons _ s1)).trans bld_sub)) ⟨some b88, 1, [row (some b88) 54 3 1 [.int .i64 0, .int .i64 0, slV none 0 0 0]], ?_, ?_, rfl⟩
    · rw [hpE, hpF, if_pos (.inr hA1), if_pos (.inr hA1)]; rfl
    · rw [hpF, if_pos (.inr hA1), hA1]; exact RNodes.ofA (E := 54) (sz := 3) (cap := 1) (qs := [(none, 0, 0, none)]) (List.Mem.head _) (ArgsIn.nil.snoc (q := (none, 0, 0, none)) (.inl rfl)) (fun _ => ⟨_, rfl⟩)
  try simp only [decide_eq_true_eq, decide_eq_false_iff_not, Bool.and_eq_true, Bool.or_eq_true, Bool.not_eq_true', Bool.and_eq_false_iff, Bool.or_eq_false_iff, Bool.not_eq_false', Int.not_lt, Int.not_le, ne_eq, Decidable.not_not, Option.isSome_iff_ne_none, Option.isNone_iff_eq_none] at hc2
  have hno : ¬(AT = -1 ∨ AT = -2) := fun h => by rcases h with h | h; exact hc1 (sm2.2 h); exact hc2 (sm1.2 h)
  have hsw : swapC AT = AT := swapC_id (fun h => hno (.inl h)) (fun h => hno (.inr h))
  rw [hsw] at hgx
  have hfit := hbf hno
  refine Tri.fin ?_
  refine Nrm.unB ?_
  refine Nrm.next ?_
  refine Tri.seq (Tri.region ?_)
  refine TOps.move rfl rfl ?_
  first | refine TOps.fieldB 2 rfl Try.underlying24 rfl rfl ti3 rfl rfl rfl ?_ | refine TOps.fieldN 2 rfl Try.underlying24 rfl rfl ti3 rfl rfl rfl ?_
  refine TOps.load1 rfl ti3 (Rd.fld (r1.le (Le.trans bld_le (Le.drop (Le.drop (Le.refl _))))) 2 rfl) rfl ?_
  refine TOps.indexAddr (off' := tp) rfl rfl Try.underlying52 ti3 (by omega) (by omega) (by simp) rfl ?_
  refine TOps.load1 (v := .int .i64 AT) rfl ti3 (Rd.le (Rd.lit (List.Mem.head _) hgx) bld_le) rfl ?_
  first | refine TOps.fieldB 2 rfl Try.underlying24 rfl rfl ti3 rfl rfl rfl ?_ | refine TOps.fieldN 2 rfl Try.underlying24 rfl rfl ti3 rfl rfl rfl ?_
  refine TOps.store1 rfl rfl ti3 rfl rfl Upd.here (by simp) ?_
  refine TOps.le (H' := bld 24 54 b4 v JN AT u (row (some b21) 3 1 (v + F.nodes.length) (ints (tabI Tr (v + F.nodes.length))) :: row (some b2) 24 3 1 [.int .i64 0, slV none 0 0 0, .int .i64 0] :: H1)) (Le.refl _) ?_
  refine TOps.next ?_
  refine Tri.seq (Tri.region ?_)
  refine TOps.loadN rfl ti24 bld_rd rfl rfl ?_
  refine TOps.call (vs := [_]) Try.call40 ⟨rfl, trivial⟩ (rtrimN_g (bld_rf hp) (by dsimp only; omega) hfit) rfl ?_
  rintro _ _ ⟨a1, c1, NN, rfl, hNN, rfl⟩
  refine TOps.call (vs := [_]) Try.call39 ⟨rfl, trivial⟩ (rsized_g hNN (Nat.le_trans (trS_le _) (by dsimp only; omega))) rfl ?_
  rintro _ _ ⟨a2, c2, rfl, hN2, rfl⟩
  refine TOps.extract rfl rfl rfl ?_
  refine TOps.extract rfl rfl rfl ?_
  refine TOps.storeN rfl rfl ti24 rfl rfl (Upd.app (Upd.bld (Upd.there Upd.here)) NN) (by simp) ?_
  refine TOps.assign rfl rfl ?_
  refine TOps.next ?_
  refine Tri.ret2 (H' := NN ++ H) Try.results28 (fun _ _ h => h) (.cellN rfl rfl ti24 (Rd.all (List.mem_append_right _ (bld_sub.subset (List.Mem.tail _ (List.Mem.head _))))) rfl) (.tmp rfl) (sub_app ((List.Sublist.cons _ (List.Sublist.cons _ s1)).trans bld_sub)) ⟨a2, c2, NN, ?_, ?_, rfl⟩
  · rw [hpE, hpF, if_neg hno, if_neg hno]; rfl
  · rw [hpF, if_neg hno]; exact hN2
end Go.Proofs
