import Derived.Test.YthfbpnfaklaopaaG11
namespace Go.Proofs
open Go.GL
set_option linter.unusedVariables false
set_option linter.unusedSimpArgs false
set_option maxHeartbeats 4000000 in
theorem rpush_g {H : List Ent} {fv : Value} {F : Fm} (hF : RF H fv F) (hg : F.Good) :
    Gives Try.prog 16 [fv] H (NewV (sizedF F.pushB.trim) (.int .i64 ((sizedE F.pushB.trim).getD 0)) H) := by
  obtain ⟨na, off, cap, nsp, rfl, hN⟩ := hF
  have g0 := hg.v0; have g1 := hg.v1; have g2 := hg.n1; have gt := hg.topLt
  obtain ⟨v, hv⟩ := Int.eq_ofNat_of_zero_le g0
  have hvn : F.vars.toNat = v := by omega
  obtain ⟨tp, htp⟩ := Int.eq_ofNat_of_zero_le gt.1
  have hfit := pushB_fit hg
  have hpb : F.pushB = ⟨(v : Int), (pushS v F.nodes F.nodes.length).2.2, (pushS v F.nodes F.nodes.length).1.getD tp 0⟩ := by unfold Fm.pushB; rw [hvn, hv, htp, Int.toNat_natCast]
  have hal16 : ∀ i (hi : i < F.nodes.length), F.nodes[i].args.length ≤ 16 := fun i hi => (hg.fits i hi).len
  rw [hpb] at hfit ⊢
  rw [hv, htp]
  refine Gives.enter Try.func16 rfl (by exact Try.ntmps16) rfl ?_
  refine Tri.seq (Tri.region ?_)
  refine TOps.boxN rfl ti24 rfl rfl (fun b1 => ?_)
  refine TOps.hide (fun H1 l1 s1 r1 => ?_)
  replace hN := hN.le l1
  refine TOps.alloc ti24 rfl (fun b2 => ?_)
  refine TOps.assign rfl rfl ?_
  refine TOps.next ?_
  refine Tri.seq (Tri.region ?_)
  refine TOps.field0 rfl Try.underlying24 rfl rfl ti3 rfl rfl rfl ?_
  refine TOps.load1 rfl ti3 (by first | exact Rd.lit (by repeat (first | exact List.Mem.head _ | apply List.Mem.tail)) rfl | (repeat (first | assumption | exact Rd.fld (by assumption) 0 rfl | apply Rd.up))) rfl ?_
  refine TOps.buildStruct (vs := [(0, _)]) (xs := [_, _, _]) [(0, 1), (1, 1), (2, 1)] Try.underlying24 ti24 (fun w => by simp) ⟨rfl, rfl, trivial⟩ rfl rfl ?_
  refine TOps.alloc ti24 rfl (fun b4 => ?_)
  refine TOps.storeN rfl rfl ti24 rfl rfl (by repeat (first | exact Upd.here | apply Upd.there)) (by first | decide | (simp; done) | (simp; omega)) ?_
  refine TOps.next ?_
  refine Tri.seq ?_
  have hll : ∀ (x : Nat × Nat) (D : List Nat), Le (on D [6] [] [row (some x.1) 3 1 (v + F.nodes.length) (List.replicate (v + F.nodes.length) (.int .i64 0))] ++ (on D [13] [] [row (some x.2) 3 1 (v + F.nodes.length) (List.replicate (v + F.nodes.length) (.int .i64 0))] ++ (row (some b4) 24 3 1 [.int .i64 v, slV none 0 0 0, .int .i64 0] :: row (some b2) 24 3 1 [.int .i64 0, slV none 0 0 0, .int .i64 0] :: H1))) H1 := fun x D => Le.sub (by repeat (first | exact List.Sublist.refl _ | apply sub_on | apply List.Sublist.cons))
  refine Tri.drawM (X := Nat × Nat) rfl [(1, .pointer (some ⟨b1, 0, none⟩)), (2, .pointer (some ⟨b2, 0, none⟩)), (4, .pointer (some ⟨b4, 0, none⟩))] [] (fun x => [_, _, _, _, _, _, slV (some x.1) 0 (v + F.nodes.length) (v + F.nodes.length), _, _, _, _, _, _, slV (some x.2) 0 (v + F.nodes.length) (v + F.nodes.length), slV (some x.1) 0 (v + F.nodes.length) (v + F.nodes.length), slV (some x.2) 0 (v + F.nodes.length) (v + F.nodes.length)]) (fun x D => on D [6] [] [row (some x.1) 3 1 (v + F.nodes.length) (List.replicate (v + F.nodes.length) (.int .i64 0))] ++ (on D [13] [] [row (some x.2) 3 1 (v + F.nodes.length) (List.replicate (v + F.nodes.length) (.int .i64 0))] ++ (row (some b4) 24 3 1 [.int .i64 v, slV none 0 0 0, .int .i64 0] :: row (some b2) 24 3 1 [.int .i64 0, slV none 0 0 0, .int .i64 0] :: H1))) [6, 13] [0, 1, 0, 4, 12, 31, 63, 0, 128, 0, 512, 1536, 3968, 8064, 127, 32767] [[], [13], [6], [6, 13]] (0, 0) [14, 15] rfl rfl (by kernel_rfl) (by kernel_rfl) ⟨rfl, rfl, rfl, trivial⟩ trivial (by repeat (first | exact Le.refl _ | assumption | apply Le.drop)) (by
    refine ⟨?_, ?_, ?_, ?_, ?_, ?_, ?_, ?_, ?_, ?_, ?_, ?_, ?_, ?_, ?_, ?_, trivial⟩
    · refine ⟨fun x S D he hw hd hD _ => ?_, trivial⟩
      refine TOps.field0 (he _ _ rfl) Try.underlying24 rfl rfl ti3 rfl rfl rfl ?_
      exact TOps.fin (Nrm.drawM x (fun _ _ _ => rfl) rfl (by first | exact Le.refl _ | assumption | exact (by repeat (first | exact Le.refl _ | assumption | apply Le.drop))))
    · refine ⟨fun x S D he hw hd hD _ => ?_, trivial⟩
      obtain ⟨h0, -⟩ := hd
      refine TOps.load1 h0 ti3 (Rd.le (by first | exact Rd.lit (by repeat (first | exact List.Mem.head _ | apply List.Mem.tail)) rfl | (repeat (first | assumption | exact Rd.fld (by assumption) 0 rfl | apply Rd.up))) (hll x D)) rfl ?_
      exact TOps.fin (Nrm.drawM x (fun _ _ _ => rfl) rfl (by first | exact Le.refl _ | assumption | exact (by repeat (first | exact Le.refl _ | assumption | apply Le.drop))))
    · refine ⟨fun x S D he hw hd hD _ => ?_, trivial⟩
      first | refine TOps.fieldB 1 (he _ _ rfl) Try.underlying24 rfl rfl ti22 rfl rfl rfl ?_ | refine TOps.fieldN 1 (he _ _ rfl) Try.underlying24 rfl rfl ti22 rfl rfl rfl ?_
      exact TOps.fin (Nrm.drawM x (fun _ _ _ => rfl) rfl (by first | exact Le.refl _ | assumption | exact (by repeat (first | exact Le.refl _ | assumption | apply Le.drop))))
    · refine ⟨fun x S D he hw hd hD _ => ?_, trivial⟩
      obtain ⟨h2, -⟩ := hd
      refine TOps.load1 h2 ti22 (Rd.le (by first | exact Rd.lit (by repeat (first | exact List.Mem.head _ | apply List.Mem.tail)) rfl | (repeat (first | assumption | exact Rd.fld (by assumption) 1 rfl | apply Rd.up))) (hll x D)) rfl ?_
      exact TOps.fin (Nrm.drawM x (fun _ _ _ => rfl) rfl (by first | exact Le.refl _ | assumption | exact (by repeat (first | exact Le.refl _ | assumption | apply Le.drop))))
    · refine ⟨fun x S D he hw hd hD _ => ?_, trivial⟩
      obtain ⟨h3, -⟩ := hd
      refine TOps.len h3 Try.underlying22 rfl ?_
      exact TOps.fin (Nrm.drawM x (fun _ _ _ => rfl) rfl (by first | exact Le.refl _ | assumption | exact (by repeat (first | exact Le.refl _ | assumption | apply Le.drop))))
    · refine ⟨fun x S D he hw hd hD _ => ?_, trivial⟩
      obtain ⟨h1, h4, -⟩ := hd
      refine TOps.add (r := ((v + F.nodes.length : Nat) : Int)) h1 h4 (by rw [wrapI (by omega) (by omega)]; omega) rfl ?_
      exact TOps.fin (Nrm.drawM x (fun _ _ _ => rfl) rfl (by first | exact Le.refl _ | assumption | exact (by repeat (first | exact Le.refl _ | assumption | apply Le.drop))))
    · refine ⟨fun x S D he hw hd hD _ => ?_, trivial⟩
      obtain ⟨h5, _, -⟩ := hd
      replace hD := mem_of_eq (L' := [[], [13]]) hD (by kernel_rfl)
      simp only [List.mem_cons, List.not_mem_nil, or_false] at hD
      rcases hD with rfl | rfl
      all_goals refine TOps.make1 h5 h5 Try.underlying52 ti3 (by omega) (by omega) (by omega) rfl (fun b26 => ?_)
      all_goals refine TOps.fin (Nrm.drawM (b26, x.2) ?_ rfl (Sp.le (by repeat (first | exact Sp.refl _ | exact Sp.sub (by assumption) | refine Sp.cons (by repeat (first | exact Pick.here | apply Pick.there)) ?_ | exact Sp.nil | apply Sp.skip))))
      all_goals (intro j hj hcj; rcases j with _|_|_|_|_|_|_|_|_|_|_|_|_|_|_|_|j <;> first | rfl | exact absurd rfl hj | exact absurd hcj (by decide))
    · refine ⟨fun x S D he hw hd hD _ => ?_, trivial⟩
      refine TOps.field0 (he _ _ rfl) Try.underlying24 rfl rfl ti3 rfl rfl rfl ?_
      exact TOps.fin (Nrm.drawM x (fun _ _ _ => rfl) rfl (by first | exact Le.refl _ | assumption | exact (by repeat (first | exact Le.refl _ | assumption | apply Le.drop))))
    · refine ⟨fun x S D he hw hd hD _ => ?_, trivial⟩
      obtain ⟨h7, -⟩ := hd
      refine TOps.load1 h7 ti3 (Rd.le (by first | exact Rd.lit (by repeat (first | exact List.Mem.head _ | apply List.Mem.tail)) rfl | (repeat (first | assumption | exact Rd.fld (by assumption) 0 rfl | apply Rd.up))) (hll x D)) rfl ?_
      exact TOps.fin (Nrm.drawM x (fun _ _ _ => rfl) rfl (by first | exact Le.refl _ | assumption | exact (by repeat (first | exact Le.refl _ | assumption | apply Le.drop))))
    · refine ⟨fun x S D he hw hd hD _ => ?_, trivial⟩
      first | refine TOps.fieldB 1 (he _ _ rfl) Try.underlying24 rfl rfl ti22 rfl rfl rfl ?_ | refine TOps.fieldN 1 (he _ _ rfl) Try.underlying24 rfl rfl ti22 rfl rfl rfl ?_
      exact TOps.fin (Nrm.drawM x (fun _ _ _ => rfl) rfl (by first | exact Le.refl _ | assumption | exact (by repeat (first | exact Le.refl _ | assumption | apply Le.drop))))
    · refine ⟨fun x S D he hw hd hD _ => ?_, trivial⟩
      obtain ⟨h9, -⟩ := hd
      refine TOps.load1 h9 ti22 (Rd.le (by first | exact Rd.lit (by repeat (first | exact List.Mem.head _ | apply List.Mem.tail)) rfl | (repeat (first | assumption | exact Rd.fld (by assumption) 1 rfl | apply Rd.up))) (hll x D)) rfl ?_
      exact TOps.fin (Nrm.drawM x (fun _ _ _ => rfl) rfl (by first | exact Le.refl _ | assumption | exact (by repeat (first | exact Le.refl _ | assumption | apply Le.drop))))
    · refine ⟨fun x S D he hw hd hD _ => ?_, trivial⟩
      obtain ⟨h10, -⟩ := hd
      refine TOps.len h10 Try.underlying22 rfl ?_
      exact TOps.fin (Nrm.drawM x (fun _ _ _ => rfl) rfl (by first | exact Le.refl _ | assumption | exact (by repeat (first | exact Le.refl _ | assumption | apply Le.drop))))
    · refine ⟨fun x S D he hw hd hD _ => ?_, trivial⟩
      obtain ⟨h8, h11, -⟩ := hd
      refine TOps.add (r := ((v + F.nodes.length : Nat) : Int)) h8 h11 (by rw [wrapI (by omega) (by omega)]; omega) rfl ?_
      exact TOps.fin (Nrm.drawM x (fun _ _ _ => rfl) rfl (by first | exact Le.refl _ | assumption | exact (by repeat (first | exact Le.refl _ | assumption | apply Le.drop))))
    · refine ⟨fun x S D he hw hd hD _ => ?_, trivial⟩
      obtain ⟨h12, _, -⟩ := hd
      replace hD := mem_of_eq (L' := [[], [6]]) hD (by kernel_rfl)
      simp only [List.mem_cons, List.not_mem_nil, or_false] at hD
      rcases hD with rfl | rfl
      all_goals refine TOps.make1 h12 h12 Try.underlying52 ti3 (by omega) (by omega) (by omega) rfl (fun b33 => ?_)
      all_goals refine TOps.fin (Nrm.drawM (x.1, b33) ?_ rfl (Sp.le (by repeat (first | exact Sp.refl _ | exact Sp.sub (by assumption) | refine Sp.cons (by repeat (first | exact Pick.here | apply Pick.there)) ?_ | exact Sp.nil | apply Sp.skip))))
      all_goals (intro j hj hcj; rcases j with _|_|_|_|_|_|_|_|_|_|_|_|_|_|_|_|j <;> first | rfl | exact absurd rfl hj | exact absurd hcj (by decide))
    · refine ⟨fun x S D he hw hd hD _ => ?_, trivial⟩
      obtain ⟨h6, h0, h1, h2, h3, h4, h5, _, -⟩ := hd
      refine TOps.assign h6 rfl ?_
      exact TOps.fin (Nrm.drawM x (fun _ _ _ => rfl) rfl (by first | exact Le.refl _ | assumption | exact (by repeat (first | exact Le.refl _ | assumption | apply Le.drop))))
    · refine ⟨fun x S D he hw hd hD _ => ?_, trivial⟩
      obtain ⟨h13, h14, h0, h1, h2, h3, h4, h5, h6, h7, h8, h9, h10, h11, h12, _, _, -⟩ := hd
      refine TOps.assign h13 rfl ?_
      exact TOps.fin (Nrm.drawM x (fun _ _ _ => rfl) rfl (by first | exact Le.refl _ | assumption | exact (by repeat (first | exact Le.refl _ | assumption | apply Le.drop))))
    ) (fun yy => ?_)
  refine Nrm.le (H' := bld 24 54 b4 v [] 0 BS.new (row (some yy.1) 3 1 (v + F.nodes.length) (List.replicate (v + F.nodes.length) (.int .i64 0)) :: row (some yy.2) 3 1 (v + F.nodes.length) (List.replicate (v + F.nodes.length) (.int .i64 0)) :: row (some b2) 24 3 1 [.int .i64 0, slV none 0 0 0, .int .i64 0] :: H1)) (Le.trans (b := row (some b4) 24 3 1 [.int .i64 v, slV none 0 0 0, .int .i64 0] :: row (some yy.1) 3 1 (v + F.nodes.length) (List.replicate (v + F.nodes.length) (.int .i64 0)) :: row (some yy.2) 3 1 (v + F.nodes.length) (List.replicate (v + F.nodes.length) (.int .i64 0)) :: row (some b2) 24 3 1 [.int .i64 0, slV none 0 0 0, .int .i64 0] :: H1) (Sp.le (by repeat (first | exact Sp.refl _ | exact Sp.sub (by assumption) | refine Sp.cons (by repeat (first | exact Pick.here | apply Pick.there)) ?_ | exact Sp.nil | apply Sp.skip))) bld_new) ?_
  clear hll
  refine Nrm.next ?_
  refine Tri.seq ?_
  refine Tri.seq (Tri.region ?_)
  refine TOps.field0 rfl Try.underlying24 rfl rfl ti3 rfl rfl rfl ?_
  refine TOps.load1 rfl ti3 (Rd.fld (r1.le (Le.trans bld_le (Le.drop (Le.drop (Le.drop (Le.refl _)))))) 0 rfl) rfl ?_
  refine TOps.move rfl rfl ?_
  refine TOps.next ?_
  refine Tri.range (X := BS) (fun z k => [(1, .pointer (some ⟨b1, 0, none⟩)), (2, .pointer (some ⟨b2, 0, none⟩)), (4, .pointer (some ⟨b4, 0, none⟩)), (5, slV (some yy.1) 0 (v + F.nodes.length) (v + F.nodes.length)), (6, slV (some yy.2) 0 (v + F.nodes.length) (v + F.nodes.length))]) (fun z k => bld 24 54 b4 v (ngN k) 0 z (row (some yy.1) 3 1 (v + F.nodes.length) (ints (tabI (evI k) (v + F.nodes.length))) :: row (some yy.2) 3 1 (v + F.nodes.length) (ints (tabI (ngI v k) (v + F.nodes.length))) :: row (some b2) 24 3 1 [.int .i64 0, slV none 0 0 0, .int .i64 0] :: H1)) (fun z k => z.ok (ngN k)) (by omega) rfl rfl rfl (fun _ _ => ⟨rfl, rfl, rfl, rfl⟩) BS.new BS.new_ok ⟨rfl, rfl, rfl, rfl, rfl, trivial⟩ (by rw [show evI 0 = [] from rfl, show ngI v 0 = [] from rfl, tabI_nil]; simp only [ints, List.map_replicate]; exact Le.refl _) (fun k z hlt hp => ?_) (fun z ac wc hp hS hM => ?_)
  · skip
    refine Tri.seq (Tri.region ?_)
    refine TOps.move rfl rfl ?_
    refine TOps.assign rfl rfl ?_
    refine TOps.next ?_
    refine Tri.seq (Tri.region ?_)
    refine TOps.move rfl rfl ?_
    refine TOps.move rfl rfl ?_
    refine TOps.move rfl rfl ?_
    refine TOps.indexAddr (off' := k) rfl rfl Try.underlying52 ti3 (by omega) (by omega) (by simp) rfl ?_
    refine TOps.store1 rfl rfl ti3 rfl rfl (Upd.bld Upd.here) (by rw [List.length_map, tabI_length (by rw [evI_length]; omega)]; omega) ?_
    refine TOps.next ?_
    refine Tri.region ?_
    refine TOps.move rfl rfl ?_
    refine TOps.move rfl rfl ?_
    refine TOps.loadN rfl ti24 bld_rd rfl rfl ?_
    refine TOps.move rfl rfl ?_
    refine TOps.buildSlice (vs := [_]) (xs := [_]) Try.underlying52 ti3 ⟨rfl, rfl, trivial⟩ rfl rfl rfl rfl rfl rfl (by decide) rfl (fun b54 => ?_)
    refine TOps.call (vs := [_, _, _, _]) Try.call38 ⟨rfl, rfl, rfl, rfl, trivial⟩ (radd1_g (args := [(k : Int)]) hp (ngN_length k) ⟨by omega, by omega⟩ (by rw [ngN_length]; omega) rfl (by simp) (fun _ => ⟨_, rfl⟩) 1 0) rfl ?_
    rintro _ _ ⟨s2, rfl, hs2, rfl⟩
    refine TOps.move rfl rfl ?_
    refine TOps.extract rfl rfl rfl ?_
    refine TOps.extract rfl rfl rfl ?_
    refine TOps.storeBld rfl rfl ti24 (by simp) rfl ?_
    refine TOps.indexAddr (off' := k) rfl rfl Try.underlying52 ti3 (by omega) (by omega) (by simp) rfl ?_
    refine TOps.store1 rfl rfl ti3 rfl rfl (Upd.bld (Upd.there Upd.here)) (by rw [List.length_map, tabI_length (by rw [ngI_length]; omega)]; omega) ?_
    refine TOps.fin ?_
    refine Nrm.body s2 (by rw [ngN_succ]; exact hs2) ⟨rfl, rfl, rfl, rfl, rfl, rfl, rfl, trivial⟩ (by
      have e1 := tabI_set (P := evI k) (m := v + F.nodes.length) (x := (k : Int)) (by rw [evI_length]; omega)
      have e2 := tabI_set (P := ngI v k) (m := v + F.nodes.length) (x := (v : Int) + k) (by rw [ngI_length]; omega)
      rw [evI_length] at e1
      rw [ngI_length] at e2
      rw [ngN_succ, evI_succ, ngI_succ, ← e1, ← e2, ints_set, ints_set]
      exact Le.refl _)
  refine Nrm.of hS hM ?_
  refine Nrm.next ?_
  refine Tri.seq ?_
  refine Tri.seq (Tri.region ?_)
  first | refine TOps.fieldB 1 rfl Try.underlying24 rfl rfl ti22 rfl rfl rfl ?_ | refine TOps.fieldN 1 rfl Try.underlying24 rfl rfl ti22 rfl rfl rfl ?_
  refine TOps.load1 rfl ti22 (Rd.fld (r1.le (Le.trans bld_le (Le.drop (Le.drop (Le.drop (Le.refl _)))))) 1 rfl) rfl ?_
  refine TOps.len rfl Try.underlying22 rfl ?_
  refine TOps.move rfl rfl ?_
  refine TOps.next ?_
  refine Tri.range (X := BS) (fun u k => [(1, .pointer (some ⟨b1, 0, none⟩)), (2, .pointer (some ⟨b2, 0, none⟩)), (4, .pointer (some ⟨b4, 0, none⟩)), (5, slV (some yy.1) 0 (v + F.nodes.length) (v + F.nodes.length)), (6, slV (some yy.2) 0 (v + F.nodes.length) (v + F.nodes.length)), (61, slV na off F.nodes.length cap nsp)]) (fun u k => bld 24 54 b4 v (pushS v F.nodes k).2.2 0 u (row (some yy.1) 3 1 (v + F.nodes.length) (ints (tabI (pushS v F.nodes k).1 (v + F.nodes.length))) :: row (some yy.2) 3 1 (v + F.nodes.length) (ints (tabI (pushS v F.nodes k).2.1 (v + F.nodes.length))) :: row (some b2) 24 3 1 [.int .i64 0, slV none 0 0 0, .int .i64 0] :: H1)) (fun u k => u.ok (pushS v F.nodes k).2.2) (by omega) rfl rfl rfl (fun _ _ => ⟨rfl, rfl, rfl, rfl⟩) z hp ⟨rfl, rfl, rfl, rfl, rfl, rfl, trivial⟩ (Le.refl _) (fun k u hlt hp => ?_) (fun u ac wc hp hS hM => ?_)
  · skip
    have hz1 := hp
    obtain ⟨z1, hz1e⟩ : ∃ z1, u = z1 := ⟨_, rfl⟩
    rw [hz1e] at hz1 ⊢
    obtain ⟨nb, aa, ao, acap, asp, rfl, rfl, hn⟩ := hN.at hlt
    have hfi := hg.fits k hlt
    rw [hv] at hfi
    have hal := hfi.len
    obtain ⟨hPl, hNl, hSl⟩ := pushS_len (v := v) hal16 k (by omega)
    have hst : pushS v F.nodes (k + 1) = ((pushS v F.nodes k).1 ++ [(pushN v (pushS v F.nodes k).1 (pushS v F.nodes k).2.1 F.nodes[k] (pushS v F.nodes k).2.2).2.1], (pushS v F.nodes k).2.1 ++ [(pushN v (pushS v F.nodes k).1 (pushS v F.nodes k).2.1 F.nodes[k] (pushS v F.nodes k).2.2).2.2], (pushN v (pushS v F.nodes k).1 (pushS v F.nodes k).2.1 F.nodes[k] (pushS v F.nodes k).2.2).1) := by rw [pushS]; simp [hlt]
    obtain ⟨d, hd⟩ : ∃ d, F.nodes[k] = d := ⟨_, rfl⟩
    obtain ⟨P, hPe⟩ : ∃ P, (pushS v F.nodes k).1 = P := ⟨_, rfl⟩
    obtain ⟨N, hNe⟩ : ∃ N, (pushS v F.nodes k).2.1 = N := ⟨_, rfl⟩
    obtain ⟨NS, hNS⟩ : ∃ NS, (pushS v F.nodes k).2.2 = NS := ⟨_, rfl⟩
    rw [hd, hPe, hNe, hNS] at hst
    rw [hd] at hn hfi hal
    rw [hPe] at hPl
    rw [hNe] at hNl
    rw [hNS] at hSl hz1
    rw [hPe, hNe, hNS]
    obtain ⟨RR, hRR⟩ : ∃ RR, pushN v P N d NS = RR := ⟨_, rfl⟩
    rw [hRR] at hst
    have hin : ∀ a ∈ d.args, 0 ≤ a ∧ a.toNat < v + k := fun a ha => by have := hfi.args a ha; omega
    have har := hfi.ar
    have hne : d.kind ≠ 0 → d.args ≠ [] := by
      intro h0 h1
      rw [h1] at har
      unfold argsB at har
      rw [if_neg h0] at har
      split at har <;> simp at har
    refine Tri.seq (Tri.region ?_)
    refine TOps.move rfl rfl ?_
    refine TOps.indexAddr (off' := off + k * 3) rfl rfl Try.underlying22 ti54 (by omega) (by omega) (by simp) rfl ?_
    refine TOps.loadN (vs := [.int .i64 d.kind, .int .i64 d.k, slV aa ao d.args.length acap asp]) rfl ti54 (hn.cells.le (Le.trans bld_le (Le.drop (Le.drop (Le.drop (Le.refl _)))))) rfl rfl ?_
    refine TOps.alloc ti54 rfl (fun b9 => ?_)
    refine TOps.assign rfl rfl ?_
    refine TOps.storeN rfl rfl ti54 rfl rfl (by repeat (first | exact Upd.here | apply Upd.there)) (by first | decide | (simp; done) | (simp; omega)) ?_
    refine TOps.le bld_in ?_
    obtain ⟨HB, hHB⟩ : ∃ HB, HB = row (some b9) 54 3 1 [.int .i64 d.kind, .int .i64 d.k, slV aa ao d.args.length acap asp] :: row (some yy.1) 3 1 (v + F.nodes.length) (ints (tabI P (v + F.nodes.length))) :: row (some yy.2) 3 1 (v + F.nodes.length) (ints (tabI N (v + F.nodes.length))) :: row (some b2) 24 3 1 [.int .i64 0, slV none 0 0 0, .int .i64 0] :: H1 := ⟨_, rfl⟩
    have r9 : Rd HB b9 0 [.int .i64 d.kind, .int .i64 d.k, slV aa ao d.args.length acap asp] := by rw [hHB]; exact Rd.all (by repeat (first | exact List.Mem.head _ | apply List.Mem.tail))
    have hargs : RInts HB aa ao d.args asp := by rw [hHB]; exact RdS.le hn.args (Le.drop (Le.drop (Le.drop (Le.drop (Le.refl _)))))
    have rp : RInts HB (some yy.1) 0 (tabI P (v + F.nodes.length)) := by rw [hHB]; exact RdS.ofRowS (by repeat (first | exact List.Mem.head _ | apply List.Mem.tail))
    have rn : RInts HB (some yy.2) 0 (tabI N (v + F.nodes.length)) := by rw [hHB]; exact RdS.ofRowS (by repeat (first | exact List.Mem.head _ | apply List.Mem.tail))
    have htP : (tabI P (v + F.nodes.length)).length = v + F.nodes.length := tabI_length (by omega)
    have htN : (tabI N (v + F.nodes.length)).length = v + F.nodes.length := tabI_length (by omega)
    refine TOps.le (H' := bld 24 54 b4 v NS 0 z1 HB) (by rw [hHB]; exact Le.refl _) ?_
    refine TOps.next ?_
    refine Tri.seq (Tri.region ?_)
    refine TOps.assign rfl rfl ?_
    refine TOps.assign rfl rfl ?_
    refine TOps.next ?_
    refine Tri.seq ?_
    refine Tri.seq (Tri.region ?_)
    first | refine TOps.fieldB 2 rfl Try.underlying54 rfl rfl ti52 rfl rfl rfl ?_ | refine TOps.fieldN 2 rfl Try.underlying54 rfl rfl ti52 rfl rfl rfl ?_
    refine TOps.load1 rfl ti52 (Rd.fld (r9.le bld_le) 2 rfl) rfl ?_
    refine TOps.len rfl Try.underlying52 rfl ?_
    refine TOps.move rfl rfl ?_
    refine TOps.next ?_
    refine Tri.range (X := (Option Nat × Nat) × (Option Nat × Nat)) (fun q j => [(1, .pointer (some ⟨b1, 0, none⟩)), (2, .pointer (some ⟨b2, 0, none⟩)), (4, .pointer (some ⟨b4, 0, none⟩)), (5, slV (some yy.1) 0 (v + F.nodes.length) (v + F.nodes.length)), (6, slV (some yy.2) 0 (v + F.nodes.length) (v + F.nodes.length)), (61, slV (some nb) off F.nodes.length cap none), (62, .int .i64 F.nodes.length), (63, .int .i64 k), (8, .int .i64 k), (9, .pointer (some ⟨b9, 0, none⟩)), (10, slV q.1.1 0 j q.1.2), (11, slV q.2.1 0 j q.2.2), (69, slV aa ao d.args.length acap asp)]) (fun q j => row q.1.1 3 1 q.1.2 (ints (trI P (d.args.take j))) :: row q.2.1 3 1 q.2.2 (ints (trI N (d.args.take j))) :: bld 24 54 b4 v NS 0 z1 HB) (fun q j => j ≠ 0 → (∃ b, q.1.1 = some b) ∧ ∃ b, q.2.1 = some b) (by omega) rfl rfl rfl (fun _ _ => ⟨rfl, rfl, rfl, rfl⟩) ((none, 0), (none, 0)) (fun h => absurd rfl h) ⟨rfl, rfl, rfl, rfl, rfl, rfl, rfl, rfl, rfl, rfl, rfl, rfl, rfl, trivial⟩ (Le.addNil.trans Le.addNil) (fun j q hltj hpj => ?_) (fun q ac wc hpj hS hM => ?_)
    · skip
      obtain ⟨ab, rfl, rfl, ha⟩ := hargs.at hltj
      obtain ⟨hb0, hb1⟩ := hin _ (List.getElem_mem hltj)
      obtain ⟨_, e1, _, hpk⟩ := rp.at (i := d.args[j].toNat) (by omega)
      obtain rfl := Option.some.inj e1
      obtain ⟨_, e2, _, hnk⟩ := rn.at (i := d.args[j].toNat) (by omega)
      obtain rfl := Option.some.inj e2
      have gp : (tabI P (v + F.nodes.length))[d.args[j].toNat]'(by omega) = P.getD d.args[j].toNat 0 := by rw [← tabI_getD (m := v + F.nodes.length) (by omega), List.getD_eq_getElem?_getD, List.getElem?_eq_getElem (by omega)]; rfl
      have gn : (tabI N (v + F.nodes.length))[d.args[j].toNat]'(by omega) = N.getD d.args[j].toNat 0 := by rw [← tabI_getD (m := v + F.nodes.length) (by omega), List.getD_eq_getElem?_getD, List.getElem?_eq_getElem (by omega)]; rfl
      rw [gp] at hpk
      rw [gn] at hnk
      refine Tri.seq (Tri.region ?_)
      refine TOps.indexAddr (off' := ao + j) rfl rfl Try.underlying52 ti3 (by omega) (by omega) (by simp) rfl ?_
      refine TOps.load1 rfl ti3 (Rd.le ha (Le.drop (Le.drop bld_le))) rfl ?_
      refine TOps.assign rfl rfl ?_
      refine TOps.next ?_
      obtain ⟨IA, hIA⟩ : ∃ IA, ints (trI P (d.args.take j)) = IA := ⟨_, rfl⟩
      obtain ⟨IB, hIB⟩ : ∃ IB, ints (trI N (d.args.take j)) = IB := ⟨_, rfl⟩
      have hIAl : IA.length = j := by rw [← hIA]; simp [trI_length]; omega
      have hIBl : IB.length = j := by rw [← hIB]; simp [trI_length]; omega
      have hPn : ints (trI P (d.args.take (j + 1))) = IA ++ [.int .i64 (P.getD d.args[j].toNat 0)] := by rw [trI_take_succ hltj, ints_snoc, hIA]
      have hNn : ints (trI N (d.args.take (j + 1))) = IB ++ [.int .i64 (N.getD d.args[j].toNat 0)] := by rw [trI_take_succ hltj, ints_snoc, hIB]
      rw [hIA, hIB]
      obtain ⟨A, hA⟩ : ∃ A, d.args[j] = A := ⟨_, rfl⟩
      rw [hA] at hpk hnk hb0 hb1 hPn hNn ⊢
      have hlc : ∀ (x : Nat × Nat × Nat × Nat × Nat × Nat) (D : List Nat), Le (on D [5] [6] [row (some x.1) 3 1 1 [.int .i64 (P.getD A.toNat 0)]] ++ (on D [12] [13] [row (some x.2.1) 3 1 1 [.int .i64 (N.getD A.toNat 0)]] ++ (on D [] [6] [row q.1.1 3 1 q.1.2 IA] ++ (on D [6] [] [row (some x.2.2.1) 3 1 x.2.2.2.1 (IA ++ [.int .i64 (P.getD A.toNat 0)])] ++ (on D [] [13] [row q.2.1 3 1 q.2.2 IB] ++ (on D [13] [] [row (some x.2.2.2.2.1) 3 1 x.2.2.2.2.2 (IB ++ [.int .i64 (N.getD A.toNat 0)])] ++ (bld 24 54 b4 v NS 0 z1 HB))))))) (bld 24 54 b4 v NS 0 z1 HB) := fun x D => Le.sub (by repeat (first | exact List.Sublist.refl _ | apply sub_on))
      refine Tri.drawM (X := Nat × Nat × Nat × Nat × Nat × Nat) rfl [(1, .pointer (some ⟨b1, 0, none⟩)), (2, .pointer (some ⟨b2, 0, none⟩)), (4, .pointer (some ⟨b4, 0, none⟩)), (5, slV (some yy.1) 0 (v + F.nodes.length) (v + F.nodes.length)), (6, slV (some yy.2) 0 (v + F.nodes.length) (v + F.nodes.length)), (61, slV (some nb) off F.nodes.length cap none), (62, .int .i64 F.nodes.length), (63, .int .i64 k), (8, .int .i64 k), (9, .pointer (some ⟨b9, 0, none⟩)), (13, .int .i64 A), (69, slV (some ab) ao d.args.length acap), (70, .int .i64 d.args.length), (71, .int .i64 j)] [(10, slV q.1.1 0 j q.1.2), (11, slV q.2.1 0 j q.2.2)] (fun x => [_, _, _, _, _, slV (some x.1) 0 1 1, slV (some x.2.2.1) 0 (j + 1) x.2.2.2.1, _, _, _, _, _, slV (some x.2.1) 0 1 1, slV (some x.2.2.2.2.1) 0 (j + 1) x.2.2.2.2.2, slV (some x.2.2.1) 0 (j + 1) x.2.2.2.1, slV (some x.2.2.2.2.1) 0 (j + 1) x.2.2.2.2.2]) (fun x D => on D [5] [6] [row (some x.1) 3 1 1 [.int .i64 (P.getD A.toNat 0)]] ++ (on D [12] [13] [row (some x.2.1) 3 1 1 [.int .i64 (N.getD A.toNat 0)]] ++ (on D [] [6] [row q.1.1 3 1 q.1.2 IA] ++ (on D [6] [] [row (some x.2.2.1) 3 1 x.2.2.2.1 (IA ++ [.int .i64 (P.getD A.toNat 0)])] ++ (on D [] [13] [row q.2.1 3 1 q.2.2 IB] ++ (on D [13] [] [row (some x.2.2.2.2.1) 3 1 x.2.2.2.2.2 (IB ++ [.int .i64 (N.getD A.toNat 0)])] ++ (bld 24 54 b4 v NS 0 z1 HB))))))) [5, 6, 12, 13] [0, 0, 0, 6, 14, 30, 63, 0, 0, 0, 768, 1792, 3840, 8191, 16383, 32767] [[], [12], [5], [5, 12], [5, 6], [5, 6, 12], [5, 6, 12, 13]] (0, 0, 0, 0, 0, 0) [14, 15] rfl rfl (by kernel_rfl) (by kernel_rfl) ⟨rfl, rfl, rfl, rfl, rfl, rfl, rfl, rfl, rfl, rfl, rfl, rfl, rfl, rfl, trivial⟩ ⟨rfl, rfl, trivial⟩ (by repeat (first | exact Le.refl _ | assumption | apply Le.drop)) (by
        refine ⟨?_, ?_, ?_, ?_, ?_, ?_, ?_, ?_, ?_, ?_, ?_, ?_, ?_, ?_, ?_, ?_, trivial⟩
        · refine ⟨fun x S D he hw hd hD _ => ?_, trivial⟩
          refine TOps.move (hw _ _ rfl) rfl ?_
          exact TOps.fin (Nrm.drawM x (fun _ _ _ => rfl) rfl (by first | exact Le.refl _ | assumption | exact (by repeat (first | exact Le.refl _ | assumption | apply Le.drop))))
        · refine ⟨fun x S D he hw hd hD _ => ?_, trivial⟩
          refine TOps.move (he _ _ rfl) rfl ?_
          exact TOps.fin (Nrm.drawM x (fun _ _ _ => rfl) rfl (by first | exact Le.refl _ | assumption | exact (by repeat (first | exact Le.refl _ | assumption | apply Le.drop))))
        · refine ⟨fun x S D he hw hd hD _ => ?_, trivial⟩
          refine TOps.move (he _ _ rfl) rfl ?_
          exact TOps.fin (Nrm.drawM x (fun _ _ _ => rfl) rfl (by first | exact Le.refl _ | assumption | exact (by repeat (first | exact Le.refl _ | assumption | apply Le.drop))))
        · refine ⟨fun x S D he hw hd hD _ => ?_, trivial⟩
          obtain ⟨h1, h2, -⟩ := hd
          refine TOps.indexAddr (off' := 0 + A.toNat) h1 h2 Try.underlying52 ti3 (by omega) (by omega) (by simp) rfl ?_
          exact TOps.fin (Nrm.drawM x (fun _ _ _ => rfl) rfl (by first | exact Le.refl _ | assumption | exact (by repeat (first | exact Le.refl _ | assumption | apply Le.drop))))
        · refine ⟨fun x S D he hw hd hD _ => ?_, trivial⟩
          obtain ⟨h3, -⟩ := hd
          refine TOps.load1 h3 ti3 (Rd.le hpk (Le.trans (hlc x D) bld_le)) rfl ?_
          exact TOps.fin (Nrm.drawM x (fun _ _ _ => rfl) rfl (by first | exact Le.refl _ | assumption | exact (by repeat (first | exact Le.refl _ | assumption | apply Le.drop))))
        · refine ⟨fun x S D he hw hd hD _ => ?_, trivial⟩
          obtain ⟨h4, -⟩ := hd
          replace hD := mem_of_eq (L' := [[], [12]]) hD (by kernel_rfl)
          simp only [List.mem_cons, List.not_mem_nil, or_false] at hD
          rcases hD with rfl | rfl
          all_goals refine TOps.buildSlice (vs := [_]) (xs := [_]) Try.underlying52 ti3 ⟨rfl, h4, trivial⟩ rfl rfl rfl rfl rfl rfl (by decide) rfl (fun b80 => ?_)
          all_goals refine TOps.fin (Nrm.drawM (b80, x.2) ?_ rfl (Sp.le (by repeat (first | exact Sp.refl _ | exact Sp.sub (by assumption) | refine Sp.cons (by repeat (first | exact Pick.here | apply Pick.there)) ?_ | exact Sp.nil | apply Sp.skip))))
          all_goals (intro j hj hcj; rcases j with _|_|_|_|_|_|_|_|_|_|_|_|_|_|_|_|j <;> first | rfl | exact absurd rfl hj | exact absurd hcj (by decide))
        · refine ⟨fun x S D he hw hd hD _ => ?_, trivial⟩
          obtain ⟨h0, h5, -⟩ := hd
          replace hD := mem_of_eq (L' := [[5], [5, 12]]) hD (by kernel_rfl)
          simp only [List.mem_cons, List.not_mem_nil, or_false] at hD
          rcases hD with rfl | rfl
          all_goals refine TOps.appendLit h0 h5 Try.underlying52 ti3 rfl (fun _ _ => (by repeat (first | exact Upd.here | apply Upd.there))) rfl (by rw [hIAl, Nat.mul_one]) rfl (by omega) (by omega) (by simp) rfl (fun b81 cap81 => ?_)
          all_goals refine TOps.fin (Nrm.drawM (x.1, x.2.1, b81, cap81, x.2.2.2.2) ?_ rfl (Sp.le (by repeat (first | exact Sp.refl _ | exact Sp.sub (by assumption) | refine Sp.cons (by repeat (first | exact Pick.here | apply Pick.there)) ?_ | exact Sp.nil | apply Sp.skip))))
          all_goals (intro j hj hcj; rcases j with _|_|_|_|_|_|_|_|_|_|_|_|_|_|_|_|j <;> first | rfl | exact absurd rfl hj | exact absurd hcj (by decide))
        · refine ⟨fun x S D he hw hd hD _ => ?_, trivial⟩
          refine TOps.move (hw _ _ rfl) rfl ?_
          exact TOps.fin (Nrm.drawM x (fun _ _ _ => rfl) rfl (by first | exact Le.refl _ | assumption | exact (by repeat (first | exact Le.refl _ | assumption | apply Le.drop))))
        · refine ⟨fun x S D he hw hd hD _ => ?_, trivial⟩
          refine TOps.move (he _ _ rfl) rfl ?_
          exact TOps.fin (Nrm.drawM x (fun _ _ _ => rfl) rfl (by first | exact Le.refl _ | assumption | exact (by repeat (first | exact Le.refl _ | assumption | apply Le.drop))))
        · refine ⟨fun x S D he hw hd hD _ => ?_, trivial⟩
          refine TOps.move (he _ _ rfl) rfl ?_
          exact TOps.fin (Nrm.drawM x (fun _ _ _ => rfl) rfl (by first | exact Le.refl _ | assumption | exact (by repeat (first | exact Le.refl _ | assumption | apply Le.drop))))
        · refine ⟨fun x S D he hw hd hD _ => ?_, trivial⟩
          obtain ⟨h8, h9, -⟩ := hd
          refine TOps.indexAddr (off' := 0 + A.toNat) h8 h9 Try.underlying52 ti3 (by omega) (by omega) (by simp) rfl ?_
          exact TOps.fin (Nrm.drawM x (fun _ _ _ => rfl) rfl (by first | exact Le.refl _ | assumption | exact (by repeat (first | exact Le.refl _ | assumption | apply Le.drop))))
        · refine ⟨fun x S D he hw hd hD _ => ?_, trivial⟩
          obtain ⟨h10, -⟩ := hd
          refine TOps.load1 h10 ti3 (Rd.le hnk (Le.trans (hlc x D) bld_le)) rfl ?_
          exact TOps.fin (Nrm.drawM x (fun _ _ _ => rfl) rfl (by first | exact Le.refl _ | assumption | exact (by repeat (first | exact Le.refl _ | assumption | apply Le.drop))))
        · refine ⟨fun x S D he hw hd hD _ => ?_, trivial⟩
          obtain ⟨h11, -⟩ := hd
          replace hD := mem_of_eq (L' := [[], [5], [5, 6]]) hD (by kernel_rfl)
          simp only [List.mem_cons, List.not_mem_nil, or_false] at hD
          rcases hD with rfl | rfl | rfl
          all_goals refine TOps.buildSlice (vs := [_]) (xs := [_]) Try.underlying52 ti3 ⟨rfl, h11, trivial⟩ rfl rfl rfl rfl rfl rfl (by decide) rfl (fun b87 => ?_)
          all_goals refine TOps.fin (Nrm.drawM (x.1, b87, x.2.2) ?_ rfl (Sp.le (by repeat (first | exact Sp.refl _ | exact Sp.sub (by assumption) | refine Sp.cons (by repeat (first | exact Pick.here | apply Pick.there)) ?_ | exact Sp.nil | apply Sp.skip))))
          all_goals (intro j hj hcj; rcases j with _|_|_|_|_|_|_|_|_|_|_|_|_|_|_|_|j <;> first | rfl | exact absurd rfl hj | exact absurd hcj (by decide))
        · refine ⟨fun x S D he hw hd hD _ => ?_, trivial⟩
          obtain ⟨h7, h12, h6, -⟩ := hd
          replace hD := mem_of_eq (L' := [[5, 6, 12]]) hD (by kernel_rfl)
          simp only [List.mem_cons, List.not_mem_nil, or_false] at hD
          rcases hD with rfl
          all_goals refine TOps.appendLit h7 h12 Try.underlying52 ti3 rfl (fun _ _ => (by repeat (first | exact Upd.here | apply Upd.there))) rfl (by rw [hIBl, Nat.mul_one]) rfl (by omega) (by omega) (by simp) rfl (fun b88 cap88 => ?_)
          all_goals refine TOps.fin (Nrm.drawM (x.1, x.2.1, x.2.2.1, x.2.2.2.1, b88, cap88) ?_ rfl (Sp.le (by repeat (first | exact Sp.refl _ | exact Sp.sub (by assumption) | refine Sp.cons (by repeat (first | exact Pick.here | apply Pick.there)) ?_ | exact Sp.nil | apply Sp.skip))))
          all_goals (intro j hj hcj; rcases j with _|_|_|_|_|_|_|_|_|_|_|_|_|_|_|_|j <;> first | rfl | exact absurd rfl hj | exact absurd hcj (by decide))
        · refine ⟨fun x S D he hw hd hD _ => ?_, trivial⟩
          obtain ⟨h6, h13, h0, h1, h2, h3, h4, h5, _, -⟩ := hd
          refine TOps.assign h6 rfl ?_
          exact TOps.fin (Nrm.drawM x (fun _ _ _ => rfl) rfl (by first | exact Le.refl _ | assumption | exact (by repeat (first | exact Le.refl _ | assumption | apply Le.drop))))
        · refine ⟨fun x S D he hw hd hD _ => ?_, trivial⟩
          obtain ⟨h13, h14, h0, h1, h2, h3, h4, h5, h6, h7, h8, h9, h10, h11, h12, _, _, -⟩ := hd
          refine TOps.assign h13 rfl ?_
          exact TOps.fin (Nrm.drawM x (fun _ _ _ => rfl) rfl (by first | exact Le.refl _ | assumption | exact (by repeat (first | exact Le.refl _ | assumption | apply Le.drop))))
        ) (fun w => ?_)
      refine Nrm.body ((some w.2.2.1, w.2.2.2.1), (some w.2.2.2.2.1, w.2.2.2.2.2)) (fun _ => ⟨⟨_, rfl⟩, ⟨_, rfl⟩⟩) ⟨rfl, rfl, rfl, rfl, rfl, rfl, rfl, rfl, rfl, rfl, rfl, rfl, rfl, rfl, rfl, trivial⟩ (by rw [hPn, hNn]; exact (Sp.le (by repeat (first | exact Sp.refl _ | exact Sp.sub (by assumption) | refine Sp.cons (by repeat (first | exact Pick.here | apply Pick.there)) ?_ | exact Sp.nil | apply Sp.skip))))
    rw [List.take_length] at hM
    have hq := hpj
    obtain ⟨⟨qa, qac⟩, ⟨qb, qbc⟩⟩ := q
    dsimp only at hM hS hq
    refine Nrm.of hS hM ?_
    refine Nrm.next ?_
    refine Tri.seq (Tri.region ?_)
    refine TOps.le bld_in2 ?_
    obtain ⟨HB2, hHB2⟩ : ∃ HB2, HB2 = row qa 3 1 qac (ints (trI P d.args)) :: row qb 3 1 qbc (ints (trI N d.args)) :: HB := ⟨_, rfl⟩
    refine TOps.le (H' := bld 24 54 b4 v NS 0 z1 HB2) (by rw [hHB2]; exact Le.refl _) ?_
    have lB2 : Le HB2 HB := by rw [hHB2]; exact Le.drop (Le.drop (Le.refl _))
    have ra : RInts HB2 qa 0 (trI P d.args) := by rw [hHB2]; exact RdS.ofRowA (by repeat (first | exact List.Mem.head _ | apply List.Mem.tail)) (fun h => (hq (by intro h0; exact h (by rw [List.eq_nil_of_length_eq_zero h0]; rfl))).1)
    have rb : RInts HB2 qb 0 (trI N d.args) := by rw [hHB2]; exact RdS.ofRowA (by repeat (first | exact List.Mem.head _ | apply List.Mem.tail)) (fun h => (hq (by intro h0; exact h (by rw [List.eq_nil_of_length_eq_zero h0]; rfl))).2)
    have r9b := r9.le lB2
    refine TOps.assign rfl rfl ?_
    refine TOps.assign rfl rfl ?_
    refine TOps.next ?_
    refine Tri.seqMid (X := BS) (fun y => [(1, .pointer (some ⟨b1, 0, none⟩)), (2, .pointer (some ⟨b2, 0, none⟩)), (4, .pointer (some ⟨b4, 0, none⟩)), (5, slV (some yy.1) 0 (v + F.nodes.length) (v + F.nodes.length)), (6, slV (some yy.2) 0 (v + F.nodes.length) (v + F.nodes.length)), (61, slV (some nb) off F.nodes.length cap none), (62, .int .i64 F.nodes.length), (63, .int .i64 k), (8, .int .i64 k), (14, .int .i64 RR.2.1), (15, .int .i64 RR.2.2)]) (fun y => bld 24 54 b4 v RR.1 0 y HB) (fun y => y.ok RR.1) ?_ (fun y hmid => ?_)
    · skip
      refine Tri.seq (Tri.region ?_)
      refine TOps.field0 rfl Try.underlying54 rfl rfl ti3 rfl rfl rfl ?_
      refine TOps.load1 rfl ti3 (Rd.fld (r9b.le bld_le) 0 rfl) rfl ?_
      refine TOps.next ?_
      refine Tri.block ?_
      refine Tri.seq (Tri.region ?_)
      refine TOps.eqlI rfl rfl rfl ?_
      refine TOps.assign rfl rfl ?_
      refine TOps.next ?_
      refine Tri.cond rfl (fun hc1 => ?_) (fun hc1 => ?_)
      · try simp only [decide_eq_true_eq, decide_eq_false_iff_not, Bool.and_eq_true, Bool.or_eq_true, Bool.not_eq_true', Bool.and_eq_false_iff, Bool.or_eq_false_iff, Bool.not_eq_false', Int.not_lt, Int.not_le, ne_eq, Decidable.not_not, Option.isSome_iff_ne_none, Option.isNone_iff_eq_none] at hc1
        obtain rfl : ((NS ++ [⟨0, d.k, []⟩] ++ [⟨0, 1 - d.k, []⟩], (v : Int) + NS.length, (v : Int) + (NS.length + 1 : Nat)) : P3) = RR := by rw [← hRR]; unfold pushN p2; rw [if_neg (by omega), if_pos hc1]
        have hk01 := hfi.kk.1 hc1
        refine Tri.seq (Tri.region ?_)
        refine TOps.loadN rfl ti24 bld_rd rfl rfl ?_
        first | refine TOps.fieldB 1 rfl Try.underlying54 rfl rfl ti3 rfl rfl rfl ?_ | refine TOps.fieldN 1 rfl Try.underlying54 rfl rfl ti3 rfl rfl rfl ?_
        refine TOps.load1 rfl ti3 (Rd.fld (r9b.le bld_le) 1 rfl) rfl ?_
        refine TOps.call (vs := [_, _, _, _]) Try.call38 ⟨rfl, rfl, rfl, rfl, trivial⟩ (radd0_g (args := []) hz1 rfl ⟨by omega, by omega⟩ (by omega) rfl (by simp) (.inl rfl) 0 d.k) rfl ?_
        rintro _ _ ⟨s1', rfl, hs1', rfl⟩
        refine TOps.move rfl rfl ?_
        refine TOps.extract rfl rfl rfl ?_
        refine TOps.extract rfl rfl rfl ?_
        refine TOps.storeBld rfl rfl ti24 (by simp) rfl ?_
        refine TOps.assign rfl rfl ?_
        refine TOps.next ?_
        refine Tri.region ?_
        refine TOps.loadN rfl ti24 bld_rd rfl rfl ?_
        first | refine TOps.fieldB 1 rfl Try.underlying54 rfl rfl ti3 rfl rfl rfl ?_ | refine TOps.fieldN 1 rfl Try.underlying54 rfl rfl ti3 rfl rfl rfl ?_
        refine TOps.load1 rfl ti3 (Rd.fld (r9b.le bld_le) 1 rfl) rfl ?_
        refine TOps.sub rfl rfl (wrapI (by omega) (by omega)) rfl ?_
        refine TOps.call (vs := [_, _, _, _]) Try.call38 ⟨rfl, rfl, rfl, rfl, trivial⟩ (radd0_g (args := []) (L := NS.length + 1) hs1' (by simp) ⟨by omega, by omega⟩ (by simp; omega) rfl (by simp) (.inl rfl) 0 (1 - d.k)) rfl ?_
        rintro _ _ ⟨s2, rfl, hs2, rfl⟩
        refine TOps.move rfl rfl ?_
        refine TOps.extract rfl rfl rfl ?_
        refine TOps.extract rfl rfl rfl ?_
        refine TOps.storeBld rfl rfl ti24 (by simp) rfl ?_
        refine TOps.assign rfl rfl ?_
        refine TOps.fin ?_
        refine Nrm.unB ?_
        refine Nrm.mid s2 hs2 (by exact ⟨rfl, rfl, rfl, rfl, rfl, rfl, rfl, rfl, rfl, rfl, rfl, trivial⟩) (by rw [hHB2]; exact bld_mono (List.Sublist.cons _ (List.sublist_cons_self _ _)))
      try simp only [decide_eq_true_eq, decide_eq_false_iff_not, Bool.and_eq_true, Bool.or_eq_true, Bool.not_eq_true', Bool.and_eq_false_iff, Bool.or_eq_false_iff, Bool.not_eq_false', Int.not_lt, Int.not_le, ne_eq, Decidable.not_not, Option.isSome_iff_ne_none, Option.isNone_iff_eq_none] at hc1
      refine Tri.seq (Tri.region ?_)
      refine TOps.eqlI rfl rfl rfl ?_
      refine TOps.assign rfl rfl ?_
      refine TOps.next ?_
      refine Tri.cond rfl (fun hc2 => ?_) (fun hc2 => ?_)
      · try simp only [decide_eq_true_eq, decide_eq_false_iff_not, Bool.and_eq_true, Bool.or_eq_true, Bool.not_eq_true', Bool.and_eq_false_iff, Bool.or_eq_false_iff, Bool.not_eq_false', Int.not_lt, Int.not_le, ne_eq, Decidable.not_not, Option.isSome_iff_ne_none, Option.isNone_iff_eq_none] at hc2
        obtain rfl : ((NS ++ [⟨3, 0, trI N d.args⟩] ++ [⟨3, 0, trI P d.args⟩], (v : Int) + NS.length, (v : Int) + (NS.length + 1 : Nat)) : P3) = RR := by rw [← hRR]; unfold pushN p2; rw [if_neg (by omega), if_neg hc1, if_pos hc2]
        refine Tri.seq (Tri.region ?_)
        refine TOps.loadN rfl ti24 bld_rd rfl rfl ?_
        refine TOps.move rfl rfl ?_
        refine TOps.call (vs := [_, _, _, _]) Try.call38 ⟨rfl, rfl, rfl, rfl, trivial⟩ (radd0_g (L := NS.length) hz1 (by simp) ⟨by omega, by omega⟩ (by omega) (trI_length N d.args) (by omega) rb 3 0) rfl ?_
        rintro _ _ ⟨s1', rfl, hs1', rfl⟩
        refine TOps.move rfl rfl ?_
        refine TOps.extract rfl rfl rfl ?_
        refine TOps.extract rfl rfl rfl ?_
        refine TOps.storeBld rfl rfl ti24 (by simp) rfl ?_
        refine TOps.assign rfl rfl ?_
        refine TOps.next ?_
        refine Tri.region ?_
        refine TOps.loadN rfl ti24 bld_rd rfl rfl ?_
        refine TOps.move rfl rfl ?_
        refine TOps.call (vs := [_, _, _, _]) Try.call38 ⟨rfl, rfl, rfl, rfl, trivial⟩ (radd0_g (L := NS.length + 1) hs1' (by simp) ⟨by omega, by omega⟩ (by simp; omega) (trI_length P d.args) (by omega) ra 3 0) rfl ?_
        rintro _ _ ⟨s2, rfl, hs2, rfl⟩
        refine TOps.move rfl rfl ?_
        refine TOps.extract rfl rfl rfl ?_
        refine TOps.extract rfl rfl rfl ?_
        refine TOps.storeBld rfl rfl ti24 (by simp) rfl ?_
        refine TOps.assign rfl rfl ?_
        refine TOps.fin ?_
        refine Nrm.unB ?_
        refine Nrm.mid s2 hs2 (by exact ⟨rfl, rfl, rfl, rfl, rfl, rfl, rfl, rfl, rfl, rfl, rfl, trivial⟩) (by rw [hHB2]; exact bld_mono (List.Sublist.cons _ (List.sublist_cons_self _ _)))
      try simp only [decide_eq_true_eq, decide_eq_false_iff_not, Bool.and_eq_true, Bool.or_eq_true, Bool.not_eq_true', Bool.and_eq_false_iff, Bool.or_eq_false_iff, Bool.not_eq_false', Int.not_lt, Int.not_le, ne_eq, Decidable.not_not, Option.isSome_iff_ne_none, Option.isNone_iff_eq_none] at hc2
      refine Tri.seq (Tri.region ?_)
      refine TOps.eqlI rfl rfl rfl ?_
      refine TOps.assign rfl rfl ?_
      refine TOps.next ?_
      refine Tri.cond rfl (fun hc3 => ?_) (fun hc3 => ?_)
      · try simp only [decide_eq_true_eq, decide_eq_false_iff_not, Bool.and_eq_true, Bool.or_eq_true, Bool.not_eq_true', Bool.and_eq_false_iff, Bool.or_eq_false_iff, Bool.not_eq_false', Int.not_lt, Int.not_le, ne_eq, Decidable.not_not, Option.isSome_iff_ne_none, Option.isNone_iff_eq_none] at hc3
        obtain rfl : ((NS ++ [⟨2, 0, trI P d.args⟩] ++ [⟨3, 0, trI N d.args⟩], (v : Int) + NS.length, (v : Int) + (NS.length + 1 : Nat)) : P3) = RR := by rw [← hRR]; unfold pushN p2; rw [if_neg (by omega), if_neg hc1, if_neg hc2, if_pos hc3]
        refine Tri.seq (Tri.region ?_)
        refine TOps.loadN rfl ti24 bld_rd rfl rfl ?_
        refine TOps.move rfl rfl ?_
        refine TOps.call (vs := [_, _, _, _]) Try.call38 ⟨rfl, rfl, rfl, rfl, trivial⟩ (radd0_g (L := NS.length) hz1 (by simp) ⟨by omega, by omega⟩ (by omega) (trI_length P d.args) (by omega) ra 2 0) rfl ?_
        rintro _ _ ⟨s1', rfl, hs1', rfl⟩
        refine TOps.move rfl rfl ?_
        refine TOps.extract rfl rfl rfl ?_
        refine TOps.extract rfl rfl rfl ?_
        refine TOps.storeBld rfl rfl ti24 (by simp) rfl ?_
        refine TOps.assign rfl rfl ?_
        refine TOps.next ?_
        refine Tri.region ?_
        refine TOps.loadN rfl ti24 bld_rd rfl rfl ?_
        refine TOps.move rfl rfl ?_
        refine TOps.call (vs := [_, _, _, _]) Try.call38 ⟨rfl, rfl, rfl, rfl, trivial⟩ (radd0_g (L := NS.length + 1) hs1' (by simp) ⟨by omega, by omega⟩ (by simp; omega) (trI_length N d.args) (by omega) rb 3 0) rfl ?_
        rintro _ _ ⟨s2, rfl, hs2, rfl⟩
        refine TOps.move rfl rfl ?_
        refine TOps.extract rfl rfl rfl ?_
        refine TOps.extract rfl rfl rfl ?_
        refine TOps.storeBld rfl rfl ti24 (by simp) rfl ?_
        refine TOps.assign rfl rfl ?_
        refine TOps.fin ?_
        refine Nrm.unB ?_
        refine Nrm.mid s2 hs2 (by exact ⟨rfl, rfl, rfl, rfl, rfl, rfl, rfl, rfl, rfl, rfl, rfl, trivial⟩) (by rw [hHB2]; exact bld_mono (List.Sublist.cons _ (List.sublist_cons_self _ _)))
      try simp only [decide_eq_true_eq, decide_eq_false_iff_not, Bool.and_eq_true, Bool.or_eq_true, Bool.not_eq_true', Bool.and_eq_false_iff, Bool.or_eq_false_iff, Bool.not_eq_false', Int.not_lt, Int.not_le, ne_eq, Decidable.not_not, Option.isSome_iff_ne_none, Option.isNone_iff_eq_none] at hc3
      refine Tri.seq (Tri.region ?_)
      refine TOps.eqlI rfl rfl rfl ?_
      refine TOps.assign rfl rfl ?_
      refine TOps.next ?_
      refine Tri.cond rfl (fun hc4 => ?_) (fun hc4 => ?_)
      · try simp only [decide_eq_true_eq, decide_eq_false_iff_not, Bool.and_eq_true, Bool.or_eq_true, Bool.not_eq_true', Bool.and_eq_false_iff, Bool.or_eq_false_iff, Bool.not_eq_false', Int.not_lt, Int.not_le, ne_eq, Decidable.not_not, Option.isSome_iff_ne_none, Option.isNone_iff_eq_none] at hc4
        obtain rfl : ((NS ++ [⟨3, 0, trI P d.args⟩] ++ [⟨2, 0, trI N d.args⟩], (v : Int) + NS.length, (v : Int) + (NS.length + 1 : Nat)) : P3) = RR := by rw [← hRR]; unfold pushN p2; rw [if_neg (by omega), if_neg hc1, if_neg hc2, if_neg hc3, if_pos hc4]
        refine Tri.seq (Tri.region ?_)
        refine TOps.loadN rfl ti24 bld_rd rfl rfl ?_
        refine TOps.move rfl rfl ?_
        refine TOps.call (vs := [_, _, _, _]) Try.call38 ⟨rfl, rfl, rfl, rfl, trivial⟩ (radd0_g (L := NS.length) hz1 (by simp) ⟨by omega, by omega⟩ (by omega) (trI_length P d.args) (by omega) ra 3 0) rfl ?_
        rintro _ _ ⟨s1', rfl, hs1', rfl⟩
        refine TOps.move rfl rfl ?_
        refine TOps.extract rfl rfl rfl ?_
        refine TOps.extract rfl rfl rfl ?_
        refine TOps.storeBld rfl rfl ti24 (by simp) rfl ?_
        refine TOps.assign rfl rfl ?_
        refine TOps.next ?_
        refine Tri.region ?_
        refine TOps.loadN rfl ti24 bld_rd rfl rfl ?_
        refine TOps.move rfl rfl ?_
        refine TOps.call (vs := [_, _, _, _]) Try.call38 ⟨rfl, rfl, rfl, rfl, trivial⟩ (radd0_g (L := NS.length + 1) hs1' (by simp) ⟨by omega, by omega⟩ (by simp; omega) (trI_length N d.args) (by omega) rb 2 0) rfl ?_
        rintro _ _ ⟨s2, rfl, hs2, rfl⟩
        refine TOps.move rfl rfl ?_
        refine TOps.extract rfl rfl rfl ?_
        refine TOps.extract rfl rfl rfl ?_
        refine TOps.storeBld rfl rfl ti24 (by simp) rfl ?_
        refine TOps.assign rfl rfl ?_
        refine TOps.fin ?_
        refine Nrm.unB ?_
        refine Nrm.mid s2 hs2 (by exact ⟨rfl, rfl, rfl, rfl, rfl, rfl, rfl, rfl, rfl, rfl, rfl, trivial⟩) (by rw [hHB2]; exact bld_mono (List.Sublist.cons _ (List.sublist_cons_self _ _)))
      try simp only [decide_eq_true_eq, decide_eq_false_iff_not, Bool.and_eq_true, Bool.or_eq_true, Bool.not_eq_true', Bool.and_eq_false_iff, Bool.or_eq_false_iff, Bool.not_eq_false', Int.not_lt, Int.not_le, ne_eq, Decidable.not_not, Option.isSome_iff_ne_none, Option.isNone_iff_eq_none] at hc4
      refine Tri.seq (Tri.region ?_)
      refine TOps.eqlI rfl rfl rfl ?_
      refine TOps.assign rfl rfl ?_
      refine TOps.next ?_
      refine Tri.cond rfl (fun hc5 => ?_) (fun hc5 => ?_)
      · try simp only [decide_eq_true_eq, decide_eq_false_iff_not, Bool.and_eq_true, Bool.or_eq_true, Bool.not_eq_true', Bool.and_eq_false_iff, Bool.or_eq_false_iff, Bool.not_eq_false', Int.not_lt, Int.not_le, ne_eq, Decidable.not_not, Option.isSome_iff_ne_none, Option.isNone_iff_eq_none] at hc5
        obtain rfl : ((NS ++ [⟨4, d.k, trI P d.args⟩] ++ [⟨4, d.args.length - d.k + 1, trI N d.args⟩], (v : Int) + NS.length, (v : Int) + (NS.length + 1 : Nat)) : P3) = RR := by rw [← hRR]; unfold pushN p2; rw [if_neg (by omega), if_neg hc1, if_neg hc2, if_neg hc3, if_neg hc4]
        have hk4 := hfi.kk.2.1 hc5
        refine Tri.seq (Tri.region ?_)
        refine TOps.loadN rfl ti24 bld_rd rfl rfl ?_
        first | refine TOps.fieldB 1 rfl Try.underlying54 rfl rfl ti3 rfl rfl rfl ?_ | refine TOps.fieldN 1 rfl Try.underlying54 rfl rfl ti3 rfl rfl rfl ?_
        refine TOps.load1 rfl ti3 (Rd.fld (r9b.le bld_le) 1 rfl) rfl ?_
        refine TOps.move rfl rfl ?_
        refine TOps.call (vs := [_, _, _, _]) Try.call38 ⟨rfl, rfl, rfl, rfl, trivial⟩ (radd0_g hz1 rfl ⟨by omega, by omega⟩ (by omega) (trI_length P d.args) (by omega) ra 4 d.k) rfl ?_
        rintro _ _ ⟨s1', rfl, hs1', rfl⟩
        refine TOps.move rfl rfl ?_
        refine TOps.extract rfl rfl rfl ?_
        refine TOps.extract rfl rfl rfl ?_
        refine TOps.storeBld rfl rfl ti24 (by simp) rfl ?_
        refine TOps.assign rfl rfl ?_
        refine TOps.next ?_
        refine Tri.region ?_
        refine TOps.loadN rfl ti24 bld_rd rfl rfl ?_
        refine TOps.move rfl rfl ?_
        refine TOps.len rfl Try.underlying52 rfl ?_
        first | refine TOps.fieldB 1 rfl Try.underlying54 rfl rfl ti3 rfl rfl rfl ?_ | refine TOps.fieldN 1 rfl Try.underlying54 rfl rfl ti3 rfl rfl rfl ?_
        refine TOps.load1 rfl ti3 (Rd.fld (r9b.le bld_le) 1 rfl) rfl ?_
        refine TOps.sub rfl rfl (wrapI (by omega) (by omega)) rfl ?_
        refine TOps.add rfl rfl (wrapI (by omega) (by omega)) rfl ?_
        refine TOps.move rfl rfl ?_
        refine TOps.call (vs := [_, _, _, _]) Try.call38 ⟨rfl, rfl, rfl, rfl, trivial⟩ (radd0_g (L := NS.length + 1) hs1' (by simp) ⟨by omega, by omega⟩ (by simp; omega) (trI_length N d.args) (by omega) rb 4 _) rfl ?_
        rintro _ _ ⟨s2, rfl, hs2, rfl⟩
        refine TOps.move rfl rfl ?_
        refine TOps.extract rfl rfl rfl ?_
        refine TOps.extract rfl rfl rfl ?_
        refine TOps.storeBld rfl rfl ti24 (by simp) rfl ?_
        refine TOps.assign rfl rfl ?_
        refine TOps.fin ?_
        refine Nrm.unB ?_
        refine Nrm.mid s2 hs2 (by exact ⟨rfl, rfl, rfl, rfl, rfl, rfl, rfl, rfl, rfl, rfl, rfl, trivial⟩) (by rw [hHB2]; exact bld_mono (List.Sublist.cons _ (List.sublist_cons_self _ _)))
      try simp only [decide_eq_true_eq, decide_eq_false_iff_not, Bool.and_eq_true, Bool.or_eq_true, Bool.not_eq_true', Bool.and_eq_false_iff, Bool.or_eq_false_iff, Bool.not_eq_false', Int.not_lt, Int.not_le, ne_eq, Decidable.not_not, Option.isSome_iff_ne_none, Option.isNone_iff_eq_none] at hc5
      have h5 : d.kind = 5 := by have := hfi.k0; have := hfi.k1; omega
      obtain ⟨x0, xr, hxe⟩ := List.exists_cons_of_ne_nil (hne (by omega))
      have hxl : d.args.length = xr.length + 1 := by rw [hxe]; rfl
      obtain rfl : xorR v P N xr (xorI v (P.getD x0.toNat 0) (N.getD x0.toNat 0) NS) = RR := by rw [← hRR]; unfold pushN xor0; rw [if_pos h5, hxe]; rfl
      obtain ⟨⟨za, rfl⟩, ⟨zb, rfl⟩⟩ := hq (by omega)
      obtain ⟨_, _, _, hxa⟩ := ra.at (i := 0) (by rw [trI_length]; omega)
      obtain rfl := Option.some.inj ‹some za = some _›
      obtain ⟨_, _, _, hxb⟩ := rb.at (i := 0) (by rw [trI_length]; omega)
      obtain rfl := Option.some.inj ‹some zb = some _›
      have ga : ∀ j (hj : j < d.args.length), (trI P d.args)[j]'(by rw [trI_length]; exact hj) = P.getD d.args[j].toNat 0 := fun j hj => by simp [trI]
      have gb : ∀ j (hj : j < d.args.length), (trI N d.args)[j]'(by rw [trI_length]; exact hj) = N.getD d.args[j].toNat 0 := fun j hj => by simp [trI]
      rw [ga 0 (by omega)] at hxa
      rw [gb 0 (by omega)] at hxb
      simp only [hxe, List.getElem_cons_zero, Nat.add_zero] at hxa hxb
      refine Tri.seq ?_
      have hlc : ∀ (x : Nat × BS) (c : Nat), Le (match c with | 0 => bld 24 54 b4 v NS 0 z1 HB2 | 1 => row (some x.1) 3 1 1 [.int .i64 (P.getD x0.toNat 0)] :: bld 24 54 b4 v NS 0 z1 HB2 | 2 => fact (x.2.ok (NS ++ [⟨3, 0, [(P.getD x0.toNat 0)]⟩])) :: bldH 24 54 b4 [.int .i64 v, slV z1.oa 0 NS.length z1.cap, .int .i64 0] (NS ++ [⟨3, 0, [(P.getD x0.toNat 0)]⟩]) x.2 HB2 | _ + 3 => fact (x.2.ok (NS ++ [⟨3, 0, [(P.getD x0.toNat 0)]⟩])) :: bld 24 54 b4 v (NS ++ [⟨3, 0, [(P.getD x0.toNat 0)]⟩]) 0 x.2 HB2) HB2 := by
        intro x c
        match c with
        | 0 => exact bld_le
        | 1 => exact Le.drop bld_le
        | 2 => exact Le.drop bldH_le
        | _ + 3 => exact Le.drop bld_le
      refine Tri.drawX (X := Nat × BS) rfl [(1, .pointer (some ⟨b1, 0, none⟩)), (2, .pointer (some ⟨b2, 0, none⟩)), (4, .pointer (some ⟨b4, 0, none⟩)), (5, slV (some yy.1) 0 (v + F.nodes.length) (v + F.nodes.length)), (6, slV (some yy.2) 0 (v + F.nodes.length) (v + F.nodes.length)), (61, slV (some nb) off F.nodes.length cap none), (62, .int .i64 F.nodes.length), (63, .int .i64 k), (8, .int .i64 k), (9, .pointer (some ⟨b9, 0, none⟩)), (10, slV (some za) 0 d.args.length qac), (11, slV (some zb) 0 d.args.length qbc)] [] (fun x => [_, _, _, _, slV (some x.1) 0 1 1, .tuple (List.toArray [.agg (List.toArray [.int .i64 v, slV x.2.oa 0 (NS.length + 1) x.2.cap, .int .i64 0]), .int .i64 (v + (NS.length : Nat))]), .tuple (List.toArray [.agg (List.toArray [.int .i64 v, slV x.2.oa 0 (NS.length + 1) x.2.cap, .int .i64 0]), .int .i64 (v + (NS.length : Nat))]), .agg (List.toArray [.int .i64 v, slV x.2.oa 0 (NS.length + 1) x.2.cap, .int .i64 0]), .int .i64 (v + (NS.length : Nat)), undef, .int .i64 (v + (NS.length : Nat))]) (fun x c => match c with | 0 => bld 24 54 b4 v NS 0 z1 HB2 | 1 => row (some x.1) 3 1 1 [.int .i64 (P.getD x0.toNat 0)] :: bld 24 54 b4 v NS 0 z1 HB2 | 2 => fact (x.2.ok (NS ++ [⟨3, 0, [(P.getD x0.toNat 0)]⟩])) :: bldH 24 54 b4 [.int .i64 v, slV z1.oa 0 NS.length z1.cap, .int .i64 0] (NS ++ [⟨3, 0, [(P.getD x0.toNat 0)]⟩]) x.2 HB2 | _ + 3 => fact (x.2.ok (NS ++ [⟨3, 0, [(P.getD x0.toNat 0)]⟩])) :: bld 24 54 b4 v (NS ++ [⟨3, 0, [(P.getD x0.toNat 0)]⟩]) 0 x.2 HB2) [4, 5, 9] (0, BS.new) [10] rfl rfl ⟨rfl, rfl, rfl, rfl, rfl, rfl, rfl, rfl, rfl, rfl, rfl, rfl, trivial⟩ trivial (by repeat (first | exact Le.refl _ | assumption | apply Le.drop)) (by
        refine ⟨?_, ?_, ?_, ?_, ?_, ?_, ?_, ?_, ?_, ?_, ?_, trivial⟩
        · refine ⟨fun x S c he hw hd hc hcu hm _ => ?_, trivial⟩
          rcases (show c = 0 ∨ c = 1 by have : c ≤ 1 := hcu; omega) with rfl | rfl <;> refine TOps.loadN (vs := [.int .i64 v, slV z1.oa 0 NS.length z1.cap, .int .i64 0]) (he _ _ rfl) ti24 (by first | exact bld_rd | exact Rd.up bld_rd) rfl rfl ?_
          all_goals exact TOps.fin (Nrm.draw x (fun _ _ _ => rfl) rfl (Le.refl _))
        · refine ⟨fun x S c he hw hd hc hcu hm _ => ?_, trivial⟩
          refine TOps.move (he _ _ rfl) rfl ?_
          exact TOps.fin (Nrm.draw x (fun _ _ _ => rfl) rfl (by first | exact Le.refl _ | assumption | exact (by repeat (first | exact Le.refl _ | assumption | apply Le.drop))))
        · refine ⟨fun x S c he hw hd hc hcu hm _ => ?_, trivial⟩
          obtain ⟨h1, -⟩ := hd
          refine TOps.indexAddr (off' := 0) h1 rfl Try.underlying52 ti3 (by omega) (by omega) (by simp) rfl ?_
          exact TOps.fin (Nrm.draw x (fun _ _ _ => rfl) rfl (by first | exact Le.refl _ | assumption | exact (by repeat (first | exact Le.refl _ | assumption | apply Le.drop))))
        · refine ⟨fun x S c he hw hd hc hcu hm _ => ?_, trivial⟩
          obtain ⟨h2, -⟩ := hd
          refine TOps.load1 h2 ti3 (Rd.le hxa (hlc x c)) rfl ?_
          exact TOps.fin (Nrm.draw x (fun _ _ _ => rfl) rfl (by first | exact Le.refl _ | assumption | exact (by repeat (first | exact Le.refl _ | assumption | apply Le.drop))))
        · refine ⟨fun x S c he hw hd hc hcu hm _ => ?_, trivial⟩
          obtain ⟨h3, -⟩ := hd
          obtain rfl : c = 0 := hm rfl
          refine TOps.buildSlice (vs := [_]) (xs := [_]) Try.underlying52 ti3 ⟨rfl, h3, trivial⟩ rfl rfl rfl rfl rfl rfl (by decide) rfl (fun b97 => ?_)
          refine TOps.fin (Nrm.draw (b97, x.2) ?_ rfl (Le.refl _))
          intro j hj hcj; rcases j with _|_|_|_|_|_|_|_|_|_|_|j <;> first | rfl | exact absurd rfl hj | exact absurd hcj (by decide)
        · refine ⟨fun x S c he hw hd hc hcu hm _ => ?_, trivial⟩
          obtain ⟨h0, h4, -⟩ := hd
          obtain rfl : c = 1 := hm rfl
          refine TOps.call (vs := [_, _, _, _]) Try.call38 ⟨h0, rfl, rfl, h4, trivial⟩ (radd1_g (args := [P.getD x0.toNat 0]) (L := NS.length) hz1 rfl ⟨by omega, by omega⟩ (by omega) rfl (by simp) (fun _ => ⟨_, rfl⟩) 3 0) rfl ?_
          rintro _ _ ⟨s', rfl, hs', rfl⟩
          refine TOps.fin (Nrm.draw (x.1, s') ?_ rfl (Le.addFact hs'))
          intro j hj hcj; rcases j with _|_|_|_|_|_|_|_|_|_|_|j <;> first | rfl | exact absurd rfl hj | exact absurd hcj (by decide)
        · refine ⟨fun x S c he hw hd hc hcu hm _ => ?_, trivial⟩
          obtain ⟨h5, -⟩ := hd
          refine TOps.move h5 rfl ?_
          exact TOps.fin (Nrm.draw x (fun _ _ _ => rfl) rfl (by first | exact Le.refl _ | assumption | exact (by repeat (first | exact Le.refl _ | assumption | apply Le.drop))))
        · refine ⟨fun x S c he hw hd hc hcu hm _ => ?_, trivial⟩
          obtain ⟨h6, -⟩ := hd
          refine TOps.extract h6 rfl rfl ?_
          exact TOps.fin (Nrm.draw x (fun _ _ _ => rfl) rfl (by first | exact Le.refl _ | assumption | exact (by repeat (first | exact Le.refl _ | assumption | apply Le.drop))))
        · refine ⟨fun x S c he hw hd hc hcu hm _ => ?_, trivial⟩
          obtain ⟨h6, -⟩ := hd
          refine TOps.extract h6 rfl rfl ?_
          exact TOps.fin (Nrm.draw x (fun _ _ _ => rfl) rfl (by first | exact Le.refl _ | assumption | exact (by repeat (first | exact Le.refl _ | assumption | apply Le.drop))))
        · refine ⟨fun x S c he hw hd hc hcu hm _ => ?_, trivial⟩
          obtain ⟨h7, h5, h0, h1, h2, h3, h4, _, h6, _, -⟩ := hd
          obtain rfl : c = 2 := hm rfl
          refine TOps.fact (List.Mem.head _) (fun hs' => ?_)
          refine TOps.le (Le.drop (Le.refl _)) ?_
          refine TOps.storeBld (he _ _ rfl) h7 ti24 (by simp) rfl ?_
          refine TOps.fin (Nrm.draw x (fun _ _ _ => rfl) rfl (Le.addFact hs'))
        · refine ⟨fun x S c he hw hd hc hcu hm _ => ?_, trivial⟩
          obtain ⟨h8, h9, h0, h1, h2, h3, h4, h5, h6, h7, _, _, -⟩ := hd
          refine TOps.assign h8 rfl ?_
          exact TOps.fin (Nrm.draw x (fun _ _ _ => rfl) rfl (by first | exact Le.refl _ | assumption | exact (by repeat (first | exact Le.refl _ | assumption | apply Le.drop))))
        ) (fun w => ?_)
      refine Nrm.fact (List.Mem.head _) (fun hNS1 => ?_)
      refine Nrm.le (Le.drop (Le.refl _)) ?_
      clear hlc
      have hlNS1 : (NS ++ ([⟨3, 0, [P.getD x0.toNat 0]⟩] : List Nd)).length = NS.length + 1 := by rw [List.length_append, List.length_singleton] <;> omega
      obtain ⟨NS1, eNS1⟩ : ∃ NS1, NS ++ ([⟨3, 0, [P.getD x0.toNat 0]⟩] : List Nd) = NS1 := ⟨_, rfl⟩
      rw [eNS1] at hNS1 hlNS1 ⊢
      obtain ⟨zNS1, ezNS1⟩ : ∃ zNS1, w.2 = zNS1 := ⟨_, rfl⟩
      rw [ezNS1] at hNS1 ⊢
      refine Nrm.next ?_
      refine Tri.seq ?_
      have hlc : ∀ (x : Nat × BS) (c : Nat), Le (match c with | 0 => bld 24 54 b4 v NS1 0 zNS1 HB2 | 1 => row (some x.1) 3 1 1 [.int .i64 (N.getD x0.toNat 0)] :: bld 24 54 b4 v NS1 0 zNS1 HB2 | 2 => fact (x.2.ok (NS1 ++ [⟨3, 0, [(N.getD x0.toNat 0)]⟩])) :: bldH 24 54 b4 [.int .i64 v, slV zNS1.oa 0 NS1.length zNS1.cap, .int .i64 0] (NS1 ++ [⟨3, 0, [(N.getD x0.toNat 0)]⟩]) x.2 HB2 | _ + 3 => fact (x.2.ok (NS1 ++ [⟨3, 0, [(N.getD x0.toNat 0)]⟩])) :: bld 24 54 b4 v (NS1 ++ [⟨3, 0, [(N.getD x0.toNat 0)]⟩]) 0 x.2 HB2) HB2 := by
        intro x c
        match c with
        | 0 => exact bld_le
        | 1 => exact Le.drop bld_le
        | 2 => exact Le.drop bldH_le
        | _ + 3 => exact Le.drop bld_le
      refine Tri.drawX (X := Nat × BS) rfl [(1, .pointer (some ⟨b1, 0, none⟩)), (2, .pointer (some ⟨b2, 0, none⟩)), (4, .pointer (some ⟨b4, 0, none⟩)), (5, slV (some yy.1) 0 (v + F.nodes.length) (v + F.nodes.length)), (6, slV (some yy.2) 0 (v + F.nodes.length) (v + F.nodes.length)), (61, slV (some nb) off F.nodes.length cap none), (62, .int .i64 F.nodes.length), (63, .int .i64 k), (8, .int .i64 k), (9, .pointer (some ⟨b9, 0, none⟩)), (10, slV (some za) 0 d.args.length qac), (11, slV (some zb) 0 d.args.length qbc), (14, .int .i64 (v + (NS.length : Nat)))] [] (fun x => [_, _, _, _, slV (some x.1) 0 1 1, .tuple (List.toArray [.agg (List.toArray [.int .i64 v, slV x.2.oa 0 (NS1.length + 1) x.2.cap, .int .i64 0]), .int .i64 (v + ((NS.length + 1) : Nat))]), .tuple (List.toArray [.agg (List.toArray [.int .i64 v, slV x.2.oa 0 (NS1.length + 1) x.2.cap, .int .i64 0]), .int .i64 (v + ((NS.length + 1) : Nat))]), .agg (List.toArray [.int .i64 v, slV x.2.oa 0 (NS1.length + 1) x.2.cap, .int .i64 0]), .int .i64 (v + ((NS.length + 1) : Nat)), undef, .int .i64 (v + ((NS.length + 1) : Nat))]) (fun x c => match c with | 0 => bld 24 54 b4 v NS1 0 zNS1 HB2 | 1 => row (some x.1) 3 1 1 [.int .i64 (N.getD x0.toNat 0)] :: bld 24 54 b4 v NS1 0 zNS1 HB2 | 2 => fact (x.2.ok (NS1 ++ [⟨3, 0, [(N.getD x0.toNat 0)]⟩])) :: bldH 24 54 b4 [.int .i64 v, slV zNS1.oa 0 NS1.length zNS1.cap, .int .i64 0] (NS1 ++ [⟨3, 0, [(N.getD x0.toNat 0)]⟩]) x.2 HB2 | _ + 3 => fact (x.2.ok (NS1 ++ [⟨3, 0, [(N.getD x0.toNat 0)]⟩])) :: bld 24 54 b4 v (NS1 ++ [⟨3, 0, [(N.getD x0.toNat 0)]⟩]) 0 x.2 HB2) [4, 5, 9] (0, BS.new) [10] rfl rfl ⟨rfl, rfl, rfl, rfl, rfl, rfl, rfl, rfl, rfl, rfl, rfl, rfl, rfl, trivial⟩ trivial (by repeat (first | exact Le.refl _ | assumption | apply Le.drop)) (by
        refine ⟨?_, ?_, ?_, ?_, ?_, ?_, ?_, ?_, ?_, ?_, ?_, trivial⟩
        · refine ⟨fun x S c he hw hd hc hcu hm _ => ?_, trivial⟩
          rcases (show c = 0 ∨ c = 1 by have : c ≤ 1 := hcu; omega) with rfl | rfl <;> refine TOps.loadN (vs := [.int .i64 v, slV zNS1.oa 0 NS1.length zNS1.cap, .int .i64 0]) (he _ _ rfl) ti24 (by first | exact bld_rd | exact Rd.up bld_rd) rfl rfl ?_
          all_goals exact TOps.fin (Nrm.draw x (fun _ _ _ => rfl) rfl (Le.refl _))
        · refine ⟨fun x S c he hw hd hc hcu hm _ => ?_, trivial⟩
          refine TOps.move (he _ _ rfl) rfl ?_
          exact TOps.fin (Nrm.draw x (fun _ _ _ => rfl) rfl (by first | exact Le.refl _ | assumption | exact (by repeat (first | exact Le.refl _ | assumption | apply Le.drop))))
        · refine ⟨fun x S c he hw hd hc hcu hm _ => ?_, trivial⟩
          obtain ⟨h1, -⟩ := hd
          refine TOps.indexAddr (off' := 0) h1 rfl Try.underlying52 ti3 (by omega) (by omega) (by simp) rfl ?_
          exact TOps.fin (Nrm.draw x (fun _ _ _ => rfl) rfl (by first | exact Le.refl _ | assumption | exact (by repeat (first | exact Le.refl _ | assumption | apply Le.drop))))
        · refine ⟨fun x S c he hw hd hc hcu hm _ => ?_, trivial⟩
          obtain ⟨h2, -⟩ := hd
          refine TOps.load1 h2 ti3 (Rd.le hxb (hlc x c)) rfl ?_
          exact TOps.fin (Nrm.draw x (fun _ _ _ => rfl) rfl (by first | exact Le.refl _ | assumption | exact (by repeat (first | exact Le.refl _ | assumption | apply Le.drop))))
        · refine ⟨fun x S c he hw hd hc hcu hm _ => ?_, trivial⟩
          obtain ⟨h3, -⟩ := hd
          obtain rfl : c = 0 := hm rfl
          refine TOps.buildSlice (vs := [_]) (xs := [_]) Try.underlying52 ti3 ⟨rfl, h3, trivial⟩ rfl rfl rfl rfl rfl rfl (by decide) rfl (fun b106 => ?_)
          refine TOps.fin (Nrm.draw (b106, x.2) ?_ rfl (Le.refl _))
          intro j hj hcj; rcases j with _|_|_|_|_|_|_|_|_|_|_|j <;> first | rfl | exact absurd rfl hj | exact absurd hcj (by decide)
        · refine ⟨fun x S c he hw hd hc hcu hm _ => ?_, trivial⟩
          obtain ⟨h0, h4, -⟩ := hd
          obtain rfl : c = 1 := hm rfl
          refine TOps.call (vs := [_, _, _, _]) Try.call38 ⟨h0, rfl, rfl, h4, trivial⟩ (radd1_g (args := [N.getD x0.toNat 0]) (L := (NS.length + 1)) hNS1 hlNS1 ⟨by omega, by omega⟩ (by omega) rfl (by simp) (fun _ => ⟨_, rfl⟩) 3 0) rfl ?_
          rintro _ _ ⟨s', rfl, hs', rfl⟩
          refine TOps.fin (Nrm.draw (x.1, s') ?_ rfl (Le.addFact hs'))
          intro j hj hcj; rcases j with _|_|_|_|_|_|_|_|_|_|_|j <;> first | rfl | exact absurd rfl hj | exact absurd hcj (by decide)
        · refine ⟨fun x S c he hw hd hc hcu hm _ => ?_, trivial⟩
          obtain ⟨h5, -⟩ := hd
          refine TOps.move h5 rfl ?_
          exact TOps.fin (Nrm.draw x (fun _ _ _ => rfl) rfl (by first | exact Le.refl _ | assumption | exact (by repeat (first | exact Le.refl _ | assumption | apply Le.drop))))
        · refine ⟨fun x S c he hw hd hc hcu hm _ => ?_, trivial⟩
          obtain ⟨h6, -⟩ := hd
          refine TOps.extract h6 rfl rfl ?_
          exact TOps.fin (Nrm.draw x (fun _ _ _ => rfl) rfl (by first | exact Le.refl _ | assumption | exact (by repeat (first | exact Le.refl _ | assumption | apply Le.drop))))
        · refine ⟨fun x S c he hw hd hc hcu hm _ => ?_, trivial⟩
          obtain ⟨h6, -⟩ := hd
          refine TOps.extract h6 rfl rfl ?_
          exact TOps.fin (Nrm.draw x (fun _ _ _ => rfl) rfl (by first | exact Le.refl _ | assumption | exact (by repeat (first | exact Le.refl _ | assumption | apply Le.drop))))
        · refine ⟨fun x S c he hw hd hc hcu hm _ => ?_, trivial⟩
          obtain ⟨h7, h5, h0, h1, h2, h3, h4, _, h6, _, -⟩ := hd
          obtain rfl : c = 2 := hm rfl
          refine TOps.fact (List.Mem.head _) (fun hs' => ?_)
          refine TOps.le (Le.drop (Le.refl _)) ?_
          refine TOps.storeBld (he _ _ rfl) h7 ti24 (by simp) rfl ?_
          refine TOps.fin (Nrm.draw x (fun _ _ _ => rfl) rfl (Le.addFact hs'))
        · refine ⟨fun x S c he hw hd hc hcu hm _ => ?_, trivial⟩
          obtain ⟨h8, h9, h0, h1, h2, h3, h4, h5, h6, h7, _, _, -⟩ := hd
          refine TOps.assign h8 rfl ?_
          exact TOps.fin (Nrm.draw x (fun _ _ _ => rfl) rfl (by first | exact Le.refl _ | assumption | exact (by repeat (first | exact Le.refl _ | assumption | apply Le.drop))))
        ) (fun w => ?_)
      refine Nrm.fact (List.Mem.head _) (fun hNS2 => ?_)
      refine Nrm.le (Le.drop (Le.refl _)) ?_
      clear hlc
      have hlNS2 : (NS1 ++ ([⟨3, 0, [N.getD x0.toNat 0]⟩] : List Nd)).length = (NS.length + 1) + 1 := by rw [List.length_append, List.length_singleton] <;> omega
      obtain ⟨NS2, eNS2⟩ : ∃ NS2, NS1 ++ ([⟨3, 0, [N.getD x0.toNat 0]⟩] : List Nd) = NS2 := ⟨_, rfl⟩
      rw [eNS2] at hNS2 hlNS2 ⊢
      obtain ⟨zNS2, ezNS2⟩ : ∃ zNS2, w.2 = zNS2 := ⟨_, rfl⟩
      rw [ezNS2] at hNS2 ⊢
      refine Nrm.next ?_
      refine Tri.seq (Tri.region ?_)
      refine TOps.assign rfl rfl ?_
      refine TOps.next ?_
      refine Tri.block ?_
      refine Tri.loop (X := Nat × BS) (fun x => [(1, .pointer (some ⟨b1, 0, none⟩)), (2, .pointer (some ⟨b2, 0, none⟩)), (4, .pointer (some ⟨b4, 0, none⟩)), (5, slV (some yy.1) 0 (v + F.nodes.length) (v + F.nodes.length)), (6, slV (some yy.2) 0 (v + F.nodes.length) (v + F.nodes.length)), (61, slV (some nb) off F.nodes.length cap none), (62, .int .i64 F.nodes.length), (63, .int .i64 k), (8, .int .i64 k), (9, .pointer (some ⟨b9, 0, none⟩)), (10, slV (some za) 0 d.args.length qac), (11, slV (some zb) 0 d.args.length qbc), (14, .int .i64 (xorR v P N (xr.take x.1) (xorI v (P.getD x0.toNat 0) (N.getD x0.toNat 0) NS)).2.1), (15, .int .i64 (xorR v P N (xr.take x.1) (xorI v (P.getD x0.toNat 0) (N.getD x0.toNat 0) NS)).2.2), (16, .int .i64 ((x.1 + 1 : Nat) : Int))]) (fun x => bld 24 54 b4 v (xorR v P N (xr.take x.1) (xorI v (P.getD x0.toNat 0) (N.getD x0.toNat 0) NS)).1 0 x.2 HB2) (fun x => x.1 ≤ xr.length ∧ x.2.ok (xorR v P N (xr.take x.1) (xorI v (P.getD x0.toNat 0) (N.getD x0.toNat 0) NS)).1) (fun x => xr.length - x.1) (0, zNS2) ⟨Nat.zero_le _, by rw [← eNS2, ← eNS1] at hNS2; exact hNS2⟩ ⟨rfl, rfl, rfl, rfl, rfl, rfl, rfl, rfl, rfl, rfl, rfl, rfl, rfl, rfl, rfl, trivial⟩ (by rw [← eNS2, ← eNS1]; exact Le.refl _) (fun x hp => ?_)
      obtain ⟨i, zi⟩ := x
      obtain ⟨hi1, hzi⟩ := hp
      dsimp only at hi1 hzi ⊢
      have hwl := xorR_len v P N (xr.take i) (xorI v (P.getD x0.toNat 0) (N.getD x0.toNat 0) NS)
      rw [List.length_take, show (xorI v (P.getD x0.toNat 0) (N.getD x0.toNat 0) NS).1.length = NS.length + 2 by simp [xorI]] at hwl
      refine Tri.seq ?_
      refine Tri.seq (Tri.region ?_)
      refine TOps.move rfl rfl ?_
      refine TOps.move rfl rfl ?_
      refine TOps.len rfl Try.underlying52 rfl ?_
      refine TOps.lss rfl rfl rfl ?_
      refine TOps.next ?_
      refine Tri.cond rfl (fun hc6 => ?_) (fun hc6 => ?_)
      · try simp only [decide_eq_true_eq, decide_eq_false_iff_not, Bool.and_eq_true, Bool.or_eq_true, Bool.not_eq_true', Bool.and_eq_false_iff, Bool.or_eq_false_iff, Bool.not_eq_false', Int.not_lt, Int.not_le, ne_eq, Decidable.not_not, Option.isSome_iff_ne_none, Option.isNone_iff_eq_none] at hc6
        have hix : i < xr.length := by omega
        obtain ⟨W, hW⟩ : ∃ W, xorR v P N (xr.take i) (xorI v (P.getD x0.toNat 0) (N.getD x0.toNat 0) NS) = W := ⟨_, rfl⟩
        have hWn : xorR v P N (xr.take (i + 1)) (xorI v (P.getD x0.toNat 0) (N.getD x0.toNat 0) NS) = xor6 v (P.getD xr[i].toNat 0) (N.getD xr[i].toNat 0) W := by rw [List.take_succ_eq_append_getElem hix, xorR_snoc, hW]
        rw [hW] at hwl hzi ⊢
        obtain ⟨_, _, _, hpk⟩ := ra.at (i := i + 1) (by rw [trI_length]; omega)
        obtain rfl := Option.some.inj ‹some za = some _›
        obtain ⟨_, _, _, hnk⟩ := rb.at (i := i + 1) (by rw [trI_length]; omega)
        obtain rfl := Option.some.inj ‹some zb = some _›
        rw [ga (i + 1) (by omega)] at hpk
        rw [gb (i + 1) (by omega)] at hnk
        simp only [hxe, List.getElem_cons_succ] at hpk hnk
        obtain ⟨A, hA⟩ : ∃ A, xr[i] = A := ⟨_, rfl⟩
        rw [hA] at hpk hnk hWn
        refine Tri.fin ?_
        refine Nrm.next ?_
        refine Tri.seq ?_
        refine Tri.block ?_
        refine Tri.seq (Tri.region ?_)
        refine TOps.assign rfl rfl ?_
        refine TOps.assign rfl rfl ?_
        refine TOps.assign rfl rfl ?_
        refine TOps.assign rfl rfl ?_
        refine TOps.assign rfl rfl ?_
        refine TOps.assign rfl rfl ?_
        refine TOps.next ?_
        refine Tri.seq ?_
        have hlc : ∀ (x : Nat × BS) (c : Nat), Le (match c with | 0 => bld 24 54 b4 v W.1 0 zi HB2 | 1 => row (some x.1) 3 1 2 [.int .i64 W.2.1, .int .i64 (N.getD A.toNat 0)] :: bld 24 54 b4 v W.1 0 zi HB2 | 2 => fact (x.2.ok (W.1 ++ [⟨2, 0, [W.2.1, (N.getD A.toNat 0)]⟩])) :: bldH 24 54 b4 [.int .i64 v, slV zi.oa 0 W.1.length zi.cap, .int .i64 0] (W.1 ++ [⟨2, 0, [W.2.1, (N.getD A.toNat 0)]⟩]) x.2 HB2 | _ + 3 => fact (x.2.ok (W.1 ++ [⟨2, 0, [W.2.1, (N.getD A.toNat 0)]⟩])) :: bld 24 54 b4 v (W.1 ++ [⟨2, 0, [W.2.1, (N.getD A.toNat 0)]⟩]) 0 x.2 HB2) HB2 := by
          intro x c
          match c with
          | 0 => exact bld_le
          | 1 => exact Le.drop bld_le
          | 2 => exact Le.drop bldH_le
          | _ + 3 => exact Le.drop bld_le
        refine Tri.drawX (X := Nat × BS) rfl [(1, .pointer (some ⟨b1, 0, none⟩)), (2, .pointer (some ⟨b2, 0, none⟩)), (4, .pointer (some ⟨b4, 0, none⟩)), (5, slV (some yy.1) 0 (v + F.nodes.length) (v + F.nodes.length)), (6, slV (some yy.2) 0 (v + F.nodes.length) (v + F.nodes.length)), (61, slV (some nb) off F.nodes.length cap none), (62, .int .i64 F.nodes.length), (63, .int .i64 k), (8, .int .i64 k), (9, .pointer (some ⟨b9, 0, none⟩)), (10, slV (some za) 0 d.args.length qac), (11, slV (some zb) 0 d.args.length qbc), (14, .int .i64 W.2.1), (15, .int .i64 W.2.2), (16, .int .i64 ((i + 1 : Nat) : Int))] [] (fun x => [_, _, _, _, _, _, slV (some x.1) 0 2 2, .tuple (List.toArray [.agg (List.toArray [.int .i64 v, slV x.2.oa 0 (W.1.length + 1) x.2.cap, .int .i64 0]), .int .i64 (v + (W.1.length : Nat))]), .tuple (List.toArray [.agg (List.toArray [.int .i64 v, slV x.2.oa 0 (W.1.length + 1) x.2.cap, .int .i64 0]), .int .i64 (v + (W.1.length : Nat))]), .agg (List.toArray [.int .i64 v, slV x.2.oa 0 (W.1.length + 1) x.2.cap, .int .i64 0]), .int .i64 (v + (W.1.length : Nat)), undef, .int .i64 (v + (W.1.length : Nat))]) (fun x c => match c with | 0 => bld 24 54 b4 v W.1 0 zi HB2 | 1 => row (some x.1) 3 1 2 [.int .i64 W.2.1, .int .i64 (N.getD A.toNat 0)] :: bld 24 54 b4 v W.1 0 zi HB2 | 2 => fact (x.2.ok (W.1 ++ [⟨2, 0, [W.2.1, (N.getD A.toNat 0)]⟩])) :: bldH 24 54 b4 [.int .i64 v, slV zi.oa 0 W.1.length zi.cap, .int .i64 0] (W.1 ++ [⟨2, 0, [W.2.1, (N.getD A.toNat 0)]⟩]) x.2 HB2 | _ + 3 => fact (x.2.ok (W.1 ++ [⟨2, 0, [W.2.1, (N.getD A.toNat 0)]⟩])) :: bld 24 54 b4 v (W.1 ++ [⟨2, 0, [W.2.1, (N.getD A.toNat 0)]⟩]) 0 x.2 HB2) [6, 7, 11] (0, BS.new) [12] rfl rfl ⟨rfl, rfl, rfl, rfl, rfl, rfl, rfl, rfl, rfl, rfl, rfl, rfl, rfl, rfl, rfl, trivial⟩ trivial (by repeat (first | exact Le.refl _ | assumption | apply Le.drop)) (by
          refine ⟨?_, ?_, ?_, ?_, ?_, ?_, ?_, ?_, ?_, ?_, ?_, ?_, ?_, trivial⟩
          · refine ⟨fun x S c he hw hd hc hcu hm _ => ?_, trivial⟩
            rcases (show c = 0 ∨ c = 1 by have : c ≤ 1 := hcu; omega) with rfl | rfl <;> refine TOps.loadN (vs := [.int .i64 v, slV zi.oa 0 W.1.length zi.cap, .int .i64 0]) (he _ _ rfl) ti24 (by first | exact bld_rd | exact Rd.up bld_rd) rfl rfl ?_
            all_goals exact TOps.fin (Nrm.draw x (fun _ _ _ => rfl) rfl (Le.refl _))
          · refine ⟨fun x S c he hw hd hc hcu hm _ => ?_, trivial⟩
            refine TOps.move (he _ _ rfl) rfl ?_
            exact TOps.fin (Nrm.draw x (fun _ _ _ => rfl) rfl (by first | exact Le.refl _ | assumption | exact (by repeat (first | exact Le.refl _ | assumption | apply Le.drop))))
          · refine ⟨fun x S c he hw hd hc hcu hm _ => ?_, trivial⟩
            refine TOps.move (he _ _ rfl) rfl ?_
            exact TOps.fin (Nrm.draw x (fun _ _ _ => rfl) rfl (by first | exact Le.refl _ | assumption | exact (by repeat (first | exact Le.refl _ | assumption | apply Le.drop))))
          · refine ⟨fun x S c he hw hd hc hcu hm _ => ?_, trivial⟩
            refine TOps.move (he _ _ rfl) rfl ?_
            exact TOps.fin (Nrm.draw x (fun _ _ _ => rfl) rfl (by first | exact Le.refl _ | assumption | exact (by repeat (first | exact Le.refl _ | assumption | apply Le.drop))))
          · refine ⟨fun x S c he hw hd hc hcu hm _ => ?_, trivial⟩
            obtain ⟨h2, h3, -⟩ := hd
            refine TOps.indexAddr (off' := 0 + (i + 1)) h2 h3 Try.underlying52 ti3 (by omega) (by omega) (by simp) rfl ?_
            exact TOps.fin (Nrm.draw x (fun _ _ _ => rfl) rfl (by first | exact Le.refl _ | assumption | exact (by repeat (first | exact Le.refl _ | assumption | apply Le.drop))))
          · refine ⟨fun x S c he hw hd hc hcu hm _ => ?_, trivial⟩
            obtain ⟨h4, -⟩ := hd
            refine TOps.load1 h4 ti3 (Rd.le hnk (hlc x c)) rfl ?_
            exact TOps.fin (Nrm.draw x (fun _ _ _ => rfl) rfl (by first | exact Le.refl _ | assumption | exact (by repeat (first | exact Le.refl _ | assumption | apply Le.drop))))
          · refine ⟨fun x S c he hw hd hc hcu hm _ => ?_, trivial⟩
            obtain ⟨h1, h5, -⟩ := hd
            obtain rfl : c = 0 := hm rfl
            refine TOps.buildSlice (vs := [_, _]) (xs := [_, _]) Try.underlying52 ti3 ⟨rfl, h1, rfl, h5, trivial⟩ rfl rfl rfl rfl rfl rfl (by decide) rfl (fun b123 => ?_)
            refine TOps.fin (Nrm.draw (b123, x.2) ?_ rfl (Le.refl _))
            intro j hj hcj; rcases j with _|_|_|_|_|_|_|_|_|_|_|_|_|j <;> first | rfl | exact absurd rfl hj | exact absurd hcj (by decide)
          · refine ⟨fun x S c he hw hd hc hcu hm _ => ?_, trivial⟩
            obtain ⟨h0, h6, -⟩ := hd
            obtain rfl : c = 1 := hm rfl
            refine TOps.call (vs := [_, _, _, _]) Try.call38 ⟨h0, rfl, rfl, h6, trivial⟩ (radd1_g (args := [W.2.1, N.getD A.toNat 0]) (L := W.1.length) hzi rfl ⟨by omega, by omega⟩ (by omega) rfl (by simp) (fun _ => ⟨_, rfl⟩) 2 0) rfl ?_
            rintro _ _ ⟨s', rfl, hs', rfl⟩
            refine TOps.fin (Nrm.draw (x.1, s') ?_ rfl (Le.addFact hs'))
            intro j hj hcj; rcases j with _|_|_|_|_|_|_|_|_|_|_|_|_|j <;> first | rfl | exact absurd rfl hj | exact absurd hcj (by decide)
          · refine ⟨fun x S c he hw hd hc hcu hm _ => ?_, trivial⟩
            obtain ⟨h7, -⟩ := hd
            refine TOps.move h7 rfl ?_
            exact TOps.fin (Nrm.draw x (fun _ _ _ => rfl) rfl (by first | exact Le.refl _ | assumption | exact (by repeat (first | exact Le.refl _ | assumption | apply Le.drop))))
          · refine ⟨fun x S c he hw hd hc hcu hm _ => ?_, trivial⟩
            obtain ⟨h8, -⟩ := hd
            refine TOps.extract h8 rfl rfl ?_
            exact TOps.fin (Nrm.draw x (fun _ _ _ => rfl) rfl (by first | exact Le.refl _ | assumption | exact (by repeat (first | exact Le.refl _ | assumption | apply Le.drop))))
          · refine ⟨fun x S c he hw hd hc hcu hm _ => ?_, trivial⟩
            obtain ⟨h8, -⟩ := hd
            refine TOps.extract h8 rfl rfl ?_
            exact TOps.fin (Nrm.draw x (fun _ _ _ => rfl) rfl (by first | exact Le.refl _ | assumption | exact (by repeat (first | exact Le.refl _ | assumption | apply Le.drop))))
          · refine ⟨fun x S c he hw hd hc hcu hm _ => ?_, trivial⟩
            obtain ⟨h9, h7, h0, h1, h2, h3, h4, h5, h6, _, h8, _, -⟩ := hd
            obtain rfl : c = 2 := hm rfl
            refine TOps.fact (List.Mem.head _) (fun hs' => ?_)
            refine TOps.le (Le.drop (Le.refl _)) ?_
            refine TOps.storeBld (he _ _ rfl) h9 ti24 (by simp) rfl ?_
            refine TOps.fin (Nrm.draw x (fun _ _ _ => rfl) rfl (Le.addFact hs'))
          · refine ⟨fun x S c he hw hd hc hcu hm _ => ?_, trivial⟩
            obtain ⟨h10, h11, h0, h1, h2, h3, h4, h5, h6, h7, h8, h9, _, _, -⟩ := hd
            refine TOps.assign h10 rfl ?_
            exact TOps.fin (Nrm.draw x (fun _ _ _ => rfl) rfl (by first | exact Le.refl _ | assumption | exact (by repeat (first | exact Le.refl _ | assumption | apply Le.drop))))
          ) (fun w => ?_)
        refine Nrm.fact (List.Mem.head _) (fun hM1 => ?_)
        refine Nrm.le (Le.drop (Le.refl _)) ?_
        clear hlc
        have hlM1 : (W.1 ++ ([⟨2, 0, [W.2.1, N.getD A.toNat 0]⟩] : List Nd)).length = W.1.length + 1 := by rw [List.length_append, List.length_singleton] <;> omega
        obtain ⟨M1, eM1⟩ : ∃ M1, W.1 ++ ([⟨2, 0, [W.2.1, N.getD A.toNat 0]⟩] : List Nd) = M1 := ⟨_, rfl⟩
        rw [eM1] at hM1 hlM1 ⊢
        obtain ⟨zM1, ezM1⟩ : ∃ zM1, w.2 = zM1 := ⟨_, rfl⟩
        rw [ezM1] at hM1 ⊢
        refine Nrm.next ?_
        refine Tri.seq ?_
        have hlc : ∀ (x : Nat × BS) (c : Nat), Le (match c with | 0 => bld 24 54 b4 v M1 0 zM1 HB2 | 1 => row (some x.1) 3 1 2 [.int .i64 W.2.2, .int .i64 (P.getD A.toNat 0)] :: bld 24 54 b4 v M1 0 zM1 HB2 | 2 => fact (x.2.ok (M1 ++ [⟨2, 0, [W.2.2, (P.getD A.toNat 0)]⟩])) :: bldH 24 54 b4 [.int .i64 v, slV zM1.oa 0 M1.length zM1.cap, .int .i64 0] (M1 ++ [⟨2, 0, [W.2.2, (P.getD A.toNat 0)]⟩]) x.2 HB2 | _ + 3 => fact (x.2.ok (M1 ++ [⟨2, 0, [W.2.2, (P.getD A.toNat 0)]⟩])) :: bld 24 54 b4 v (M1 ++ [⟨2, 0, [W.2.2, (P.getD A.toNat 0)]⟩]) 0 x.2 HB2) HB2 := by
          intro x c
          match c with
          | 0 => exact bld_le
          | 1 => exact Le.drop bld_le
          | 2 => exact Le.drop bldH_le
          | _ + 3 => exact Le.drop bld_le
        refine Tri.drawX (X := Nat × BS) rfl [(1, .pointer (some ⟨b1, 0, none⟩)), (2, .pointer (some ⟨b2, 0, none⟩)), (4, .pointer (some ⟨b4, 0, none⟩)), (5, slV (some yy.1) 0 (v + F.nodes.length) (v + F.nodes.length)), (6, slV (some yy.2) 0 (v + F.nodes.length) (v + F.nodes.length)), (61, slV (some nb) off F.nodes.length cap none), (62, .int .i64 F.nodes.length), (63, .int .i64 k), (8, .int .i64 k), (9, .pointer (some ⟨b9, 0, none⟩)), (10, slV (some za) 0 d.args.length qac), (11, slV (some zb) 0 d.args.length qbc), (14, .int .i64 W.2.1), (15, .int .i64 W.2.2), (16, .int .i64 ((i + 1 : Nat) : Int)), (17, .int .i64 (v + (W.1.length : Nat)))] [] (fun x => [_, _, _, _, _, _, slV (some x.1) 0 2 2, .tuple (List.toArray [.agg (List.toArray [.int .i64 v, slV x.2.oa 0 (M1.length + 1) x.2.cap, .int .i64 0]), .int .i64 (v + ((W.1.length + 1) : Nat))]), .tuple (List.toArray [.agg (List.toArray [.int .i64 v, slV x.2.oa 0 (M1.length + 1) x.2.cap, .int .i64 0]), .int .i64 (v + ((W.1.length + 1) : Nat))]), .agg (List.toArray [.int .i64 v, slV x.2.oa 0 (M1.length + 1) x.2.cap, .int .i64 0]), .int .i64 (v + ((W.1.length + 1) : Nat)), undef, .int .i64 (v + ((W.1.length + 1) : Nat))]) (fun x c => match c with | 0 => bld 24 54 b4 v M1 0 zM1 HB2 | 1 => row (some x.1) 3 1 2 [.int .i64 W.2.2, .int .i64 (P.getD A.toNat 0)] :: bld 24 54 b4 v M1 0 zM1 HB2 | 2 => fact (x.2.ok (M1 ++ [⟨2, 0, [W.2.2, (P.getD A.toNat 0)]⟩])) :: bldH 24 54 b4 [.int .i64 v, slV zM1.oa 0 M1.length zM1.cap, .int .i64 0] (M1 ++ [⟨2, 0, [W.2.2, (P.getD A.toNat 0)]⟩]) x.2 HB2 | _ + 3 => fact (x.2.ok (M1 ++ [⟨2, 0, [W.2.2, (P.getD A.toNat 0)]⟩])) :: bld 24 54 b4 v (M1 ++ [⟨2, 0, [W.2.2, (P.getD A.toNat 0)]⟩]) 0 x.2 HB2) [6, 7, 11] (0, BS.new) [12] rfl rfl ⟨rfl, rfl, rfl, rfl, rfl, rfl, rfl, rfl, rfl, rfl, rfl, rfl, rfl, rfl, rfl, rfl, trivial⟩ trivial (by repeat (first | exact Le.refl _ | assumption | apply Le.drop)) (by
          refine ⟨?_, ?_, ?_, ?_, ?_, ?_, ?_, ?_, ?_, ?_, ?_, ?_, ?_, trivial⟩
          · refine ⟨fun x S c he hw hd hc hcu hm _ => ?_, trivial⟩
            rcases (show c = 0 ∨ c = 1 by have : c ≤ 1 := hcu; omega) with rfl | rfl <;> refine TOps.loadN (vs := [.int .i64 v, slV zM1.oa 0 M1.length zM1.cap, .int .i64 0]) (he _ _ rfl) ti24 (by first | exact bld_rd | exact Rd.up bld_rd) rfl rfl ?_
            all_goals exact TOps.fin (Nrm.draw x (fun _ _ _ => rfl) rfl (Le.refl _))
          · refine ⟨fun x S c he hw hd hc hcu hm _ => ?_, trivial⟩
            refine TOps.move (he _ _ rfl) rfl ?_
            exact TOps.fin (Nrm.draw x (fun _ _ _ => rfl) rfl (by first | exact Le.refl _ | assumption | exact (by repeat (first | exact Le.refl _ | assumption | apply Le.drop))))
          · refine ⟨fun x S c he hw hd hc hcu hm _ => ?_, trivial⟩
            refine TOps.move (he _ _ rfl) rfl ?_
            exact TOps.fin (Nrm.draw x (fun _ _ _ => rfl) rfl (by first | exact Le.refl _ | assumption | exact (by repeat (first | exact Le.refl _ | assumption | apply Le.drop))))
          · refine ⟨fun x S c he hw hd hc hcu hm _ => ?_, trivial⟩
            refine TOps.move (he _ _ rfl) rfl ?_
            exact TOps.fin (Nrm.draw x (fun _ _ _ => rfl) rfl (by first | exact Le.refl _ | assumption | exact (by repeat (first | exact Le.refl _ | assumption | apply Le.drop))))
          · refine ⟨fun x S c he hw hd hc hcu hm _ => ?_, trivial⟩
            obtain ⟨h2, h3, -⟩ := hd
            refine TOps.indexAddr (off' := 0 + (i + 1)) h2 h3 Try.underlying52 ti3 (by omega) (by omega) (by simp) rfl ?_
            exact TOps.fin (Nrm.draw x (fun _ _ _ => rfl) rfl (by first | exact Le.refl _ | assumption | exact (by repeat (first | exact Le.refl _ | assumption | apply Le.drop))))
          · refine ⟨fun x S c he hw hd hc hcu hm _ => ?_, trivial⟩
            obtain ⟨h4, -⟩ := hd
            refine TOps.load1 h4 ti3 (Rd.le hpk (hlc x c)) rfl ?_
            exact TOps.fin (Nrm.draw x (fun _ _ _ => rfl) rfl (by first | exact Le.refl _ | assumption | exact (by repeat (first | exact Le.refl _ | assumption | apply Le.drop))))
          · refine ⟨fun x S c he hw hd hc hcu hm _ => ?_, trivial⟩
            obtain ⟨h1, h5, -⟩ := hd
            obtain rfl : c = 0 := hm rfl
            refine TOps.buildSlice (vs := [_, _]) (xs := [_, _]) Try.underlying52 ti3 ⟨rfl, h1, rfl, h5, trivial⟩ rfl rfl rfl rfl rfl rfl (by decide) rfl (fun b134 => ?_)
            refine TOps.fin (Nrm.draw (b134, x.2) ?_ rfl (Le.refl _))
            intro j hj hcj; rcases j with _|_|_|_|_|_|_|_|_|_|_|_|_|j <;> first | rfl | exact absurd rfl hj | exact absurd hcj (by decide)
          · refine ⟨fun x S c he hw hd hc hcu hm _ => ?_, trivial⟩
            obtain ⟨h0, h6, -⟩ := hd
            obtain rfl : c = 1 := hm rfl
            refine TOps.call (vs := [_, _, _, _]) Try.call38 ⟨h0, rfl, rfl, h6, trivial⟩ (radd1_g (args := [W.2.2, P.getD A.toNat 0]) (L := (W.1.length + 1)) hM1 hlM1 ⟨by omega, by omega⟩ (by omega) rfl (by simp) (fun _ => ⟨_, rfl⟩) 2 0) rfl ?_
            rintro _ _ ⟨s', rfl, hs', rfl⟩
            refine TOps.fin (Nrm.draw (x.1, s') ?_ rfl (Le.addFact hs'))
            intro j hj hcj; rcases j with _|_|_|_|_|_|_|_|_|_|_|_|_|j <;> first | rfl | exact absurd rfl hj | exact absurd hcj (by decide)
          · refine ⟨fun x S c he hw hd hc hcu hm _ => ?_, trivial⟩
            obtain ⟨h7, -⟩ := hd
            refine TOps.move h7 rfl ?_
            exact TOps.fin (Nrm.draw x (fun _ _ _ => rfl) rfl (by first | exact Le.refl _ | assumption | exact (by repeat (first | exact Le.refl _ | assumption | apply Le.drop))))
          · refine ⟨fun x S c he hw hd hc hcu hm _ => ?_, trivial⟩
            obtain ⟨h8, -⟩ := hd
            refine TOps.extract h8 rfl rfl ?_
            exact TOps.fin (Nrm.draw x (fun _ _ _ => rfl) rfl (by first | exact Le.refl _ | assumption | exact (by repeat (first | exact Le.refl _ | assumption | apply Le.drop))))
          · refine ⟨fun x S c he hw hd hc hcu hm _ => ?_, trivial⟩
            obtain ⟨h8, -⟩ := hd
            refine TOps.extract h8 rfl rfl ?_
            exact TOps.fin (Nrm.draw x (fun _ _ _ => rfl) rfl (by first | exact Le.refl _ | assumption | exact (by repeat (first | exact Le.refl _ | assumption | apply Le.drop))))
          · refine ⟨fun x S c he hw hd hc hcu hm _ => ?_, trivial⟩
            obtain ⟨h9, h7, h0, h1, h2, h3, h4, h5, h6, _, h8, _, -⟩ := hd
            obtain rfl : c = 2 := hm rfl
            refine TOps.fact (List.Mem.head _) (fun hs' => ?_)
            refine TOps.le (Le.drop (Le.refl _)) ?_
            refine TOps.storeBld (he _ _ rfl) h9 ti24 (by simp) rfl ?_
            refine TOps.fin (Nrm.draw x (fun _ _ _ => rfl) rfl (Le.addFact hs'))
          · refine ⟨fun x S c he hw hd hc hcu hm _ => ?_, trivial⟩
            obtain ⟨h10, h11, h0, h1, h2, h3, h4, h5, h6, h7, h8, h9, _, _, -⟩ := hd
            refine TOps.assign h10 rfl ?_
            exact TOps.fin (Nrm.draw x (fun _ _ _ => rfl) rfl (by first | exact Le.refl _ | assumption | exact (by repeat (first | exact Le.refl _ | assumption | apply Le.drop))))
          ) (fun w => ?_)
        refine Nrm.fact (List.Mem.head _) (fun hM2 => ?_)
        refine Nrm.le (Le.drop (Le.refl _)) ?_
        clear hlc
        have hlM2 : (M1 ++ ([⟨2, 0, [W.2.2, P.getD A.toNat 0]⟩] : List Nd)).length = (W.1.length + 1) + 1 := by rw [List.length_append, List.length_singleton] <;> omega
        obtain ⟨M2, eM2⟩ : ∃ M2, M1 ++ ([⟨2, 0, [W.2.2, P.getD A.toNat 0]⟩] : List Nd) = M2 := ⟨_, rfl⟩
        rw [eM2] at hM2 hlM2 ⊢
        obtain ⟨zM2, ezM2⟩ : ∃ zM2, w.2 = zM2 := ⟨_, rfl⟩
        rw [ezM2] at hM2 ⊢
        refine Nrm.next ?_
        refine Tri.seq (Tri.region ?_)
        refine TOps.loadN rfl ti24 bld_rd rfl rfl ?_
        refine TOps.move rfl rfl ?_
        refine TOps.move rfl rfl ?_
        refine TOps.buildSlice (vs := [_, _]) (xs := [_, _]) Try.underlying52 ti3 ⟨rfl, rfl, rfl, rfl, trivial⟩ rfl rfl rfl rfl rfl rfl (by decide) rfl (fun b142 => ?_)
        refine TOps.call (vs := [_, _, _, _]) Try.call38 ⟨rfl, rfl, rfl, rfl, trivial⟩ (radd1_g (args := [v + (W.1.length : Nat), v + (W.1.length + 1 : Nat)]) (L := W.1.length + 2) hM2 hlM2 ⟨by omega, by omega⟩ (by omega) rfl (by simp) (fun _ => ⟨_, rfl⟩) 3 0) rfl ?_
        rintro _ _ ⟨zM3, rfl, hM3, rfl⟩
        refine TOps.move rfl rfl ?_
        refine TOps.extract rfl rfl rfl ?_
        refine TOps.extract rfl rfl rfl ?_
        refine TOps.storeBld rfl rfl ti24 (by simp) rfl ?_
        refine TOps.assign rfl rfl ?_
        have hlM3 : (M2 ++ ([⟨3, 0, [v + (W.1.length : Nat), v + (W.1.length + 1 : Nat)]⟩] : List Nd)).length = W.1.length + 2 + 1 := by rw [List.length_append, List.length_singleton] <;> omega
        obtain ⟨M3, eM3⟩ : ∃ M3, M2 ++ ([⟨3, 0, [v + (W.1.length : Nat), v + (W.1.length + 1 : Nat)]⟩] : List Nd) = M3 := ⟨_, rfl⟩
        rw [eM3] at hM3 hlM3 ⊢
        refine TOps.next ?_
        refine Tri.seq ?_
        have hlc : ∀ (x : Nat × BS) (c : Nat), Le (match c with | 0 => bld 24 54 b4 v M3 0 zM3 HB2 | 1 => row (some x.1) 3 1 2 [.int .i64 W.2.1, .int .i64 (P.getD A.toNat 0)] :: bld 24 54 b4 v M3 0 zM3 HB2 | 2 => fact (x.2.ok (M3 ++ [⟨2, 0, [W.2.1, (P.getD A.toNat 0)]⟩])) :: bldH 24 54 b4 [.int .i64 v, slV zM3.oa 0 M3.length zM3.cap, .int .i64 0] (M3 ++ [⟨2, 0, [W.2.1, (P.getD A.toNat 0)]⟩]) x.2 HB2 | _ + 3 => fact (x.2.ok (M3 ++ [⟨2, 0, [W.2.1, (P.getD A.toNat 0)]⟩])) :: bld 24 54 b4 v (M3 ++ [⟨2, 0, [W.2.1, (P.getD A.toNat 0)]⟩]) 0 x.2 HB2) HB2 := by
          intro x c
          match c with
          | 0 => exact bld_le
          | 1 => exact Le.drop bld_le
          | 2 => exact Le.drop bldH_le
          | _ + 3 => exact Le.drop bld_le
        refine Tri.drawX (X := Nat × BS) rfl [(1, .pointer (some ⟨b1, 0, none⟩)), (2, .pointer (some ⟨b2, 0, none⟩)), (4, .pointer (some ⟨b4, 0, none⟩)), (5, slV (some yy.1) 0 (v + F.nodes.length) (v + F.nodes.length)), (6, slV (some yy.2) 0 (v + F.nodes.length) (v + F.nodes.length)), (61, slV (some nb) off F.nodes.length cap none), (62, .int .i64 F.nodes.length), (63, .int .i64 k), (8, .int .i64 k), (9, .pointer (some ⟨b9, 0, none⟩)), (10, slV (some za) 0 d.args.length qac), (11, slV (some zb) 0 d.args.length qbc), (14, .int .i64 W.2.1), (15, .int .i64 W.2.2), (16, .int .i64 ((i + 1 : Nat) : Int)), (21, .int .i64 (v + (W.1.length + 2 : Nat)))] [] (fun x => [_, _, _, _, _, _, slV (some x.1) 0 2 2, .tuple (List.toArray [.agg (List.toArray [.int .i64 v, slV x.2.oa 0 (M3.length + 1) x.2.cap, .int .i64 0]), .int .i64 (v + ((W.1.length + 3) : Nat))]), .tuple (List.toArray [.agg (List.toArray [.int .i64 v, slV x.2.oa 0 (M3.length + 1) x.2.cap, .int .i64 0]), .int .i64 (v + ((W.1.length + 3) : Nat))]), .agg (List.toArray [.int .i64 v, slV x.2.oa 0 (M3.length + 1) x.2.cap, .int .i64 0]), .int .i64 (v + ((W.1.length + 3) : Nat)), undef, .int .i64 (v + ((W.1.length + 3) : Nat))]) (fun x c => match c with | 0 => bld 24 54 b4 v M3 0 zM3 HB2 | 1 => row (some x.1) 3 1 2 [.int .i64 W.2.1, .int .i64 (P.getD A.toNat 0)] :: bld 24 54 b4 v M3 0 zM3 HB2 | 2 => fact (x.2.ok (M3 ++ [⟨2, 0, [W.2.1, (P.getD A.toNat 0)]⟩])) :: bldH 24 54 b4 [.int .i64 v, slV zM3.oa 0 M3.length zM3.cap, .int .i64 0] (M3 ++ [⟨2, 0, [W.2.1, (P.getD A.toNat 0)]⟩]) x.2 HB2 | _ + 3 => fact (x.2.ok (M3 ++ [⟨2, 0, [W.2.1, (P.getD A.toNat 0)]⟩])) :: bld 24 54 b4 v (M3 ++ [⟨2, 0, [W.2.1, (P.getD A.toNat 0)]⟩]) 0 x.2 HB2) [6, 7, 11] (0, BS.new) [12] rfl rfl ⟨rfl, rfl, rfl, rfl, rfl, rfl, rfl, rfl, rfl, rfl, rfl, rfl, rfl, rfl, rfl, rfl, trivial⟩ trivial (by repeat (first | exact Le.refl _ | assumption | apply Le.drop)) (by
          refine ⟨?_, ?_, ?_, ?_, ?_, ?_, ?_, ?_, ?_, ?_, ?_, ?_, ?_, trivial⟩
          · refine ⟨fun x S c he hw hd hc hcu hm _ => ?_, trivial⟩
            rcases (show c = 0 ∨ c = 1 by have : c ≤ 1 := hcu; omega) with rfl | rfl <;> refine TOps.loadN (vs := [.int .i64 v, slV zM3.oa 0 M3.length zM3.cap, .int .i64 0]) (he _ _ rfl) ti24 (by first | exact bld_rd | exact Rd.up bld_rd) rfl rfl ?_
            all_goals exact TOps.fin (Nrm.draw x (fun _ _ _ => rfl) rfl (Le.refl _))
          · refine ⟨fun x S c he hw hd hc hcu hm _ => ?_, trivial⟩
            refine TOps.move (he _ _ rfl) rfl ?_
            exact TOps.fin (Nrm.draw x (fun _ _ _ => rfl) rfl (by first | exact Le.refl _ | assumption | exact (by repeat (first | exact Le.refl _ | assumption | apply Le.drop))))
          · refine ⟨fun x S c he hw hd hc hcu hm _ => ?_, trivial⟩
            refine TOps.move (he _ _ rfl) rfl ?_
            exact TOps.fin (Nrm.draw x (fun _ _ _ => rfl) rfl (by first | exact Le.refl _ | assumption | exact (by repeat (first | exact Le.refl _ | assumption | apply Le.drop))))
          · refine ⟨fun x S c he hw hd hc hcu hm _ => ?_, trivial⟩
            refine TOps.move (he _ _ rfl) rfl ?_
            exact TOps.fin (Nrm.draw x (fun _ _ _ => rfl) rfl (by first | exact Le.refl _ | assumption | exact (by repeat (first | exact Le.refl _ | assumption | apply Le.drop))))
          · refine ⟨fun x S c he hw hd hc hcu hm _ => ?_, trivial⟩
            obtain ⟨h2, h3, -⟩ := hd
            refine TOps.indexAddr (off' := 0 + (i + 1)) h2 h3 Try.underlying52 ti3 (by omega) (by omega) (by simp) rfl ?_
            exact TOps.fin (Nrm.draw x (fun _ _ _ => rfl) rfl (by first | exact Le.refl _ | assumption | exact (by repeat (first | exact Le.refl _ | assumption | apply Le.drop))))
          · refine ⟨fun x S c he hw hd hc hcu hm _ => ?_, trivial⟩
            obtain ⟨h4, -⟩ := hd
            refine TOps.load1 h4 ti3 (Rd.le hpk (hlc x c)) rfl ?_
            exact TOps.fin (Nrm.draw x (fun _ _ _ => rfl) rfl (by first | exact Le.refl _ | assumption | exact (by repeat (first | exact Le.refl _ | assumption | apply Le.drop))))
          · refine ⟨fun x S c he hw hd hc hcu hm _ => ?_, trivial⟩
            obtain ⟨h1, h5, -⟩ := hd
            obtain rfl : c = 0 := hm rfl
            refine TOps.buildSlice (vs := [_, _]) (xs := [_, _]) Try.underlying52 ti3 ⟨rfl, h1, rfl, h5, trivial⟩ rfl rfl rfl rfl rfl rfl (by decide) rfl (fun b153 => ?_)
            refine TOps.fin (Nrm.draw (b153, x.2) ?_ rfl (Le.refl _))
            intro j hj hcj; rcases j with _|_|_|_|_|_|_|_|_|_|_|_|_|j <;> first | rfl | exact absurd rfl hj | exact absurd hcj (by decide)
          · refine ⟨fun x S c he hw hd hc hcu hm _ => ?_, trivial⟩
            obtain ⟨h0, h6, -⟩ := hd
            obtain rfl : c = 1 := hm rfl
            refine TOps.call (vs := [_, _, _, _]) Try.call38 ⟨h0, rfl, rfl, h6, trivial⟩ (radd1_g (args := [W.2.1, P.getD A.toNat 0]) (L := (W.1.length + 3)) hM3 hlM3 ⟨by omega, by omega⟩ (by omega) rfl (by simp) (fun _ => ⟨_, rfl⟩) 2 0) rfl ?_
            rintro _ _ ⟨s', rfl, hs', rfl⟩
            refine TOps.fin (Nrm.draw (x.1, s') ?_ rfl (Le.addFact hs'))
            intro j hj hcj; rcases j with _|_|_|_|_|_|_|_|_|_|_|_|_|j <;> first | rfl | exact absurd rfl hj | exact absurd hcj (by decide)
          · refine ⟨fun x S c he hw hd hc hcu hm _ => ?_, trivial⟩
            obtain ⟨h7, -⟩ := hd
            refine TOps.move h7 rfl ?_
            exact TOps.fin (Nrm.draw x (fun _ _ _ => rfl) rfl (by first | exact Le.refl _ | assumption | exact (by repeat (first | exact Le.refl _ | assumption | apply Le.drop))))
          · refine ⟨fun x S c he hw hd hc hcu hm _ => ?_, trivial⟩
            obtain ⟨h8, -⟩ := hd
            refine TOps.extract h8 rfl rfl ?_
            exact TOps.fin (Nrm.draw x (fun _ _ _ => rfl) rfl (by first | exact Le.refl _ | assumption | exact (by repeat (first | exact Le.refl _ | assumption | apply Le.drop))))
          · refine ⟨fun x S c he hw hd hc hcu hm _ => ?_, trivial⟩
            obtain ⟨h8, -⟩ := hd
            refine TOps.extract h8 rfl rfl ?_
            exact TOps.fin (Nrm.draw x (fun _ _ _ => rfl) rfl (by first | exact Le.refl _ | assumption | exact (by repeat (first | exact Le.refl _ | assumption | apply Le.drop))))
          · refine ⟨fun x S c he hw hd hc hcu hm _ => ?_, trivial⟩
            obtain ⟨h9, h7, h0, h1, h2, h3, h4, h5, h6, _, h8, _, -⟩ := hd
            obtain rfl : c = 2 := hm rfl
            refine TOps.fact (List.Mem.head _) (fun hs' => ?_)
            refine TOps.le (Le.drop (Le.refl _)) ?_
            refine TOps.storeBld (he _ _ rfl) h9 ti24 (by simp) rfl ?_
            refine TOps.fin (Nrm.draw x (fun _ _ _ => rfl) rfl (Le.addFact hs'))
          · refine ⟨fun x S c he hw hd hc hcu hm _ => ?_, trivial⟩
            obtain ⟨h10, h11, h0, h1, h2, h3, h4, h5, h6, h7, h8, h9, _, _, -⟩ := hd
            refine TOps.assign h10 rfl ?_
            exact TOps.fin (Nrm.draw x (fun _ _ _ => rfl) rfl (by first | exact Le.refl _ | assumption | exact (by repeat (first | exact Le.refl _ | assumption | apply Le.drop))))
          ) (fun w => ?_)
        refine Nrm.fact (List.Mem.head _) (fun hM4 => ?_)
        refine Nrm.le (Le.drop (Le.refl _)) ?_
        clear hlc
        have hlM4 : (M3 ++ ([⟨2, 0, [W.2.1, P.getD A.toNat 0]⟩] : List Nd)).length = (W.1.length + 3) + 1 := by rw [List.length_append, List.length_singleton] <;> omega
        obtain ⟨M4, eM4⟩ : ∃ M4, M3 ++ ([⟨2, 0, [W.2.1, P.getD A.toNat 0]⟩] : List Nd) = M4 := ⟨_, rfl⟩
        rw [eM4] at hM4 hlM4 ⊢
        obtain ⟨zM4, ezM4⟩ : ∃ zM4, w.2 = zM4 := ⟨_, rfl⟩
        rw [ezM4] at hM4 ⊢
        refine Nrm.next ?_
        refine Tri.seq ?_
        have hlc : ∀ (x : Nat × BS) (c : Nat), Le (match c with | 0 => bld 24 54 b4 v M4 0 zM4 HB2 | 1 => row (some x.1) 3 1 2 [.int .i64 W.2.2, .int .i64 (N.getD A.toNat 0)] :: bld 24 54 b4 v M4 0 zM4 HB2 | 2 => fact (x.2.ok (M4 ++ [⟨2, 0, [W.2.2, (N.getD A.toNat 0)]⟩])) :: bldH 24 54 b4 [.int .i64 v, slV zM4.oa 0 M4.length zM4.cap, .int .i64 0] (M4 ++ [⟨2, 0, [W.2.2, (N.getD A.toNat 0)]⟩]) x.2 HB2 | _ + 3 => fact (x.2.ok (M4 ++ [⟨2, 0, [W.2.2, (N.getD A.toNat 0)]⟩])) :: bld 24 54 b4 v (M4 ++ [⟨2, 0, [W.2.2, (N.getD A.toNat 0)]⟩]) 0 x.2 HB2) HB2 := by
          intro x c
          match c with
          | 0 => exact bld_le
          | 1 => exact Le.drop bld_le
          | 2 => exact Le.drop bldH_le
          | _ + 3 => exact Le.drop bld_le
        refine Tri.drawX (X := Nat × BS) rfl [(1, .pointer (some ⟨b1, 0, none⟩)), (2, .pointer (some ⟨b2, 0, none⟩)), (4, .pointer (some ⟨b4, 0, none⟩)), (5, slV (some yy.1) 0 (v + F.nodes.length) (v + F.nodes.length)), (6, slV (some yy.2) 0 (v + F.nodes.length) (v + F.nodes.length)), (61, slV (some nb) off F.nodes.length cap none), (62, .int .i64 F.nodes.length), (63, .int .i64 k), (8, .int .i64 k), (9, .pointer (some ⟨b9, 0, none⟩)), (10, slV (some za) 0 d.args.length qac), (11, slV (some zb) 0 d.args.length qbc), (14, .int .i64 W.2.1), (15, .int .i64 W.2.2), (16, .int .i64 ((i + 1 : Nat) : Int)), (21, .int .i64 (v + (W.1.length + 2 : Nat))), (19, .int .i64 (v + (W.1.length + 3 : Nat)))] [] (fun x => [_, _, _, _, _, _, slV (some x.1) 0 2 2, .tuple (List.toArray [.agg (List.toArray [.int .i64 v, slV x.2.oa 0 (M4.length + 1) x.2.cap, .int .i64 0]), .int .i64 (v + ((W.1.length + 4) : Nat))]), .tuple (List.toArray [.agg (List.toArray [.int .i64 v, slV x.2.oa 0 (M4.length + 1) x.2.cap, .int .i64 0]), .int .i64 (v + ((W.1.length + 4) : Nat))]), .agg (List.toArray [.int .i64 v, slV x.2.oa 0 (M4.length + 1) x.2.cap, .int .i64 0]), .int .i64 (v + ((W.1.length + 4) : Nat)), undef, .int .i64 (v + ((W.1.length + 4) : Nat))]) (fun x c => match c with | 0 => bld 24 54 b4 v M4 0 zM4 HB2 | 1 => row (some x.1) 3 1 2 [.int .i64 W.2.2, .int .i64 (N.getD A.toNat 0)] :: bld 24 54 b4 v M4 0 zM4 HB2 | 2 => fact (x.2.ok (M4 ++ [⟨2, 0, [W.2.2, (N.getD A.toNat 0)]⟩])) :: bldH 24 54 b4 [.int .i64 v, slV zM4.oa 0 M4.length zM4.cap, .int .i64 0] (M4 ++ [⟨2, 0, [W.2.2, (N.getD A.toNat 0)]⟩]) x.2 HB2 | _ + 3 => fact (x.2.ok (M4 ++ [⟨2, 0, [W.2.2, (N.getD A.toNat 0)]⟩])) :: bld 24 54 b4 v (M4 ++ [⟨2, 0, [W.2.2, (N.getD A.toNat 0)]⟩]) 0 x.2 HB2) [6, 7, 11] (0, BS.new) [12] rfl rfl ⟨rfl, rfl, rfl, rfl, rfl, rfl, rfl, rfl, rfl, rfl, rfl, rfl, rfl, rfl, rfl, rfl, rfl, trivial⟩ trivial (by repeat (first | exact Le.refl _ | assumption | apply Le.drop)) (by
          refine ⟨?_, ?_, ?_, ?_, ?_, ?_, ?_, ?_, ?_, ?_, ?_, ?_, ?_, trivial⟩
          · refine ⟨fun x S c he hw hd hc hcu hm _ => ?_, trivial⟩
            rcases (show c = 0 ∨ c = 1 by have : c ≤ 1 := hcu; omega) with rfl | rfl <;> refine TOps.loadN (vs := [.int .i64 v, slV zM4.oa 0 M4.length zM4.cap, .int .i64 0]) (he _ _ rfl) ti24 (by first | exact bld_rd | exact Rd.up bld_rd) rfl rfl ?_
            all_goals exact TOps.fin (Nrm.draw x (fun _ _ _ => rfl) rfl (Le.refl _))
          · refine ⟨fun x S c he hw hd hc hcu hm _ => ?_, trivial⟩
            refine TOps.move (he _ _ rfl) rfl ?_
            exact TOps.fin (Nrm.draw x (fun _ _ _ => rfl) rfl (by first | exact Le.refl _ | assumption | exact (by repeat (first | exact Le.refl _ | assumption | apply Le.drop))))
          · refine ⟨fun x S c he hw hd hc hcu hm _ => ?_, trivial⟩
            refine TOps.move (he _ _ rfl) rfl ?_
            exact TOps.fin (Nrm.draw x (fun _ _ _ => rfl) rfl (by first | exact Le.refl _ | assumption | exact (by repeat (first | exact Le.refl _ | assumption | apply Le.drop))))
          · refine ⟨fun x S c he hw hd hc hcu hm _ => ?_, trivial⟩
            refine TOps.move (he _ _ rfl) rfl ?_
            exact TOps.fin (Nrm.draw x (fun _ _ _ => rfl) rfl (by first | exact Le.refl _ | assumption | exact (by repeat (first | exact Le.refl _ | assumption | apply Le.drop))))
          · refine ⟨fun x S c he hw hd hc hcu hm _ => ?_, trivial⟩
            obtain ⟨h2, h3, -⟩ := hd
            refine TOps.indexAddr (off' := 0 + (i + 1)) h2 h3 Try.underlying52 ti3 (by omega) (by omega) (by simp) rfl ?_
            exact TOps.fin (Nrm.draw x (fun _ _ _ => rfl) rfl (by first | exact Le.refl _ | assumption | exact (by repeat (first | exact Le.refl _ | assumption | apply Le.drop))))
          · refine ⟨fun x S c he hw hd hc hcu hm _ => ?_, trivial⟩
            obtain ⟨h4, -⟩ := hd
            refine TOps.load1 h4 ti3 (Rd.le hnk (hlc x c)) rfl ?_
            exact TOps.fin (Nrm.draw x (fun _ _ _ => rfl) rfl (by first | exact Le.refl _ | assumption | exact (by repeat (first | exact Le.refl _ | assumption | apply Le.drop))))
          · refine ⟨fun x S c he hw hd hc hcu hm _ => ?_, trivial⟩
            obtain ⟨h1, h5, -⟩ := hd
            obtain rfl : c = 0 := hm rfl
            refine TOps.buildSlice (vs := [_, _]) (xs := [_, _]) Try.underlying52 ti3 ⟨rfl, h1, rfl, h5, trivial⟩ rfl rfl rfl rfl rfl rfl (by decide) rfl (fun b164 => ?_)
            refine TOps.fin (Nrm.draw (b164, x.2) ?_ rfl (Le.refl _))
            intro j hj hcj; rcases j with _|_|_|_|_|_|_|_|_|_|_|_|_|j <;> first | rfl | exact absurd rfl hj | exact absurd hcj (by decide)
          · refine ⟨fun x S c he hw hd hc hcu hm _ => ?_, trivial⟩
            obtain ⟨h0, h6, -⟩ := hd
            obtain rfl : c = 1 := hm rfl
            refine TOps.call (vs := [_, _, _, _]) Try.call38 ⟨h0, rfl, rfl, h6, trivial⟩ (radd1_g (args := [W.2.2, N.getD A.toNat 0]) (L := (W.1.length + 4)) hM4 hlM4 ⟨by omega, by omega⟩ (by omega) rfl (by simp) (fun _ => ⟨_, rfl⟩) 2 0) rfl ?_
            rintro _ _ ⟨s', rfl, hs', rfl⟩
            refine TOps.fin (Nrm.draw (x.1, s') ?_ rfl (Le.addFact hs'))
            intro j hj hcj; rcases j with _|_|_|_|_|_|_|_|_|_|_|_|_|j <;> first | rfl | exact absurd rfl hj | exact absurd hcj (by decide)
          · refine ⟨fun x S c he hw hd hc hcu hm _ => ?_, trivial⟩
            obtain ⟨h7, -⟩ := hd
            refine TOps.move h7 rfl ?_
            exact TOps.fin (Nrm.draw x (fun _ _ _ => rfl) rfl (by first | exact Le.refl _ | assumption | exact (by repeat (first | exact Le.refl _ | assumption | apply Le.drop))))
          · refine ⟨fun x S c he hw hd hc hcu hm _ => ?_, trivial⟩
            obtain ⟨h8, -⟩ := hd
            refine TOps.extract h8 rfl rfl ?_
            exact TOps.fin (Nrm.draw x (fun _ _ _ => rfl) rfl (by first | exact Le.refl _ | assumption | exact (by repeat (first | exact Le.refl _ | assumption | apply Le.drop))))
          · refine ⟨fun x S c he hw hd hc hcu hm _ => ?_, trivial⟩
            obtain ⟨h8, -⟩ := hd
            refine TOps.extract h8 rfl rfl ?_
            exact TOps.fin (Nrm.draw x (fun _ _ _ => rfl) rfl (by first | exact Le.refl _ | assumption | exact (by repeat (first | exact Le.refl _ | assumption | apply Le.drop))))
          · refine ⟨fun x S c he hw hd hc hcu hm _ => ?_, trivial⟩
            obtain ⟨h9, h7, h0, h1, h2, h3, h4, h5, h6, _, h8, _, -⟩ := hd
            obtain rfl : c = 2 := hm rfl
            refine TOps.fact (List.Mem.head _) (fun hs' => ?_)
            refine TOps.le (Le.drop (Le.refl _)) ?_
            refine TOps.storeBld (he _ _ rfl) h9 ti24 (by simp) rfl ?_
            refine TOps.fin (Nrm.draw x (fun _ _ _ => rfl) rfl (Le.addFact hs'))
          · refine ⟨fun x S c he hw hd hc hcu hm _ => ?_, trivial⟩
            obtain ⟨h10, h11, h0, h1, h2, h3, h4, h5, h6, h7, h8, h9, _, _, -⟩ := hd
            refine TOps.assign h10 rfl ?_
            exact TOps.fin (Nrm.draw x (fun _ _ _ => rfl) rfl (by first | exact Le.refl _ | assumption | exact (by repeat (first | exact Le.refl _ | assumption | apply Le.drop))))
          ) (fun w => ?_)
        refine Nrm.fact (List.Mem.head _) (fun hM5 => ?_)
        refine Nrm.le (Le.drop (Le.refl _)) ?_
        clear hlc
        have hlM5 : (M4 ++ ([⟨2, 0, [W.2.2, N.getD A.toNat 0]⟩] : List Nd)).length = (W.1.length + 4) + 1 := by rw [List.length_append, List.length_singleton] <;> omega
        obtain ⟨M5, eM5⟩ : ∃ M5, M4 ++ ([⟨2, 0, [W.2.2, N.getD A.toNat 0]⟩] : List Nd) = M5 := ⟨_, rfl⟩
        rw [eM5] at hM5 hlM5 ⊢
        obtain ⟨zM5, ezM5⟩ : ∃ zM5, w.2 = zM5 := ⟨_, rfl⟩
        rw [ezM5] at hM5 ⊢
        refine Nrm.next ?_
        refine Tri.seq (Tri.region ?_)
        refine TOps.loadN rfl ti24 bld_rd rfl rfl ?_
        refine TOps.move rfl rfl ?_
        refine TOps.move rfl rfl ?_
        refine TOps.buildSlice (vs := [_, _]) (xs := [_, _]) Try.underlying52 ti3 ⟨rfl, rfl, rfl, rfl, trivial⟩ rfl rfl rfl rfl rfl rfl (by decide) rfl (fun b172 => ?_)
        refine TOps.call (vs := [_, _, _, _]) Try.call38 ⟨rfl, rfl, rfl, rfl, trivial⟩ (radd1_g (args := [v + (W.1.length + 3 : Nat), v + (W.1.length + 4 : Nat)]) (L := W.1.length + 5) hM5 hlM5 ⟨by omega, by omega⟩ (by omega) rfl (by simp) (fun _ => ⟨_, rfl⟩) 3 0) rfl ?_
        rintro _ _ ⟨zM6, rfl, hM6, rfl⟩
        refine TOps.move rfl rfl ?_
        refine TOps.extract rfl rfl rfl ?_
        refine TOps.extract rfl rfl rfl ?_
        refine TOps.storeBld rfl rfl ti24 (by simp) rfl ?_
        refine TOps.assign rfl rfl ?_
        refine TOps.next ?_
        refine Tri.region ?_
        refine TOps.move rfl rfl ?_
        refine TOps.move rfl rfl ?_
        refine TOps.assign rfl rfl ?_
        refine TOps.assign rfl rfl ?_
        refine TOps.fin ?_
        refine Nrm.unB ?_
        refine Nrm.next ?_
        refine Tri.region ?_
        refine TOps.move rfl rfl ?_
        refine TOps.add (r := ((i + 1 + 1 : Nat) : Int)) rfl rfl (by rw [wrapI (by omega) (by omega)]; omega) rfl ?_
        refine TOps.assign rfl rfl ?_
        refine TOps.fin ?_
        refine Nrm.loop (i + 1, zM6) ⟨hix, by rw [hWn]; rw [← eM5, ← eM4, ← eM3, ← eM2, ← eM1] at hM6; exact hM6⟩ (by dsimp only; omega) (by dsimp only; rw [hWn]; exact ⟨rfl, rfl, rfl, rfl, rfl, rfl, rfl, rfl, rfl, rfl, rfl, rfl, rfl, rfl, rfl, trivial⟩) (by dsimp only; rw [hWn, ← eM5, ← eM4, ← eM3, ← eM2, ← eM1]; exact Le.refl _)
      try simp only [decide_eq_true_eq, decide_eq_false_iff_not, Bool.and_eq_true, Bool.or_eq_true, Bool.not_eq_true', Bool.and_eq_false_iff, Bool.or_eq_false_iff, Bool.not_eq_false', Int.not_lt, Int.not_le, ne_eq, Decidable.not_not, Option.isSome_iff_ne_none, Option.isNone_iff_eq_none] at hc6
      obtain rfl : i = xr.length := by omega
      rw [List.take_length] at hzi ⊢
      obtain ⟨s2, hs2e⟩ : ∃ s2, zi = s2 := ⟨_, rfl⟩
      rw [hs2e] at hzi ⊢
      have hs2 := hzi
      first | refine Tri.exitW ?_ | (refine Tri.exitTo ?_; repeat (with_reducible first | refine ExitTo.blk ?_ | refine ExitTo.blkNe rfl ?_ | refine ExitTo.body ?_ | refine ExitTo.brk rfl ?_ | refine ExitTo.bodyNe rfl rfl ?_ | refine ExitTo.seq ?_ | refine ExitTo.loop ?_))
      refine Nrm.unB ?_
      refine Nrm.mid s2 hs2 (by exact ⟨rfl, rfl, rfl, rfl, rfl, rfl, rfl, rfl, rfl, rfl, rfl, trivial⟩) (by rw [hHB2]; exact bld_mono (List.Sublist.cons _ (List.sublist_cons_self _ _)))
    subst hHB
    have hlc : ∀ (x : Unit) (c : Nat), Le (match c with | 0 => bld 24 54 b4 v RR.1 0 y (row (some b9) 54 3 1 [.int .i64 d.kind, .int .i64 d.k, slV aa ao d.args.length acap asp] :: row (some yy.1) 3 1 (v + F.nodes.length) (ints (tabI P (v + F.nodes.length))) :: row (some yy.2) 3 1 (v + F.nodes.length) (ints (tabI N (v + F.nodes.length))) :: row (some b2) 24 3 1 [.int .i64 0, slV none 0 0 0, .int .i64 0] :: H1) | 1 => bld 24 54 b4 v RR.1 0 y (row (some b9) 54 3 1 [.int .i64 d.kind, .int .i64 d.k, slV aa ao d.args.length acap asp] :: row (some yy.1) 3 1 (v + F.nodes.length) ((ints (tabI P (v + F.nodes.length))).set (v + k) (.int .i64 RR.2.1)) :: row (some yy.2) 3 1 (v + F.nodes.length) (ints (tabI N (v + F.nodes.length))) :: row (some b2) 24 3 1 [.int .i64 0, slV none 0 0 0, .int .i64 0] :: H1) | _ + 2 => bld 24 54 b4 v RR.1 0 y (row (some b9) 54 3 1 [.int .i64 d.kind, .int .i64 d.k, slV aa ao d.args.length acap asp] :: row (some yy.1) 3 1 (v + F.nodes.length) ((ints (tabI P (v + F.nodes.length))).set (v + k) (.int .i64 RR.2.1)) :: row (some yy.2) 3 1 (v + F.nodes.length) ((ints (tabI N (v + F.nodes.length))).set (v + k) (.int .i64 RR.2.2)) :: row (some b2) 24 3 1 [.int .i64 0, slV none 0 0 0, .int .i64 0] :: H1)) H1 := by
      intro x c
      match c with
      | 0 => exact Le.trans bld_le (Le.drop (Le.drop (Le.drop (Le.drop (Le.refl _)))))
      | 1 => exact Le.trans bld_le (Le.drop (Le.drop (Le.drop (Le.drop (Le.refl _)))))
      | _ + 2 => exact Le.trans bld_le (Le.drop (Le.drop (Le.drop (Le.drop (Le.refl _)))))
    refine Tri.drawX (X := Unit) rfl [(1, .pointer (some ⟨b1, 0, none⟩)), (2, .pointer (some ⟨b2, 0, none⟩)), (4, .pointer (some ⟨b4, 0, none⟩)), (5, slV (some yy.1) 0 (v + F.nodes.length) (v + F.nodes.length)), (6, slV (some yy.2) 0 (v + F.nodes.length) (v + F.nodes.length)), (61, slV (some nb) off F.nodes.length cap none), (62, .int .i64 F.nodes.length), (63, .int .i64 k), (8, .int .i64 k), (14, .int .i64 RR.2.1), (15, .int .i64 RR.2.2)] [] (fun x => [_, _, _, _, _, _, _, _, _, _, _, _, _, undef, _, undef]) (fun x c => match c with | 0 => bld 24 54 b4 v RR.1 0 y (row (some b9) 54 3 1 [.int .i64 d.kind, .int .i64 d.k, slV aa ao d.args.length acap asp] :: row (some yy.1) 3 1 (v + F.nodes.length) (ints (tabI P (v + F.nodes.length))) :: row (some yy.2) 3 1 (v + F.nodes.length) (ints (tabI N (v + F.nodes.length))) :: row (some b2) 24 3 1 [.int .i64 0, slV none 0 0 0, .int .i64 0] :: H1) | 1 => bld 24 54 b4 v RR.1 0 y (row (some b9) 54 3 1 [.int .i64 d.kind, .int .i64 d.k, slV aa ao d.args.length acap asp] :: row (some yy.1) 3 1 (v + F.nodes.length) ((ints (tabI P (v + F.nodes.length))).set (v + k) (.int .i64 RR.2.1)) :: row (some yy.2) 3 1 (v + F.nodes.length) (ints (tabI N (v + F.nodes.length))) :: row (some b2) 24 3 1 [.int .i64 0, slV none 0 0 0, .int .i64 0] :: H1) | _ + 2 => bld 24 54 b4 v RR.1 0 y (row (some b9) 54 3 1 [.int .i64 d.kind, .int .i64 d.k, slV aa ao d.args.length acap asp] :: row (some yy.1) 3 1 (v + F.nodes.length) ((ints (tabI P (v + F.nodes.length))).set (v + k) (.int .i64 RR.2.1)) :: row (some yy.2) 3 1 (v + F.nodes.length) ((ints (tabI N (v + F.nodes.length))).set (v + k) (.int .i64 RR.2.2)) :: row (some b2) 24 3 1 [.int .i64 0, slV none 0 0 0, .int .i64 0] :: H1)) [13, 15] () [] rfl rfl ⟨rfl, rfl, rfl, rfl, rfl, rfl, rfl, rfl, rfl, rfl, rfl, trivial⟩ trivial (by repeat (first | exact Le.refl _ | assumption | apply Le.drop)) (by
      refine ⟨?_, ?_, ?_, ?_, ?_, ?_, ?_, ?_, ?_, ?_, ?_, ?_, ?_, ?_, ?_, ?_, trivial⟩
      · refine ⟨fun x S c he hw hd hc hcu hm _ => ?_, trivial⟩
        refine TOps.move (he _ _ rfl) rfl ?_
        exact TOps.fin (Nrm.draw x (fun _ _ _ => rfl) rfl (by first | exact Le.refl _ | assumption | exact (by repeat (first | exact Le.refl _ | assumption | apply Le.drop))))
      · refine ⟨fun x S c he hw hd hc hcu hm _ => ?_, trivial⟩
        refine TOps.field0 (he _ _ rfl) Try.underlying24 rfl rfl ti3 rfl rfl rfl ?_
        exact TOps.fin (Nrm.draw x (fun _ _ _ => rfl) rfl (by first | exact Le.refl _ | assumption | exact (by repeat (first | exact Le.refl _ | assumption | apply Le.drop))))
      · refine ⟨fun x S c he hw hd hc hcu hm _ => ?_, trivial⟩
        obtain ⟨h1, -⟩ := hd
        refine TOps.load1 h1 ti3 (Rd.fld (r1.le (hlc x c)) 0 rfl) rfl ?_
        exact TOps.fin (Nrm.draw x (fun _ _ _ => rfl) rfl (by first | exact Le.refl _ | assumption | exact (by repeat (first | exact Le.refl _ | assumption | apply Le.drop))))
      · refine ⟨fun x S c he hw hd hc hcu hm _ => ?_, trivial⟩
        refine TOps.move (he _ _ rfl) rfl ?_
        exact TOps.fin (Nrm.draw x (fun _ _ _ => rfl) rfl (by first | exact Le.refl _ | assumption | exact (by repeat (first | exact Le.refl _ | assumption | apply Le.drop))))
      · refine ⟨fun x S c he hw hd hc hcu hm _ => ?_, trivial⟩
        obtain ⟨h2, h3, -⟩ := hd
        refine TOps.add (r := ((v + k : Nat) : Int)) h2 h3 (by rw [wrapI (by omega) (by omega)]; omega) rfl ?_
        exact TOps.fin (Nrm.draw x (fun _ _ _ => rfl) rfl (by first | exact Le.refl _ | assumption | exact (by repeat (first | exact Le.refl _ | assumption | apply Le.drop))))
      · refine ⟨fun x S c he hw hd hc hcu hm _ => ?_, trivial⟩
        refine TOps.move (he _ _ rfl) rfl ?_
        exact TOps.fin (Nrm.draw x (fun _ _ _ => rfl) rfl (by first | exact Le.refl _ | assumption | exact (by repeat (first | exact Le.refl _ | assumption | apply Le.drop))))
      · refine ⟨fun x S c he hw hd hc hcu hm _ => ?_, trivial⟩
        refine TOps.field0 (he _ _ rfl) Try.underlying24 rfl rfl ti3 rfl rfl rfl ?_
        exact TOps.fin (Nrm.draw x (fun _ _ _ => rfl) rfl (by first | exact Le.refl _ | assumption | exact (by repeat (first | exact Le.refl _ | assumption | apply Le.drop))))
      · refine ⟨fun x S c he hw hd hc hcu hm _ => ?_, trivial⟩
        obtain ⟨h6, -⟩ := hd
        refine TOps.load1 h6 ti3 (Rd.fld (r1.le (hlc x c)) 0 rfl) rfl ?_
        exact TOps.fin (Nrm.draw x (fun _ _ _ => rfl) rfl (by first | exact Le.refl _ | assumption | exact (by repeat (first | exact Le.refl _ | assumption | apply Le.drop))))
      · refine ⟨fun x S c he hw hd hc hcu hm _ => ?_, trivial⟩
        refine TOps.move (he _ _ rfl) rfl ?_
        exact TOps.fin (Nrm.draw x (fun _ _ _ => rfl) rfl (by first | exact Le.refl _ | assumption | exact (by repeat (first | exact Le.refl _ | assumption | apply Le.drop))))
      · refine ⟨fun x S c he hw hd hc hcu hm _ => ?_, trivial⟩
        obtain ⟨h7, h8, -⟩ := hd
        refine TOps.add (r := ((v + k : Nat) : Int)) h7 h8 (by rw [wrapI (by omega) (by omega)]; omega) rfl ?_
        exact TOps.fin (Nrm.draw x (fun _ _ _ => rfl) rfl (by first | exact Le.refl _ | assumption | exact (by repeat (first | exact Le.refl _ | assumption | apply Le.drop))))
      · refine ⟨fun x S c he hw hd hc hcu hm _ => ?_, trivial⟩
        refine TOps.move (he _ _ rfl) rfl ?_
        exact TOps.fin (Nrm.draw x (fun _ _ _ => rfl) rfl (by first | exact Le.refl _ | assumption | exact (by repeat (first | exact Le.refl _ | assumption | apply Le.drop))))
      · refine ⟨fun x S c he hw hd hc hcu hm _ => ?_, trivial⟩
        refine TOps.move (he _ _ rfl) rfl ?_
        exact TOps.fin (Nrm.draw x (fun _ _ _ => rfl) rfl (by first | exact Le.refl _ | assumption | exact (by repeat (first | exact Le.refl _ | assumption | apply Le.drop))))
      · refine ⟨fun x S c he hw hd hc hcu hm _ => ?_, trivial⟩
        obtain ⟨h0, h4, _, h1, h2, h3, _, h10, -⟩ := hd
        refine TOps.indexAddr (off' := v + k) h0 h4 Try.underlying52 ti3 (by omega) (by omega) (by omega) rfl ?_
        exact TOps.fin (Nrm.draw x (fun _ _ _ => rfl) rfl (by first | exact Le.refl _ | assumption | exact (by repeat (first | exact Le.refl _ | assumption | apply Le.drop))))
      · refine ⟨fun x S c he hw hd hc hcu hm _ => ?_, trivial⟩
        obtain ⟨h12, h10, h0, h1, h2, h3, h4, _, -⟩ := hd
        obtain rfl : c = 0 := hm rfl
        refine TOps.store1 h12 h10 ti3 rfl rfl (Upd.bld (Upd.there Upd.here)) (by rw [List.length_map, htP]; omega) ?_
        exact TOps.fin (Nrm.draw x (fun _ _ _ => rfl) rfl (by first | exact Le.refl _ | assumption | exact (by repeat (first | exact Le.refl _ | assumption | apply Le.drop))))
      · refine ⟨fun x S c he hw hd hc hcu hm _ => ?_, trivial⟩
        obtain ⟨h5, h9, h0, h1, h2, h3, h4, _, h6, h7, h8, _, h10, h11, h12, h13, -⟩ := hd
        refine TOps.indexAddr (off' := v + k) h5 h9 Try.underlying52 ti3 (by omega) (by omega) (by omega) rfl ?_
        exact TOps.fin (Nrm.draw x (fun _ _ _ => rfl) rfl (by first | exact Le.refl _ | assumption | exact (by repeat (first | exact Le.refl _ | assumption | apply Le.drop))))
      · refine ⟨fun x S c he hw hd hc hcu hm _ => ?_, trivial⟩
        obtain ⟨h14, h11, h13, h0, h1, h2, h3, h4, h5, h6, h7, h8, h9, h10, _, h12, _, -⟩ := hd
        obtain rfl : c = 1 := hm rfl
        refine TOps.store1 h14 h11 ti3 rfl rfl (Upd.bld (Upd.there (Upd.there Upd.here))) (by rw [List.length_map, htN]; omega) ?_
        exact TOps.fin (Nrm.draw x (fun _ _ _ => rfl) rfl (by first | exact Le.refl _ | assumption | exact (by repeat (first | exact Le.refl _ | assumption | apply Le.drop))))
      ) (fun u0 => ?_)
    refine Nrm.body y (by rw [hst]; exact hmid) ⟨rfl, rfl, rfl, rfl, rfl, rfl, rfl, rfl, trivial⟩ (by
      have e1 := tabI_set (P := P) (m := v + F.nodes.length) (x := RR.2.1) (by omega)
      have e2 := tabI_set (P := N) (m := v + F.nodes.length) (x := RR.2.2) (by omega)
      rw [hPl] at e1
      rw [hNl] at e2
      rw [hst]
      dsimp only
      rw [← e1, ← e2, ints_set, ints_set]
      exact bld_mono (List.sublist_cons_self _ _))
  obtain ⟨hPl, hNl, hSl⟩ := pushS_len (v := v) hal16 F.nodes.length (Nat.le_refl _)
  refine Nrm.of hS hM ?_
  refine Nrm.next ?_
  refine Tri.seq (Tri.region ?_)
  refine TOps.move rfl rfl ?_
  first | refine TOps.fieldB 2 rfl Try.underlying24 rfl rfl ti3 rfl rfl rfl ?_ | refine TOps.fieldN 2 rfl Try.underlying24 rfl rfl ti3 rfl rfl rfl ?_
  refine TOps.load1 rfl ti3 (Rd.fld (r1.le (Le.trans bld_le (Le.drop (Le.drop (Le.drop (Le.refl _)))))) 2 rfl) rfl ?_
  refine TOps.indexAddr (off' := tp) rfl rfl Try.underlying52 ti3 (by omega) (by omega) (by simp) rfl ?_
  refine TOps.load1 (v := .int .i64 ((pushS v F.nodes F.nodes.length).1.getD tp 0)) rfl ti3 (Rd.le (Rd.lit (List.Mem.head _) (by rw [← tabI_getD (m := v + F.nodes.length) (by omega)]; exact ints_get (by rw [tabI_length (by omega)]; omega))) bld_le) rfl ?_
  first | refine TOps.fieldB 2 rfl Try.underlying24 rfl rfl ti3 rfl rfl rfl ?_ | refine TOps.fieldN 2 rfl Try.underlying24 rfl rfl ti3 rfl rfl rfl ?_
  refine TOps.store1 rfl rfl ti3 rfl rfl Upd.here (by simp) ?_
  refine TOps.le (H' := bld 24 54 b4 v (pushS v F.nodes F.nodes.length).2.2 ((pushS v F.nodes F.nodes.length).1.getD tp 0) u (row (some yy.1) 3 1 (v + F.nodes.length) (ints (tabI (pushS v F.nodes F.nodes.length).1 (v + F.nodes.length))) :: row (some yy.2) 3 1 (v + F.nodes.length) (ints (tabI (pushS v F.nodes F.nodes.length).2.1 (v + F.nodes.length))) :: row (some b2) 24 3 1 [.int .i64 0, slV none 0 0 0, .int .i64 0] :: H1)) (Le.refl _) ?_
  refine TOps.next ?_
  refine Tri.seq (Tri.region ?_)
  refine TOps.loadN rfl ti24 bld_rd rfl rfl ?_
  refine TOps.call (vs := [_]) Try.call40 ⟨rfl, trivial⟩ (rtrimN_g (bld_rf hp) (by dsimp only; omega) hfit) rfl ?_
  rintro _ _ ⟨a1, c1, NN, rfl, hNN, rfl⟩
  refine TOps.call (vs := [_]) Try.call39 ⟨rfl, trivial⟩ (rsized_g hNN (Nat.le_trans (trS_le _) (by dsimp only; omega))) rfl ?_
  rintro _ _ ⟨a2, c2, rfl, hN2, rfl⟩
  refine TOps.extract rfl rfl rfl ?_
  refine TOps.extract rfl rfl rfl ?_
  refine TOps.storeN rfl rfl ti24 rfl rfl (Upd.app (Upd.bld (Upd.there (Upd.there Upd.here))) NN) (by simp) ?_
  refine TOps.assign rfl rfl ?_
  refine TOps.next ?_
  refine Tri.ret2 (H' := NN ++ H) Try.results16 (fun _ _ h => h) (.cellN rfl rfl ti24 (Rd.all (List.mem_append_right _ (bld_sub.subset (List.Mem.tail _ (List.Mem.tail _ (List.Mem.head _)))))) rfl) (.tmp rfl) (sub_app ((List.Sublist.cons _ (List.Sublist.cons _ (List.Sublist.cons _ s1))).trans bld_sub)) ⟨a2, c2, NN, rfl, hN2, rfl⟩
end Go.Proofs
