import Derived.Test.YthfbpnfaklaopaaE11
import Derived.Test.YthfbpnfaklaopaaGL73
namespace Go.Proofs
open Go.GL
set_option linter.unusedVariables false
set_option linter.unusedSimpArgs false
set_option maxHeartbeats 1000000 in
theorem follow_g {HB : List Ent} {bb : Nat} {v t : Int} {ns0 : List Nd} {s : BS} (hs : s.ok ns0) (hv : 0 ≤ v ∧ v ≤ 24) (hn : ns0.length ≤ 10000) {fv : Value} {F : Fm} (hF : RF HB fv F) (hg : F.Good) {T0 : List Int} (hT0 : T0.length = F.vars.toNat) {L : Nat} (hL : T0.length = L) {ta : Option Nat} {tc : Nat} (hta : T0 ≠ [] → ∃ b, ta = some b) :
    Gives Try.prog 41 [.pointer (some ⟨bb, 0, none⟩), fv, slV ta 0 L tc] (bld 61 54 bb v ns0 t s (row ta 3 1 tc (ints T0) :: HB))
      (fun u H' => ∃ (s' : BS) (ta' : Option Nat) (tc' : Nat), u = slV ta' 0 (L + F.nodes.length) tc' ∧ (L + F.nodes.length ≠ 0 → ∃ b, ta' = some b) ∧ s'.ok (followS v F.nodes T0 ns0 F.nodes.length).2 ∧ bld 61 54 bb v (followS v F.nodes T0 ns0 F.nodes.length).2 t s' (row ta' 3 1 tc' (ints (followS v F.nodes T0 ns0 F.nodes.length).1) :: HB) = H') := by
  subst hL
  obtain ⟨na, off, cap, nsp, rfl, hN⟩ := hF
  have g0 := hg.v0; have g1 := hg.v1; have g2 := hg.n1
  refine Gives.enter Try.func41 rfl (by exact Try.ntmps41) rfl ?_
  refine Tri.seq (Tri.region ?_)
  refine TOps.boxN rfl ti24 rfl rfl (fun b4 => ?_)
  refine TOps.le bld_in ?_
  have r4 : Rd (row (some b4) 24 3 1 [.int .i64 F.vars, slV na off F.nodes.length cap nsp, .int .i64 F.top] :: row ta 3 1 tc (ints T0) :: HB) b4 0 [.int .i64 F.vars, slV na off F.nodes.length cap nsp, .int .i64 F.top] := Rd.all (by repeat (first | exact List.Mem.head _ | apply List.Mem.tail))
  refine TOps.assign rfl rfl ?_
  refine TOps.next ?_
  refine Tri.seq ?_
  refine Tri.seq (Tri.region ?_)
  skip
  first | refine TOps.fieldB 1 rfl Try.underlying24 rfl rfl ti22 rfl rfl rfl ?_ | refine TOps.fieldN 1 rfl Try.underlying24 rfl rfl ti22 rfl rfl rfl ?_
  refine TOps.load1 rfl ti22 (Rd.fld (r4.le bld_le) 1 rfl) rfl ?_
  refine TOps.len rfl Try.underlying22 rfl ?_
  refine TOps.move rfl rfl ?_
  refine TOps.next ?_
  refine Tri.range (X := BS × (Option Nat × Nat)) (fun u k => [(0, .pointer (some ⟨bb, 0, none⟩)), (2, slV u.2.1 0 (T0.length + k) u.2.2), (10, slV na off F.nodes.length cap nsp)]) (fun u k => bld 61 54 bb v (followS v F.nodes T0 ns0 k).2 t u.1 (row u.2.1 3 1 u.2.2 (ints (followS v F.nodes T0 ns0 k).1) :: HB)) (fun u k => u.1.ok (followS v F.nodes T0 ns0 k).2 ∧ (T0.length + k ≠ 0 → ∃ b, u.2.1 = some b)) (by omega) rfl rfl rfl (fun _ _ => ⟨rfl, rfl, rfl, rfl⟩) (s, ta, tc) ⟨hs, fun h => hta (fun e => h (by rw [e]; rfl))⟩ ⟨rfl, rfl, rfl, trivial⟩ (bld_mono (List.sublist_cons_self _ _)) (fun k u hlt hp => ?_) (fun u ac wc hp hS hM => ?_)
  · skip
    obtain ⟨z, ta, tc⟩ := u
    obtain ⟨hz, hta⟩ := hp
    dsimp only at hz hta ⊢
    obtain ⟨nb, aa, ao, acap, asp, rfl, rfl, hn⟩ := hN.at hlt
    have hfi := hg.fits k hlt
    have hal := hfi.len
    obtain ⟨hTl, hNl⟩ := followS_len v F.nodes T0 ns0 k
    have hst : followS v F.nodes T0 ns0 (k + 1) = ((followS v F.nodes T0 ns0 k).1 ++ [v + (followS v F.nodes T0 ns0 k).2.length], (followS v F.nodes T0 ns0 k).2 ++ [mapN (followS v F.nodes T0 ns0 k).1 F.nodes[k]]) := by rw [followS]; simp [hlt]
    obtain ⟨d, hd⟩ : ∃ d, F.nodes[k] = d := ⟨_, rfl⟩
    obtain ⟨T, hT⟩ : ∃ T, (followS v F.nodes T0 ns0 k).1 = T := ⟨_, rfl⟩
    obtain ⟨NS, hNS⟩ : ∃ NS, (followS v F.nodes T0 ns0 k).2 = NS := ⟨_, rfl⟩
    rw [hd, hT, hNS] at hst
    rw [hd] at hn hfi hal
    rw [hT] at hTl
    rw [hNS] at hNl hz
    rw [hT, hNS]
    have hin : ∀ a ∈ d.args, 0 ≤ a ∧ a.toNat < T0.length + k := fun a ha => by have := hfi.args a ha; omega
    refine Tri.seq (Tri.region ?_)
    refine TOps.indexAddr (off' := off + k * 3) rfl rfl Try.underlying22 ti54 (by omega) (by omega) (by simp) rfl ?_
    refine TOps.loadN (vs := [.int .i64 d.kind, .int .i64 d.k, slV aa ao d.args.length acap asp]) rfl ti54 (hn.cells.le (Le.trans bld_le (Le.drop (Le.refl _)))) rfl rfl ?_
    refine TOps.alloc ti54 rfl (fun b8 => ?_)
    refine TOps.storeN rfl rfl ti54 rfl rfl (by repeat (first | exact Upd.here | apply Upd.there)) (by first | decide | (simp; done) | (simp; omega)) ?_
    refine TOps.le bld_in ?_
    have r8 : Rd (row (some b8) 54 3 1 [.int .i64 d.kind, .int .i64 d.k, slV aa ao d.args.length acap asp] :: row ta 3 1 tc (ints T) :: HB) b8 0 [.int .i64 d.kind, .int .i64 d.k, slV aa ao d.args.length acap asp] := Rd.all (by repeat (first | exact List.Mem.head _ | apply List.Mem.tail))
    have hargs : RInts (row (some b8) 54 3 1 [.int .i64 d.kind, .int .i64 d.k, slV aa ao d.args.length acap asp] :: row ta 3 1 tc (ints T) :: HB) aa ao d.args asp := RdS.le hn.args (Le.drop (Le.drop (Le.refl _)))
    have rT : RInts (row (some b8) 54 3 1 [.int .i64 d.kind, .int .i64 d.k, slV aa ao d.args.length acap asp] :: row ta 3 1 tc (ints T) :: HB) ta 0 T := RdS.ofRowA (by repeat (first | exact List.Mem.head _ | apply List.Mem.tail)) (fun h => hta (by intro h0; rw [h0] at hTl; exact h (by rw [List.eq_nil_of_length_eq_zero hTl]; rfl)))
    refine TOps.next ?_
    have hlc : ∀ (x : (Option Nat × Nat) × BS × Nat × Nat × Nat) (c : Nat), c ≤ 3 → Le (match c with | 0 => bld 61 54 bb v NS t z (row (some b8) 54 3 1 [.int .i64 d.kind, .int .i64 d.k, slV aa ao d.args.length acap asp] :: row ta 3 1 tc (ints T) :: HB) | 1 => fact (d.args ≠ [] → ∃ b, x.1.1 = some b) :: row x.1.1 3 1 x.1.2 (ints (trI T d.args)) :: bld 61 54 bb v NS t z (row (some b8) 54 3 1 [.int .i64 d.kind, .int .i64 d.k, slV aa ao d.args.length acap asp] :: row ta 3 1 tc (ints T) :: HB) | 2 => fact (x.2.1.ok (NS ++ [mapN T d])) :: bld 61 54 bb v (NS ++ [mapN T d]) t x.2.1 (row (some b8) 54 3 1 [.int .i64 d.kind, .int .i64 d.k, slV aa ao d.args.length acap asp] :: row ta 3 1 tc (ints T) :: HB) | 3 => fact (x.2.1.ok (NS ++ [mapN T d])) :: row (some x.2.2.1) 3 1 1 [.int .i64 (v + NS.length)] :: bld 61 54 bb v (NS ++ [mapN T d]) t x.2.1 (row (some b8) 54 3 1 [.int .i64 d.kind, .int .i64 d.k, slV aa ao d.args.length acap asp] :: row ta 3 1 tc (ints T) :: HB) | _ + 4 => fact (x.2.1.ok (NS ++ [mapN T d])) :: bld 61 54 bb v (NS ++ [mapN T d]) t x.2.1 (row (some b8) 54 3 1 [.int .i64 d.kind, .int .i64 d.k, slV aa ao d.args.length acap asp] :: row (some x.2.2.2.1) 3 1 x.2.2.2.2 (ints T ++ [.int .i64 (v + NS.length)]) :: HB)) (row (some b8) 54 3 1 [.int .i64 d.kind, .int .i64 d.k, slV aa ao d.args.length acap asp] :: row ta 3 1 tc (ints T) :: HB) := by
      intro x c h
      match c, h with
      | 0, _ => exact bld_le
      | 1, _ => exact Le.drop (Le.drop bld_le)
      | 2, _ => exact Le.drop bld_le
      | 3, _ => exact Le.drop (Le.drop bld_le)
    refine Tri.drawX (X := (Option Nat × Nat) × BS × Nat × Nat × Nat) rfl [(0, .pointer (some ⟨bb, 0, none⟩)), (10, slV (some nb) off F.nodes.length cap), (11, .int .i64 F.nodes.length), (12, .int .i64 k), (8, .pointer (some ⟨b8, 0, none⟩))] [(2, slV ta 0 (T0.length + k) tc)] (fun x => [_, _, _, _, _, _, _, _, _, slV x.1.1 0 d.args.length x.1.2, .int .i64 (v + NS.length), slV (some x.2.2.1) 0 1 1, slV (some x.2.2.2.1) 0 (T0.length + k + 1) x.2.2.2.2, slV (some x.2.2.2.1) 0 (T0.length + k + 1) x.2.2.2.2]) (fun x c => match c with | 0 => bld 61 54 bb v NS t z (row (some b8) 54 3 1 [.int .i64 d.kind, .int .i64 d.k, slV aa ao d.args.length acap asp] :: row ta 3 1 tc (ints T) :: HB) | 1 => fact (d.args ≠ [] → ∃ b, x.1.1 = some b) :: row x.1.1 3 1 x.1.2 (ints (trI T d.args)) :: bld 61 54 bb v NS t z (row (some b8) 54 3 1 [.int .i64 d.kind, .int .i64 d.k, slV aa ao d.args.length acap asp] :: row ta 3 1 tc (ints T) :: HB) | 2 => fact (x.2.1.ok (NS ++ [mapN T d])) :: bld 61 54 bb v (NS ++ [mapN T d]) t x.2.1 (row (some b8) 54 3 1 [.int .i64 d.kind, .int .i64 d.k, slV aa ao d.args.length acap asp] :: row ta 3 1 tc (ints T) :: HB) | 3 => fact (x.2.1.ok (NS ++ [mapN T d])) :: row (some x.2.2.1) 3 1 1 [.int .i64 (v + NS.length)] :: bld 61 54 bb v (NS ++ [mapN T d]) t x.2.1 (row (some b8) 54 3 1 [.int .i64 d.kind, .int .i64 d.k, slV aa ao d.args.length acap asp] :: row ta 3 1 tc (ints T) :: HB) | _ + 4 => fact (x.2.1.ok (NS ++ [mapN T d])) :: bld 61 54 bb v (NS ++ [mapN T d]) t x.2.1 (row (some b8) 54 3 1 [.int .i64 d.kind, .int .i64 d.k, slV aa ao d.args.length acap asp] :: row (some x.2.2.2.1) 3 1 x.2.2.2.2 (ints T ++ [.int .i64 (v + NS.length)]) :: HB)) [9, 10, 11, 12] ((none, 0), BS.new, 0, 0, 0) [13] rfl rfl ⟨rfl, rfl, rfl, rfl, rfl, trivial⟩ ⟨rfl, trivial⟩ (by repeat (first | exact Le.refl _ | assumption | apply Le.drop)) (by
      refine ⟨?_, ?_, ?_, ?_, ?_, ?_, ?_, ?_, ?_, ?_, ?_, ?_, ?_, ?_, trivial⟩
      · refine ⟨fun x S c he hw hd hc hcu hm _ => ?_, trivial⟩
        refine TOps.move (hw _ _ rfl) rfl ?_
        exact TOps.fin (Nrm.draw x (fun _ _ _ => rfl) rfl (by first | exact Le.refl _ | assumption | exact (by repeat (first | exact Le.refl _ | assumption | apply Le.drop))))
      · refine ⟨fun x S c he hw hd hc hcu hm _ => ?_, trivial⟩
        refine TOps.move (he _ _ rfl) rfl ?_
        exact TOps.fin (Nrm.draw x (fun _ _ _ => rfl) rfl (by first | exact Le.refl _ | assumption | exact (by repeat (first | exact Le.refl _ | assumption | apply Le.drop))))
      · refine ⟨fun x S c he hw hd hc hcu hm _ => ?_, trivial⟩
        refine TOps.field0 (he _ _ rfl) Try.underlying54 rfl rfl ti3 rfl rfl rfl ?_
        exact TOps.fin (Nrm.draw x (fun _ _ _ => rfl) rfl (by first | exact Le.refl _ | assumption | exact (by repeat (first | exact Le.refl _ | assumption | apply Le.drop))))
      · refine ⟨fun x S c he hw hd hc hcu hm _ => ?_, trivial⟩
        obtain ⟨h2, -⟩ := hd
        refine TOps.load1 h2 ti3 (Rd.fld (r8.le (hlc x c (by have : c ≤ 1 := hcu; omega))) 0 rfl) rfl ?_
        exact TOps.fin (Nrm.draw x (fun _ _ _ => rfl) rfl (by first | exact Le.refl _ | assumption | exact (by repeat (first | exact Le.refl _ | assumption | apply Le.drop))))
      · refine ⟨fun x S c he hw hd hc hcu hm _ => ?_, trivial⟩
        first | refine TOps.fieldB 1 (he _ _ rfl) Try.underlying54 rfl rfl ti3 rfl rfl rfl ?_ | refine TOps.fieldN 1 (he _ _ rfl) Try.underlying54 rfl rfl ti3 rfl rfl rfl ?_
        exact TOps.fin (Nrm.draw x (fun _ _ _ => rfl) rfl (by first | exact Le.refl _ | assumption | exact (by repeat (first | exact Le.refl _ | assumption | apply Le.drop))))
      · refine ⟨fun x S c he hw hd hc hcu hm _ => ?_, trivial⟩
        obtain ⟨h4, -⟩ := hd
        refine TOps.load1 h4 ti3 (Rd.fld (r8.le (hlc x c (by have : c ≤ 1 := hcu; omega))) 1 rfl) rfl ?_
        exact TOps.fin (Nrm.draw x (fun _ _ _ => rfl) rfl (by first | exact Le.refl _ | assumption | exact (by repeat (first | exact Le.refl _ | assumption | apply Le.drop))))
      · refine ⟨fun x S c he hw hd hc hcu hm _ => ?_, trivial⟩
        first | refine TOps.fieldB 2 (he _ _ rfl) Try.underlying54 rfl rfl ti52 rfl rfl rfl ?_ | refine TOps.fieldN 2 (he _ _ rfl) Try.underlying54 rfl rfl ti52 rfl rfl rfl ?_
        exact TOps.fin (Nrm.draw x (fun _ _ _ => rfl) rfl (by first | exact Le.refl _ | assumption | exact (by repeat (first | exact Le.refl _ | assumption | apply Le.drop))))
      · refine ⟨fun x S c he hw hd hc hcu hm _ => ?_, trivial⟩
        obtain ⟨h6, -⟩ := hd
        refine TOps.load1 h6 ti52 (Rd.fld (r8.le (hlc x c (by have : c ≤ 0 := hcu; omega))) 2 rfl) rfl ?_
        exact TOps.fin (Nrm.draw x (fun _ _ _ => rfl) rfl (by first | exact Le.refl _ | assumption | exact (by repeat (first | exact Le.refl _ | assumption | apply Le.drop))))
      · refine ⟨fun x S c he hw hd hc hcu hm _ => ?_, trivial⟩
        refine TOps.move (hw _ _ rfl) rfl ?_
        exact TOps.fin (Nrm.draw x (fun _ _ _ => rfl) rfl (by first | exact Le.refl _ | assumption | exact (by repeat (first | exact Le.refl _ | assumption | apply Le.drop))))
      · refine ⟨fun x S c he hw hd hc hcu hm _ => ?_, trivial⟩
        obtain ⟨h7, h8, -⟩ := hd
        obtain rfl : c = 0 := hm rfl
        refine TOps.call (vs := [_, _]) Try.call31 ⟨h7, h8, trivial⟩ (mapped_g (P := T) (RdS.le hargs bld_le) (by omega) (RdS.le rT bld_le) hTl (by omega) hin) rfl ?_
        rintro _ _ ⟨ma, mc, rfl, hma, rfl⟩
        refine TOps.fin (Nrm.draw ((ma, mc), x.2) ?_ rfl (Le.addFact hma))
        intro j hj hcj; rcases j with _|_|_|_|_|_|_|_|_|_|_|_|_|_|j <;> first | rfl | exact absurd rfl hj | exact absurd hcj (by decide)
      · refine ⟨fun x S c he hw hd hc hcu hm _ => ?_, trivial⟩
        obtain ⟨h1, h3, h5, h9, _, -⟩ := hd
        obtain rfl : c = 1 := hm rfl
        refine TOps.fact (List.Mem.head _) (fun hma => ?_)
        refine TOps.le (Le.drop (Le.refl _)) ?_
        refine TOps.call (vs := [_, _, _, _]) Try.call30 ⟨h1, h3, h5, h9, trivial⟩ (add1_g hz rfl hv (by omega) (trI_length T d.args) (fun h => hma (fun e => h (by rw [e]; rfl))) d.kind d.k) rfl ?_
        rintro _ _ ⟨s', rfl, hs', rfl⟩
        refine TOps.fin (Nrm.draw (x.1, s', x.2.2) ?_ rfl (Le.addFact hs'))
        intro j hj hcj; rcases j with _|_|_|_|_|_|_|_|_|_|_|_|_|_|j <;> first | rfl | exact absurd rfl hj | exact absurd hcj (by decide)
      · refine ⟨fun x S c he hw hd hc hcu hm _ => ?_, trivial⟩
        obtain ⟨h10, -⟩ := hd
        obtain rfl : c = 2 := hm rfl
        refine TOps.fact (List.Mem.head _) (fun hs' => ?_)
        refine TOps.le (Le.drop (Le.refl _)) ?_
        refine TOps.buildSlice (vs := [_]) (xs := [_]) Try.underlying52 ti3 ⟨rfl, h10, trivial⟩ rfl rfl rfl rfl rfl rfl (by decide) rfl (fun b27 => ?_)
        refine TOps.fin (Nrm.draw (x.1, x.2.1, b27, x.2.2.2) ?_ rfl (Le.addFact hs'))
        intro j hj hcj; rcases j with _|_|_|_|_|_|_|_|_|_|_|_|_|_|j <;> first | rfl | exact absurd rfl hj | exact absurd hcj (by decide)
      · refine ⟨fun x S c he hw hd hc hcu hm _ => ?_, trivial⟩
        obtain ⟨h0, h11, h10, -⟩ := hd
        obtain rfl : c = 3 := hm rfl
        refine TOps.fact (List.Mem.head _) (fun hs' => ?_)
        refine TOps.le (Le.drop (Le.refl _)) ?_
        refine TOps.appendLit h0 h11 Try.underlying52 ti3 rfl (fun _ _ => Upd.bld (Upd.there Upd.here)) rfl (by rw [List.length_map, hTl, Nat.mul_one]) rfl (by omega) (by omega) (by simp) rfl (fun b28 cap28 => ?_)
        refine TOps.fin (Nrm.draw (x.1, x.2.1, x.2.2.1, b28, cap28) ?_ rfl (Le.addFact hs'))
        intro j hj hcj; rcases j with _|_|_|_|_|_|_|_|_|_|_|_|_|_|j <;> first | rfl | exact absurd rfl hj | exact absurd hcj (by decide)
      · refine ⟨fun x S c he hw hd hc hcu hm _ => ?_, trivial⟩
        obtain ⟨h12, _, h0, h1, h2, h3, h4, h5, h6, h7, h8, h9, h10, h11, _, -⟩ := hd
        refine TOps.assign h12 rfl ?_
        exact TOps.fin (Nrm.draw x (fun _ _ _ => rfl) rfl (by first | exact Le.refl _ | assumption | exact (by repeat (first | exact Le.refl _ | assumption | apply Le.drop))))
      ) (fun w => ?_)
    refine Nrm.fact (List.Mem.head _) (fun hw => ?_)
    refine Nrm.le (Le.drop (Le.refl _)) ?_
    refine Nrm.body (w.2.1, some w.2.2.2.1, w.2.2.2.2) (by rw [hst]; exact ⟨hw, fun _ => ⟨_, rfl⟩⟩) ⟨rfl, rfl, rfl, rfl, rfl, trivial⟩ (by rw [hst]; dsimp only; rw [ints_snoc]; exact bld_mono (List.sublist_cons_self _ _))
  refine Nrm.of hS hM ?_
  refine Nrm.next ?_
  refine Tri.seq (Tri.region ?_)
  refine TOps.move rfl rfl ?_
  refine TOps.assign rfl rfl ?_
  refine TOps.next ?_
  refine Tri.ret1 (H' := _) Try.results41 (fun _ _ h => h) (.tmp rfl) (Le.refl _) ⟨u.1, u.2.1, u.2.2, rfl, hp.2, hp.1, rfl⟩
end Go.Proofs
