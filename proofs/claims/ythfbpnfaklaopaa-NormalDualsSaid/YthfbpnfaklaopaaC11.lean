import Derived.Test.YthfbpnfaklaopaaB11
import Derived.Test.YthfbpnfaklaopaaGL72
namespace Go.Proofs
open Go.GL
set_option linter.unusedVariables false
set_option linter.unusedSimpArgs false
set_option maxHeartbeats 1000000 in
theorem xor_g {HB : List Ent} {bb : Nat} {v t : Int} {ns : List Nd} {s : BS} (hs : s.ok ns) (hv : 0 ≤ v ∧ v ≤ 24) (hn : ns.length ≤ 100000) {P N xs : List Int} {pa na xa psp nsp xsp : Option Nat} {po pc no nc xo xc pl : Nat}
    (hP : RInts HB pa po P psp) (hPl : P.length = pl) (hN : RInts HB na no N nsp) (hNl : N.length = pl) (hpl : pl ≤ 1000000)
    (hx : RInts HB xa xo xs xsp) (h1 : xs ≠ []) (h16 : xs.length ≤ 16) (hxc : xs.length ≤ xc) (hin : ∀ a ∈ xs, 0 ≤ a ∧ a.toNat < pl) :
    Gives Try.prog 32 [.pointer (some ⟨bb, 0, none⟩), slV xa xo xs.length xc xsp, slV pa po pl pc psp, slV na no pl nc nsp] (bld 61 54 bb v ns t s HB) (fun u H' => ∃ s' : BS, u = .tuple (List.toArray [.int .i64 (xor0 v P N xs ns).2.1, .int .i64 (xor0 v P N xs ns).2.2]) ∧ s'.ok (xor0 v P N xs ns).1 ∧ bld 61 54 bb v (xor0 v P N xs ns).1 t s' HB = H') := by
  obtain ⟨x0, xr, rfl⟩ := List.exists_cons_of_ne_nil h1
  have e0 : xor0 v P N (x0 :: xr) ns = xorR v P N xr (xorI v (P.getD x0.toNat 0) (N.getD x0.toNat 0) ns) := rfl
  rw [e0]
  have hl : (x0 :: xr).length = xr.length + 1 := rfl
  rw [hl] at h16 hxc ⊢
  obtain ⟨xb, rfl, rfl, hx0⟩ := hx.at (i := 0) (by simp)
  obtain ⟨hb0, hb1⟩ := hin x0 (List.mem_cons_self)
  obtain ⟨pb, rfl, rfl, hp0⟩ := hP.at (i := x0.toNat) (by omega)
  obtain ⟨nb, rfl, rfl, hn0⟩ := hN.at (i := x0.toNat) (by omega)
  have gP : ∀ i, i < pl → ∃ h : i < P.length, P.getD i 0 = P[i] := fun i hi => ⟨by omega, by simp [hPl, hi]⟩
  have gN : ∀ i, i < pl → ∃ h : i < N.length, N.getD i 0 = N[i] := fun i hi => ⟨by omega, by simp [hNl, hi]⟩
  obtain ⟨_, gp0⟩ := gP x0.toNat hb1
  obtain ⟨_, gn0⟩ := gN x0.toNat hb1
  rw [← gp0] at hp0
  rw [← gn0] at hn0
  simp only [List.getElem_cons_zero, Nat.add_zero] at hx0
  refine Gives.enter Try.func32 rfl (by exact Try.ntmps32) rfl ?_
  refine Tri.seq (Tri.region ?_)
  refine TOps.assign rfl rfl ?_
  refine TOps.assign rfl rfl ?_
  refine TOps.next ?_
  refine Tri.seq (Tri.region ?_)
  refine TOps.move rfl rfl ?_
  refine TOps.move rfl rfl ?_
  refine TOps.move rfl rfl ?_
  refine TOps.indexAddr (off' := xo) rfl rfl Try.underlying52 ti3 (by omega) (by omega) (by simp) rfl ?_
  refine TOps.load1 rfl ti3 (Rd.le hx0 (by repeat (first | exact bld_le | apply Le.drop))) rfl ?_
  refine TOps.indexAddr (off' := po + x0.toNat) rfl rfl Try.underlying52 ti3 (by omega) (by omega) (by simp) rfl ?_
  refine TOps.load1 rfl ti3 (Rd.le hp0 (by repeat (first | exact bld_le | apply Le.drop))) rfl ?_
  refine TOps.buildSlice (vs := [_]) (xs := [_]) Try.underlying52 ti3 ⟨rfl, rfl, trivial⟩ rfl rfl rfl rfl rfl rfl (by decide) rfl (fun b22 => ?_)
  refine TOps.call (vs := [_, _, _, _]) Try.call30 ⟨rfl, rfl, rfl, rfl, trivial⟩ (add1_g (args := [P.getD x0.toNat 0]) hs rfl hv (by omega) rfl (fun _ => ⟨_, rfl⟩) 3 0) rfl ?_
  rintro _ _ ⟨s1, rfl, hs1, rfl⟩
  refine TOps.assign rfl rfl ?_
  refine TOps.next ?_
  refine Tri.seq (Tri.region ?_)
  refine TOps.move rfl rfl ?_
  refine TOps.move rfl rfl ?_
  refine TOps.move rfl rfl ?_
  refine TOps.indexAddr (off' := xo) rfl rfl Try.underlying52 ti3 (by omega) (by omega) (by simp) rfl ?_
  refine TOps.load1 rfl ti3 (Rd.le hx0 (by repeat (first | exact bld_le | apply Le.drop))) rfl ?_
  refine TOps.indexAddr (off' := no + x0.toNat) rfl rfl Try.underlying52 ti3 (by omega) (by omega) (by simp) rfl ?_
  refine TOps.load1 rfl ti3 (Rd.le hn0 (by repeat (first | exact bld_le | apply Le.drop))) rfl ?_
  refine TOps.buildSlice (vs := [_]) (xs := [_]) Try.underlying52 ti3 ⟨rfl, rfl, trivial⟩ rfl rfl rfl rfl rfl rfl (by decide) rfl (fun b31 => ?_)
  refine TOps.call (vs := [_, _, _, _]) Try.call30 ⟨rfl, rfl, rfl, rfl, trivial⟩ (add1_g (args := [N.getD x0.toNat 0]) (L := ns.length + 1) hs1 (by simp) hv (by simp; omega) rfl (fun _ => ⟨_, rfl⟩) 3 0) rfl ?_
  rintro _ _ ⟨s2, rfl, hs2, rfl⟩
  refine TOps.assign rfl rfl ?_
  refine TOps.next ?_
  refine Tri.seq ?_
  refine Tri.seq (Tri.region ?_)
  refine TOps.move rfl rfl ?_
  refine TOps.sliceLo (l := 1) rfl rfl Try.underlying52 ti3 (by omega) rfl ?_
  obtain ⟨xo', hxo'⟩ : ∃ xo', (bif xc == 1 then xo else xo + 1 * 1) = xo' := ⟨_, rfl⟩
  rw [hxo']
  have hxr : ∀ j, j < xr.length → xo' = xo + 1 := fun j hj => by rw [← hxo', show (xc == 1) = false from beq_eq_false_iff_ne.2 (by omega)]; rfl
  rw [show xr.length + 1 - 1 = xr.length from rfl]
  refine TOps.len rfl Try.underlying52 rfl ?_
  refine TOps.move rfl rfl ?_
  refine TOps.next ?_
  refine Tri.range (X := BS) (fun z k => [(0, .pointer (some ⟨bb, 0, none⟩)), (2, slV (some pb) po pl pc), (3, slV (some nb) no pl nc), (8, .int .i64 (xorR v P N (xr.take k) (xorI v (P.getD x0.toNat 0) (N.getD x0.toNat 0) ns)).2.1), (9, .int .i64 (xorR v P N (xr.take k) (xorI v (P.getD x0.toNat 0) (N.getD x0.toNat 0) ns)).2.2), (34, slV (some xb) xo' xr.length (xc - 1))]) (fun z k => bld 61 54 bb v (xorR v P N (xr.take k) (xorI v (P.getD x0.toNat 0) (N.getD x0.toNat 0) ns)).1 t z HB) (fun z k => z.ok (xorR v P N (xr.take k) (xorI v (P.getD x0.toNat 0) (N.getD x0.toNat 0) ns)).1) (by omega) rfl rfl rfl (fun _ _ => ⟨rfl, rfl, rfl, rfl⟩) s2 hs2 ⟨rfl, rfl, rfl, rfl, rfl, rfl, trivial⟩ (Le.refl _) (fun k z hlt hp => ?_) (fun z ac wc hp hS hM => ?_)
  · skip
    have hwl := xorR_len v P N (xr.take k) (xorI v (P.getD x0.toNat 0) (N.getD x0.toNat 0) ns)
    rw [List.length_take, show (xorI v (P.getD x0.toNat 0) (N.getD x0.toNat 0) ns).1.length = ns.length + 2 by simp [xorI]] at hwl
    obtain ⟨W, hW⟩ : ∃ W, xorR v P N (xr.take k) (xorI v (P.getD x0.toNat 0) (N.getD x0.toNat 0) ns) = W := ⟨_, rfl⟩
    have hWn : xorR v P N (xr.take (k + 1)) (xorI v (P.getD x0.toNat 0) (N.getD x0.toNat 0) ns) = xor6 v (P.getD xr[k].toNat 0) (N.getD xr[k].toNat 0) W := by rw [List.take_succ_eq_append_getElem hlt, xorR_snoc, hW]
    rw [hW] at hwl hp ⊢
    obtain ⟨_, _, _, hxk⟩ := hx.at (i := k + 1) (by simp; omega)
    rename_i hbe _
    obtain rfl := Option.some.inj hbe
    simp only [List.getElem_cons_succ] at hxk
    obtain ⟨hk0, hk1⟩ := hin xr[k] (List.mem_cons_of_mem _ (List.getElem_mem hlt))
    obtain ⟨_, e1, _, hpk⟩ := hP.at (i := xr[k].toNat) (by omega)
    obtain rfl := Option.some.inj e1
    obtain ⟨_, e2, _, hnk⟩ := hN.at (i := xr[k].toNat) (by omega)
    obtain rfl := Option.some.inj e2
    obtain ⟨_, gpk⟩ := gP _ hk1
    obtain ⟨_, gnk⟩ := gN _ hk1
    rw [← gpk] at hpk
    rw [← gnk] at hnk
    rw [hxr k hlt]
    obtain ⟨A, hA⟩ : ∃ A, xr[k] = A := ⟨_, rfl⟩
    rw [hA] at hxk hpk hnk hk0 hk1 hWn
    refine Tri.seq (Tri.region ?_)
    refine TOps.indexAddr (off' := xo + (k + 1)) rfl rfl Try.underlying52 ti3 (by omega) (by omega) (by simp; omega) rfl ?_
    refine TOps.load1 rfl ti3 (Rd.le hxk (by repeat (first | exact bld_le | apply Le.drop))) rfl ?_
    refine TOps.assign rfl rfl ?_
    refine TOps.next ?_
    refine Tri.seq (Tri.region ?_)
    refine TOps.move rfl rfl ?_
    refine TOps.move rfl rfl ?_
    refine TOps.move rfl rfl ?_
    refine TOps.move rfl rfl ?_
    refine TOps.indexAddr (off' := no + A.toNat) rfl rfl Try.underlying52 ti3 (by omega) (by omega) (by simp) rfl ?_
    refine TOps.load1 rfl ti3 (Rd.le hnk (by repeat (first | exact bld_le | apply Le.drop))) rfl ?_
    refine TOps.buildSlice (vs := [_, _]) (xs := [_, _]) Try.underlying52 ti3 ⟨rfl, rfl, rfl, rfl, trivial⟩ rfl rfl rfl rfl rfl rfl (by decide) rfl (fun b46 => ?_)
    refine TOps.call (vs := [_, _, _, _]) Try.call30 ⟨rfl, rfl, rfl, rfl, trivial⟩ (add1_g (args := [W.2.1, N.getD A.toNat 0]) hp rfl hv (by omega) rfl (fun _ => ⟨_, rfl⟩) 2 0) rfl ?_
    rintro _ _ ⟨z1, rfl, hz1, rfl⟩
    refine TOps.assign rfl rfl ?_
    refine TOps.next ?_
    refine Tri.seq (Tri.region ?_)
    refine TOps.move rfl rfl ?_
    refine TOps.move rfl rfl ?_
    refine TOps.move rfl rfl ?_
    refine TOps.move rfl rfl ?_
    refine TOps.indexAddr (off' := po + A.toNat) rfl rfl Try.underlying52 ti3 (by omega) (by omega) (by simp) rfl ?_
    refine TOps.load1 rfl ti3 (Rd.le hpk (by repeat (first | exact bld_le | apply Le.drop))) rfl ?_
    refine TOps.buildSlice (vs := [_, _]) (xs := [_, _]) Try.underlying52 ti3 ⟨rfl, rfl, rfl, rfl, trivial⟩ rfl rfl rfl rfl rfl rfl (by decide) rfl (fun b54 => ?_)
    refine TOps.call (vs := [_, _, _, _]) Try.call30 ⟨rfl, rfl, rfl, rfl, trivial⟩ (add1_g (args := [W.2.2, P.getD A.toNat 0]) (L := W.1.length + 1) hz1 (by simp) hv (by simp; omega) rfl (fun _ => ⟨_, rfl⟩) 2 0) rfl ?_
    rintro _ _ ⟨z2, rfl, hz2, rfl⟩
    refine TOps.assign rfl rfl ?_
    refine TOps.next ?_
    refine Tri.seq (Tri.region ?_)
    refine TOps.move rfl rfl ?_
    refine TOps.move rfl rfl ?_
    refine TOps.move rfl rfl ?_
    refine TOps.buildSlice (vs := [_, _]) (xs := [_, _]) Try.underlying52 ti3 ⟨rfl, rfl, rfl, rfl, trivial⟩ rfl rfl rfl rfl rfl rfl (by decide) rfl (fun b59 => ?_)
    refine TOps.call (vs := [_, _, _, _]) Try.call30 ⟨rfl, rfl, rfl, rfl, trivial⟩ (add1_g (args := [v + W.1.length, v + (W.1.length + 1 : Nat)]) (L := W.1.length + 2) hz2 (by simp) hv (by simp; omega) rfl (fun _ => ⟨_, rfl⟩) 3 0) rfl ?_
    rintro _ _ ⟨z3, rfl, hz3, rfl⟩
    refine TOps.assign rfl rfl ?_
    refine TOps.next ?_
    refine Tri.seq (Tri.region ?_)
    refine TOps.move rfl rfl ?_
    refine TOps.move rfl rfl ?_
    refine TOps.move rfl rfl ?_
    refine TOps.move rfl rfl ?_
    refine TOps.indexAddr (off' := po + A.toNat) rfl rfl Try.underlying52 ti3 (by omega) (by omega) (by simp) rfl ?_
    refine TOps.load1 rfl ti3 (Rd.le hpk (by repeat (first | exact bld_le | apply Le.drop))) rfl ?_
    refine TOps.buildSlice (vs := [_, _]) (xs := [_, _]) Try.underlying52 ti3 ⟨rfl, rfl, rfl, rfl, trivial⟩ rfl rfl rfl rfl rfl rfl (by decide) rfl (fun b67 => ?_)
    refine TOps.call (vs := [_, _, _, _]) Try.call30 ⟨rfl, rfl, rfl, rfl, trivial⟩ (add1_g (args := [W.2.1, P.getD A.toNat 0]) (L := W.1.length + 3) hz3 (by simp) hv (by simp; omega) rfl (fun _ => ⟨_, rfl⟩) 2 0) rfl ?_
    rintro _ _ ⟨z4, rfl, hz4, rfl⟩
    refine TOps.assign rfl rfl ?_
    refine TOps.next ?_
    refine Tri.seq (Tri.region ?_)
    refine TOps.move rfl rfl ?_
    refine TOps.move rfl rfl ?_
    refine TOps.move rfl rfl ?_
    refine TOps.move rfl rfl ?_
    refine TOps.indexAddr (off' := no + A.toNat) rfl rfl Try.underlying52 ti3 (by omega) (by omega) (by simp) rfl ?_
    refine TOps.load1 rfl ti3 (Rd.le hnk (by repeat (first | exact bld_le | apply Le.drop))) rfl ?_
    refine TOps.buildSlice (vs := [_, _]) (xs := [_, _]) Try.underlying52 ti3 ⟨rfl, rfl, rfl, rfl, trivial⟩ rfl rfl rfl rfl rfl rfl (by decide) rfl (fun b75 => ?_)
    refine TOps.call (vs := [_, _, _, _]) Try.call30 ⟨rfl, rfl, rfl, rfl, trivial⟩ (add1_g (args := [W.2.2, N.getD A.toNat 0]) (L := W.1.length + 4) hz4 (by simp) hv (by simp; omega) rfl (fun _ => ⟨_, rfl⟩) 2 0) rfl ?_
    rintro _ _ ⟨z5, rfl, hz5, rfl⟩
    refine TOps.assign rfl rfl ?_
    refine TOps.next ?_
    refine Tri.region ?_
    refine TOps.move rfl rfl ?_
    refine TOps.move rfl rfl ?_
    refine TOps.move rfl rfl ?_
    refine TOps.move rfl rfl ?_
    refine TOps.buildSlice (vs := [_, _]) (xs := [_, _]) Try.underlying52 ti3 ⟨rfl, rfl, rfl, rfl, trivial⟩ rfl rfl rfl rfl rfl rfl (by decide) rfl (fun b81 => ?_)
    refine TOps.call (vs := [_, _, _, _]) Try.call30 ⟨rfl, rfl, rfl, rfl, trivial⟩ (add1_g (args := [v + (W.1.length + 3 : Nat), v + (W.1.length + 4 : Nat)]) (L := W.1.length + 5) hz5 (by simp) hv (by simp; omega) rfl (fun _ => ⟨_, rfl⟩) 3 0) rfl ?_
    rintro _ _ ⟨z6, rfl, hz6, rfl⟩
    refine TOps.assign rfl rfl ?_
    refine TOps.assign rfl rfl ?_
    refine TOps.fin ?_
    refine Nrm.body z6 (by rw [hWn]; exact hz6) (by rw [hWn, ← hxr k hlt]; exact ⟨rfl, rfl, rfl, rfl, rfl, rfl, rfl, rfl, trivial⟩) (by rw [hWn]; exact Le.refl _)
  rw [List.take_length] at hM hS hp
  refine Nrm.of hS hM ?_
  refine Nrm.next ?_
  refine Tri.seq (Tri.region ?_)
  refine TOps.move rfl rfl ?_
  refine TOps.move rfl rfl ?_
  refine TOps.assign rfl rfl ?_
  refine TOps.assign rfl rfl ?_
  refine TOps.next ?_
  refine Tri.ret2 (H' := _) Try.results32 (fun _ _ h => h) (.tmp rfl) (.tmp rfl) (Le.refl _) ⟨z, rfl, hp, rfl⟩
end Go.Proofs
