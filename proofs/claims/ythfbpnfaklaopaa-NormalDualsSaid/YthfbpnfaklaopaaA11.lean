import Derived.Test.YthfbpnfaklaopaaNU
import Derived.Test.YthfbpnfaklaopaaGL71
namespace Go.Proofs
open Go.GL
set_option linter.unusedVariables false
set_option linter.unusedSimpArgs false
theorem mapped_g {H : List Ent} {xs P : List Int} {xa xsp ta tsp : Option Nat} {xo xc to_ tc : Nat} (hx : RInts H xa xo xs xsp) (hl : xs.length ≤ 1000) (hT : RInts H ta to_ P tsp) {pl : Nat} (hp : P.length = pl) (hPl : pl ≤ 1000000) (hin : ∀ a ∈ xs, 0 ≤ a ∧ a.toNat < pl) :
    Gives Try.prog 31 [slV xa xo xs.length xc xsp, slV ta to_ pl tc tsp] H (fun u H' => ∃ b c, u = slV b 0 xs.length c ∧ (xs ≠ [] → ∃ x, b = some x) ∧ row b 3 1 c (ints (trI P xs)) :: H = H') := by
  subst hp
  refine Gives.enter Try.func31 rfl (by exact Try.ntmps31) rfl ?_
  refine Tri.seq (Tri.region ?_)
  refine TOps.assign rfl rfl ?_
  refine TOps.next ?_
  refine Tri.seq (Tri.region ?_)
  refine TOps.assign rfl rfl ?_
  refine TOps.next ?_
  refine Tri.seq ?_
  refine Tri.seq (Tri.region ?_)
  refine TOps.move rfl rfl ?_
  refine TOps.len rfl Try.underlying52 rfl ?_
  refine TOps.move rfl rfl ?_
  refine TOps.next ?_
  refine Tri.range (X := Option Nat × Nat) (fun x k => [(1, slV ta to_ P.length tc tsp), (5, slV x.1 0 k x.2), (8, slV xa xo xs.length xc xsp)]) (fun x k => row x.1 3 1 x.2 (ints (trI P (xs.take k))) :: H) (fun x k => k ≠ 0 → ∃ b, x.1 = some b) (by omega) rfl rfl rfl (fun _ _ => ⟨rfl, rfl, rfl, rfl⟩) (none, 0) (fun h => absurd rfl h) ⟨rfl, rfl, rfl, trivial⟩ Le.addNil (fun k x hlt hp => ?_) (fun x ac wc hp hS hM => ?_)
  · skip
    obtain ⟨ab, rfl, rfl, ha⟩ := hx.at hlt
    obtain ⟨hb0, hb1⟩ := hin _ (List.getElem_mem hlt)
    obtain ⟨tb, rfl, rfl, ht⟩ := hT.at hb1
    refine Tri.seq (Tri.region ?_)
    refine TOps.indexAddr (off' := xo + k) rfl rfl Try.underlying52 ti3 (by omega) (by omega) (by simp) rfl ?_
    refine TOps.load1 rfl ti3 (by first | exact Rd.lit (by repeat (first | exact List.Mem.head _ | apply List.Mem.tail)) rfl | (repeat (first | assumption | apply Rd.up))) rfl ?_
    refine TOps.assign rfl rfl ?_
    refine TOps.next ?_
    refine Tri.region ?_
    refine TOps.move rfl rfl ?_
    refine TOps.move rfl rfl ?_
    refine TOps.move rfl rfl ?_
    refine TOps.indexAddr (off' := to_ + xs[k].toNat) rfl rfl Try.underlying52 ti3 (by omega) (by omega) (by simp) rfl ?_
    refine TOps.load1 rfl ti3 (by first | exact Rd.lit (by repeat (first | exact List.Mem.head _ | apply List.Mem.tail)) rfl | (repeat (first | assumption | apply Rd.up))) rfl ?_
    refine TOps.buildSlice (vs := [_]) (xs := [_]) Try.underlying52 ti3 ⟨rfl, rfl, trivial⟩ rfl rfl rfl rfl rfl rfl (by decide) rfl (fun b19 => ?_)
    refine TOps.appendLit rfl rfl Try.underlying52 ti3 rfl (fun _ _ => Upd.here) rfl (by simp [trI_length]; omega) rfl (by omega) (by omega) (by simp) rfl (fun b20 cap20 => ?_)
    refine TOps.assign rfl rfl ?_
    refine TOps.fin ?_
    refine Nrm.body (some b20, cap20) (fun _ => ⟨_, rfl⟩) ⟨rfl, rfl, rfl, rfl, rfl, trivial⟩ (Le.rowEq (by rw [trI_take_succ hlt, show P.getD xs[k].toNat 0 = P[xs[k].toNat] from by simp [hb1]]; simp [ints]))
  rw [List.take_length] at hM
  refine Nrm.of hS hM ?_
  refine Nrm.next ?_
  refine Tri.seq (Tri.region ?_)
  refine TOps.move rfl rfl ?_
  refine TOps.assign rfl rfl ?_
  refine TOps.next ?_
  refine Tri.ret1 (H' := _) Try.results31 (fun _ _ h => h) (.tmp rfl) (Le.refl _) ⟨x.1, x.2, rfl, fun h => hp (by intro h0; exact h (List.eq_nil_of_length_eq_zero h0)), rfl⟩
theorem mappedN_g {H : List Ent} {xs : List Int} {to : List Nat} {xa xsp ta tsp : Option Nat} {xo xc to_ tc : Nat} (hx : RInts H xa xo xs xsp) (hl : xs.length ≤ 1000) (hT : RdS H ta to_ (nats to) tsp) {pl : Nat} (hp : to.length = pl) (hPl : pl ≤ 1000000) (hin : ∀ a ∈ xs, 0 ≤ a ∧ a.toNat < pl) :
    Gives Try.prog 31 [slV xa xo xs.length xc xsp, slV ta to_ pl tc tsp] H (fun u H' => ∃ b c, u = slV b 0 xs.length c ∧ (xs ≠ [] → ∃ x, b = some x) ∧ row b 3 1 c (ints (trA to xs)) :: H = H') := by
  rw [nats_ints] at hT
  have h := mapped_g (P := to.map (fun i : Nat => (i : Int))) (tc := tc) (xc := xc) hx hl hT (by rw [List.length_map]; exact hp) hPl hin
  rw [trI_nats] at h
  exact h
theorem addA_g {A HB : List Ent} {bb : Nat} {v t : Int} {ns : List Nd} {s : BS} (hs : s.ok ns) (hv : 0 ≤ v ∧ v ≤ 24) (hn : ns.length ≤ 1000000) {aa asp : Option Nat} {ao ac : Nat} {args : List Int} (ha : RInts A aa ao args asp) (kind k : Int) :
    Gives Try.prog 30 [.pointer (some ⟨bb, 0, none⟩), .int .i64 kind, .int .i64 k, slV aa ao args.length ac asp] (A ++ bld 61 54 bb v ns t s HB) (fun u H' => ∃ s' : BS, u = .int .i64 (v + ns.length) ∧ s'.ok (ns ++ [⟨kind, k, args⟩]) ∧ bld 61 54 bb v (ns ++ [⟨kind, k, args⟩]) t s' HB = H') := by
  refine Gives.enter Try.func30 rfl (by exact Try.ntmps30) rfl ?_
  refine Tri.le bld_perm ?_
  have hcl := nsCells_length _ _ hs.a.1
  refine Tri.seq (Tri.region ?_)
  refine TOps.assign rfl rfl ?_
  refine TOps.next ?_
  refine Tri.seq (Tri.region ?_)
  refine TOps.move rfl rfl ?_
  refine TOps.move rfl rfl ?_
  refine TOps.nilCheck rfl rfl ?_
  refine TOps.field0 rfl Try.underlying61 rfl rfl ti24 rfl rfl rfl ?_
  first | refine TOps.fieldB 1 rfl Try.underlying24 rfl rfl ti22 rfl rfl rfl ?_ | refine TOps.fieldN 1 rfl Try.underlying24 rfl rfl ti22 rfl rfl rfl ?_
  refine TOps.load1 rfl ti22 (by first | exact Rd.lit (by repeat (first | exact List.Mem.head _ | apply List.Mem.tail)) rfl | (repeat (first | assumption | exact Rd.fld (by assumption) 1 rfl | apply Rd.up))) rfl ?_
  refine TOps.move rfl rfl ?_
  refine TOps.move rfl rfl ?_
  refine TOps.move rfl rfl ?_
  refine TOps.buildStruct (vs := [(0, _), (1, _), (2, _)]) (xs := [_, _, _]) [(0, 1), (1, 1), (2, 1)] Try.underlying54 ti54 (fun w => by simp) ⟨rfl, rfl, rfl, rfl, rfl, rfl, trivial⟩ rfl rfl ?_
  refine TOps.buildSlice (vs := [_]) (xs := [_, _, _]) Try.underlying22 ti54 ⟨rfl, rfl, trivial⟩ rfl rfl rfl rfl rfl rfl (by decide) rfl (fun b19 => ?_)
  refine TOps.appendLit rfl rfl Try.underlying22 ti54 rfl (fun _ _ => (by repeat (first | exact Upd.here | apply Upd.there))) rfl hcl rfl (by omega) (by omega) (by simp) rfl (fun b20 cap20 => ?_)
  refine TOps.nilCheck rfl rfl ?_
  refine TOps.field0 rfl Try.underlying61 rfl rfl ti24 rfl rfl rfl ?_
  first | refine TOps.fieldB 1 rfl Try.underlying24 rfl rfl ti22 rfl rfl rfl ?_ | refine TOps.fieldN 1 rfl Try.underlying24 rfl rfl ti22 rfl rfl rfl ?_
  refine TOps.store1 rfl rfl ti22 rfl rfl (by repeat (first | exact Upd.here | apply Upd.there)) (by first | decide | (simp; done) | (simp; omega) | exact (show (1 : Nat) < 3 by decide)) ?_
  refine TOps.next ?_
  refine Tri.seq ?_
  refine Tri.drawC rfl [(0, .pointer (some ⟨bb, 0, none⟩))] [] [_, _, _, _, _, _, _, _, _, _, _, _, _, _] (row (some bb) 61 3 1 [.int .i64 v, slV (some b20) 0 (ns.length + 1) cap20, .int .i64 t] :: row (some b20) 54 3 cap20 (nsCells ns s.qs ++ [.int .i64 kind, .int .i64 k, slV aa ao args.length ac asp]) :: ((A ++ s.N) ++ HB)) [13] rfl ⟨rfl, trivial⟩ trivial (by repeat (first | exact Le.refl _ | assumption | apply Le.drop)) (by
    refine ⟨?_, ?_, ?_, ?_, ?_, ?_, ?_, ?_, ?_, ?_, ?_, ?_, ?_, ?_, trivial⟩
    · refine ⟨fun x S c he hw hd hc hcu hm _ => ?_, trivial⟩
      refine TOps.move (he _ _ rfl) rfl ?_
      exact TOps.fin (Nrm.draw x (fun _ _ _ => rfl) rfl (by first | exact Le.refl _ | assumption | exact (by repeat (first | exact Le.refl _ | assumption | apply Le.drop))))
    · refine ⟨fun x S c he hw hd hc hcu hm _ => ?_, trivial⟩
      obtain ⟨h0, -⟩ := hd
      refine TOps.nilCheck h0 rfl ?_
      exact TOps.fin (Nrm.draw x (fun _ _ _ => rfl) rfl (by first | exact Le.refl _ | assumption | exact (by repeat (first | exact Le.refl _ | assumption | apply Le.drop))))
    · refine ⟨fun x S c he hw hd hc hcu hm _ => ?_, trivial⟩
      obtain ⟨h1, -⟩ := hd
      refine TOps.field0 h1 Try.underlying61 rfl rfl ti24 rfl rfl rfl ?_
      exact TOps.fin (Nrm.draw x (fun _ _ _ => rfl) rfl (by first | exact Le.refl _ | assumption | exact (by repeat (first | exact Le.refl _ | assumption | apply Le.drop))))
    · refine ⟨fun x S c he hw hd hc hcu hm _ => ?_, trivial⟩
      obtain ⟨h2, -⟩ := hd
      refine TOps.field0 h2 Try.underlying24 rfl rfl ti3 rfl rfl rfl ?_
      exact TOps.fin (Nrm.draw x (fun _ _ _ => rfl) rfl (by first | exact Le.refl _ | assumption | exact (by repeat (first | exact Le.refl _ | assumption | apply Le.drop))))
    · refine ⟨fun x S c he hw hd hc hcu hm _ => ?_, trivial⟩
      obtain ⟨h3, -⟩ := hd
      refine TOps.load1 h3 ti3 (by first | exact Rd.lit (by repeat (first | exact List.Mem.head _ | apply List.Mem.tail)) rfl | (repeat (first | assumption | exact Rd.fld (by assumption) 0 rfl | apply Rd.up))) rfl ?_
      exact TOps.fin (Nrm.draw x (fun _ _ _ => rfl) rfl (by first | exact Le.refl _ | assumption | exact (by repeat (first | exact Le.refl _ | assumption | apply Le.drop))))
    · refine ⟨fun x S c he hw hd hc hcu hm _ => ?_, trivial⟩
      refine TOps.move (he _ _ rfl) rfl ?_
      exact TOps.fin (Nrm.draw x (fun _ _ _ => rfl) rfl (by first | exact Le.refl _ | assumption | exact (by repeat (first | exact Le.refl _ | assumption | apply Le.drop))))
    · refine ⟨fun x S c he hw hd hc hcu hm _ => ?_, trivial⟩
      obtain ⟨h5, -⟩ := hd
      refine TOps.nilCheck h5 rfl ?_
      exact TOps.fin (Nrm.draw x (fun _ _ _ => rfl) rfl (by first | exact Le.refl _ | assumption | exact (by repeat (first | exact Le.refl _ | assumption | apply Le.drop))))
    · refine ⟨fun x S c he hw hd hc hcu hm _ => ?_, trivial⟩
      obtain ⟨h6, -⟩ := hd
      refine TOps.field0 h6 Try.underlying61 rfl rfl ti24 rfl rfl rfl ?_
      exact TOps.fin (Nrm.draw x (fun _ _ _ => rfl) rfl (by first | exact Le.refl _ | assumption | exact (by repeat (first | exact Le.refl _ | assumption | apply Le.drop))))
    · refine ⟨fun x S c he hw hd hc hcu hm _ => ?_, trivial⟩
      obtain ⟨h7, -⟩ := hd
      first | refine TOps.fieldB 1 h7 Try.underlying24 rfl rfl ti22 rfl rfl rfl ?_ | refine TOps.fieldN 1 h7 Try.underlying24 rfl rfl ti22 rfl rfl rfl ?_
      exact TOps.fin (Nrm.draw x (fun _ _ _ => rfl) rfl (by first | exact Le.refl _ | assumption | exact (by repeat (first | exact Le.refl _ | assumption | apply Le.drop))))
    · refine ⟨fun x S c he hw hd hc hcu hm _ => ?_, trivial⟩
      obtain ⟨h8, -⟩ := hd
      refine TOps.load1 h8 ti22 (by first | exact Rd.lit (by repeat (first | exact List.Mem.head _ | apply List.Mem.tail)) rfl | (repeat (first | assumption | exact Rd.fld (by assumption) 1 rfl | apply Rd.up))) rfl ?_
      exact TOps.fin (Nrm.draw x (fun _ _ _ => rfl) rfl (by first | exact Le.refl _ | assumption | exact (by repeat (first | exact Le.refl _ | assumption | apply Le.drop))))
    · refine ⟨fun x S c he hw hd hc hcu hm _ => ?_, trivial⟩
      obtain ⟨h9, -⟩ := hd
      refine TOps.len h9 Try.underlying22 rfl ?_
      exact TOps.fin (Nrm.draw x (fun _ _ _ => rfl) rfl (by first | exact Le.refl _ | assumption | exact (by repeat (first | exact Le.refl _ | assumption | apply Le.drop))))
    · refine ⟨fun x S c he hw hd hc hcu hm _ => ?_, trivial⟩
      obtain ⟨h4, h10, -⟩ := hd
      refine TOps.add h4 h10 (wrapI (by omega) (by omega)) rfl ?_
      exact TOps.fin (Nrm.draw x (fun _ _ _ => rfl) rfl (by first | exact Le.refl _ | assumption | exact (by repeat (first | exact Le.refl _ | assumption | apply Le.drop))))
    · refine ⟨fun x S c he hw hd hc hcu hm _ => ?_, trivial⟩
      obtain ⟨h11, -⟩ := hd
      refine TOps.sub h11 rfl (wrapI (by omega) (by omega)) rfl ?_
      exact TOps.fin (Nrm.draw x (fun _ _ _ => rfl) rfl (by first | exact Le.refl _ | assumption | exact (by repeat (first | exact Le.refl _ | assumption | apply Le.drop))))
    · refine ⟨fun x S c he hw hd hc hcu hm _ => ?_, trivial⟩
      obtain ⟨h12, h0, h1, h2, h3, h4, h5, h6, h7, h8, h9, h10, h11, _, -⟩ := hd
      refine TOps.assign h12 rfl ?_
      exact TOps.fin (Nrm.draw x (fun _ _ _ => rfl) rfl (by first | exact Le.refl _ | assumption | exact (by repeat (first | exact Le.refl _ | assumption | apply Le.drop))))
    ) ?_
  refine Nrm.next ?_
  refine Tri.ret1 (H' := _) Try.results30 (fun _ _ h => h) (.tmp rfl) (Le.refl _) ⟨⟨some b20, cap20, s.qs ++ [(aa, ao, ac, asp)], A ++ s.N⟩, congrArg (Value.int .i64) (by omega), BS.ok_snoc hs ha, ?_⟩
  unfold bld
  rw [nsCells_snoc _ _ _ _ hs.a.1]
  simp [ndCells]
theorem add1_g {HB : List Ent} {bb : Nat} {v t : Int} {ns : List Nd} {s : BS} (hs : s.ok ns) {L : Nat} (hL : ns.length = L) (hv : 0 ≤ v ∧ v ≤ 24) (hn : ns.length ≤ 1000000) {aa : Option Nat} {ac c : Nat} {args : List Int} {m : Nat} (hm : args.length = m) (ha : args ≠ [] → ∃ b, aa = some b) (kind k : Int) :
    Gives Try.prog 30 [.pointer (some ⟨bb, 0, none⟩), .int .i64 kind, .int .i64 k, slV aa 0 m ac] (row aa 3 1 c (ints args) :: bld 61 54 bb v ns t s HB) (fun u H' => ∃ s' : BS, u = .int .i64 (v + L) ∧ s'.ok (ns ++ [⟨kind, k, args⟩]) ∧ bld 61 54 bb v (ns ++ [⟨kind, k, args⟩]) t s' HB = H') :=
  hL ▸ hm ▸ addA_g (A := [row aa 3 1 c (ints args)]) hs hv hn (RdS.ofRowA (List.Mem.head _) (fun h => ha (fun e => h (by rw [e]; rfl)))) kind k
theorem add0_g {HB : List Ent} {bb : Nat} {v t : Int} {ns : List Nd} {s : BS} (hs : s.ok ns) {L : Nat} (hL : ns.length = L) (hv : 0 ≤ v ∧ v ≤ 24) (hn : ns.length ≤ 1000000) (kind k : Int) :
    Gives Try.prog 30 [.pointer (some ⟨bb, 0, none⟩), .int .i64 kind, .int .i64 k, slV none 0 0 0] (bld 61 54 bb v ns t s HB) (fun u H' => ∃ s' : BS, u = .int .i64 (v + L) ∧ s'.ok (ns ++ [⟨kind, k, []⟩]) ∧ bld 61 54 bb v (ns ++ [⟨kind, k, []⟩]) t s' HB = H') :=
  hL ▸ addA_g (A := []) (args := []) hs hv hn (.inl rfl) kind k
theorem done_g {HB : List Ent} {bb : Nat} {v t : Int} {ns : List Nd} {s : BS} (hs : s.ok ns) (hn : ns.length ≤ 1000000) (top : Int) :
    Gives Try.prog 42 [.pointer (some ⟨bb, 0, none⟩), .int .i64 top] (bld 61 54 bb v ns t s HB) (NewN 47 (sizedF ⟨v, ns, top⟩) (sizedE ⟨v, ns, top⟩) HB) := by
  refine Gives.enter Try.func42 rfl (by exact Try.ntmps42) rfl ?_
  unfold bld
  refine Tri.seq (Tri.region ?_)
  refine TOps.alloc ti24 rfl (fun b4 => ?_)
  refine TOps.assign rfl rfl ?_
  refine TOps.next ?_
  refine Tri.seq (Tri.region ?_)
  refine TOps.move rfl rfl ?_
  refine TOps.move rfl rfl ?_
  refine TOps.nilCheck rfl rfl ?_
  refine TOps.field0 rfl Try.underlying61 rfl rfl ti24 rfl rfl rfl ?_
  first | refine TOps.fieldB 2 rfl Try.underlying24 rfl rfl ti3 rfl rfl rfl ?_ | refine TOps.fieldN 2 rfl Try.underlying24 rfl rfl ti3 rfl rfl rfl ?_
  refine TOps.store1 rfl rfl ti3 rfl rfl (by repeat (first | exact Upd.here | apply Upd.there)) (by first | decide | (simp; done) | (simp; omega) | exact (show (2 : Nat) < 3 by decide)) ?_
  refine TOps.next ?_
  refine Tri.seq ?_
  refine Tri.seq (Tri.region ?_)
  refine TOps.move rfl rfl ?_
  refine TOps.nilCheck rfl rfl ?_
  refine TOps.field0 rfl Try.underlying61 rfl rfl ti24 rfl rfl rfl ?_
  first | refine TOps.fieldB 1 rfl Try.underlying24 rfl rfl ti22 rfl rfl rfl ?_ | refine TOps.fieldN 1 rfl Try.underlying24 rfl rfl ti22 rfl rfl rfl ?_
  refine TOps.load1 rfl ti22 (by first | exact Rd.lit (by repeat (first | exact List.Mem.head _ | apply List.Mem.tail)) rfl | (repeat (first | assumption | exact Rd.fld (by assumption) 1 rfl | apply Rd.up))) rfl ?_
  refine TOps.len rfl Try.underlying22 rfl ?_
  refine TOps.gtr rfl rfl rfl ?_
  refine TOps.next ?_
  refine Tri.cond rfl (fun hc1 => ?_) (fun hc1 => ?_)
  · try simp only [decide_eq_true_eq, decide_eq_false_iff_not, Bool.and_eq_true, Bool.or_eq_true, Bool.not_eq_true', Bool.and_eq_false_iff, Bool.or_eq_false_iff, Bool.not_eq_false', Int.not_lt, Int.not_le, ne_eq, Decidable.not_not, Option.isSome_iff_ne_none, Option.isNone_iff_eq_none] at hc1
    refine Tri.seq (Tri.region ?_)
    refine TOps.buildStruct (vs := []) (xs := [_, _, _]) [(0, 1), (1, 1), (2, 1)] Try.underlying24 ti24 (fun w => by simp) trivial rfl rfl ?_
    refine TOps.makeInterface rfl Try.underlying47 rfl rfl ?_
    refine TOps.storeN rfl rfl ti24 rfl rfl (by repeat (first | exact Upd.here | apply Upd.there)) (by first | decide | (simp; done) | (simp; omega)) ?_
    refine TOps.assign rfl rfl ?_
    refine TOps.next ?_
    refine Tri.ret2 (H' := HB) Try.results42 (fun _ _ h => h) (.cellN rfl rfl ti24 (Rd.all (by repeat (first | exact List.Mem.head _ | apply List.Mem.tail))) rfl) (.tmp rfl) (Le.drop (Le.drop (Le.drop (Le.sub (List.sublist_append_right _ _))))) ⟨none, 0, [], ?_, ?_, rfl⟩
    · rw [show sizedE ⟨v, ns, top⟩ = some 4 from if_pos (by dsimp only; omega), show sizedF ⟨v, ns, top⟩ = Fm.zero from if_pos (by dsimp only; omega)]; rfl
    · rw [show sizedF ⟨v, ns, top⟩ = Fm.zero from if_pos (by dsimp only; omega)]; exact .inl rfl
  try simp only [decide_eq_true_eq, decide_eq_false_iff_not, Bool.and_eq_true, Bool.or_eq_true, Bool.not_eq_true', Bool.and_eq_false_iff, Bool.or_eq_false_iff, Bool.not_eq_false', Int.not_lt, Int.not_le, ne_eq, Decidable.not_not, Option.isSome_iff_ne_none, Option.isNone_iff_eq_none] at hc1
  refine Tri.fin ?_
  refine Nrm.next ?_
  refine Tri.seq (Tri.region ?_)
  refine TOps.move rfl rfl ?_
  refine TOps.nilCheck rfl rfl ?_
  refine TOps.field0 rfl Try.underlying61 rfl rfl ti24 rfl rfl rfl ?_
  refine TOps.loadN rfl ti24 (by first | exact Rd.all (by repeat (first | exact List.Mem.head _ | apply List.Mem.tail)) | (repeat (first | assumption | apply Rd.up))) rfl rfl ?_
  refine TOps.storeN rfl rfl ti24 rfl rfl (by repeat (first | exact Upd.here | apply Upd.there)) (by first | decide | (simp; done) | (simp; omega)) ?_
  refine TOps.assign rfl rfl ?_
  refine TOps.next ?_
  refine Tri.ret2 (H' := (row s.oa 54 3 s.cap (nsCells ns s.qs) :: s.N) ++ HB) Try.results42 (fun _ _ h => h) (.cellN rfl rfl ti24 (Rd.all (by repeat (first | exact List.Mem.head _ | apply List.Mem.tail))) rfl) (.tmp rfl) (Le.drop (Le.drop (Le.refl _))) ⟨s.oa, s.cap, row s.oa 54 3 s.cap (nsCells ns s.qs) :: s.N, ?_, ?_, rfl⟩
  · rw [show sizedE ⟨v, ns, top⟩ = none from if_neg (by dsimp only; omega), show sizedF ⟨v, ns, top⟩ = ⟨v, ns, top⟩ from if_neg (by dsimp only; omega)]; rfl
  · rw [show sizedF ⟨v, ns, top⟩ = ⟨v, ns, top⟩ from if_neg (by dsimp only; omega)]
    exact RNodes.ofA (E := 54) (sz := 3) (cap := s.cap) (List.Mem.head _) (hs.a.le (Le.drop (Le.refl _))) hs.o
end Go.Proofs
