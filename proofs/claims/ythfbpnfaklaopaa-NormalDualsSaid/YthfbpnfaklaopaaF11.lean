import Derived.Test.YthfbpnfaklaopaaE11
namespace Go.Proofs
open Go.GL
set_option linter.unusedVariables false
set_option linter.unusedSimpArgs false
set_option maxHeartbeats 1000000 in
theorem radd_g {A HB : List Ent} {bo : Nat} {v t : Int} {hdr : List Value} {ns : List Nd} {s : BS} (hs : s.ok ns) {L : Nat} (hL : ns.length = L) (hv : 0 ≤ v ∧ v ≤ 24) (hn : L ≤ 1000000) {aa asp : Option Nat} {ao ac m : Nat} {args : List Int} (hm : args.length = m) (hm2 : m ≤ 1000) (ha : RInts (A ++ bldH 24 54 bo hdr ns s HB) aa ao args asp) (kind kk : Int) :
    Gives Try.prog 38 [.agg (List.toArray [.int .i64 v, slV s.oa 0 L s.cap, .int .i64 t]), .int .i64 kind, .int .i64 kk, slV aa ao m ac asp] (A ++ bldH 24 54 bo hdr ns s HB)
      (fun u H' => ∃ s' : BS, u = .tuple (List.toArray [.agg (List.toArray [.int .i64 v, slV s'.oa 0 (L + 1) s'.cap, .int .i64 t]), .int .i64 (v + L)]) ∧ s'.ok (ns ++ [⟨kind, kk, args⟩]) ∧ bldH 24 54 bo hdr (ns ++ [⟨kind, kk, args⟩]) s' HB = H') := by
  subst hm
  have hcl : (nsCells ns s.qs).length = L * 3 := by rw [← hL]; exact nsCells_length _ _ hs.a.1
  have hac : RInts (row s.oa 54 3 s.cap (nsCells ns s.qs) :: row (some bo) 24 3 1 hdr :: (A ++ (s.N ++ HB))) aa ao args asp := RdS.le ha (Le.perm (by unfold bldH; exact ((List.perm_middle.trans (List.Perm.cons _ List.perm_middle)).trans (List.Perm.swap _ _ _)).symm))
  refine Gives.enter Try.func38 rfl (by exact Try.ntmps38) rfl ?_
  refine Tri.le bldH_open ?_
  obtain ⟨oa, ho⟩ : ∃ oa, s.oa = oa := ⟨_, rfl⟩
  obtain ⟨ocap, hc⟩ : ∃ ocap, s.cap = ocap := ⟨_, rfl⟩
  obtain ⟨CS, hCS⟩ : ∃ CS, nsCells ns s.qs = CS := ⟨_, rfl⟩
  obtain ⟨HX, hHX⟩ : ∃ HX, row (some bo) 24 3 1 hdr :: (A ++ (s.N ++ HB)) = HX := ⟨_, rfl⟩
  obtain ⟨n, hnn⟩ : ∃ n, L = n := ⟨_, rfl⟩
  rw [ho, hc, hCS, hHX, hnn]
  rw [hnn] at hcl hn
  rw [hCS] at hcl
  rw [ho, hc, hCS, hHX] at hac
  refine Tri.seq (Tri.region ?_)
  refine TOps.boxN rfl ti24 rfl rfl (fun b4 => ?_)
  refine TOps.alloc ti24 rfl (fun b8 => ?_)
  refine TOps.assign rfl rfl ?_
  refine TOps.next ?_
  refine Tri.seq ?_
  obtain ⟨HC, hHC⟩ : ∃ HC, row (some b8) 24 3 1 [.int .i64 0, slV none 0 0 0, .int .i64 0] :: HX = HC := ⟨_, rfl⟩
  have hBr : RInts (row oa 54 3 ocap CS :: HC) aa ao args asp := RdS.le hac (by rw [← hHC]; exact Le.swap.trans (Le.drop (Le.refl _)))
  refine Tri.le (H' := row (some b4) 24 3 1 [.int .i64 v, slV oa 0 n ocap, .int .i64 t] :: row oa 54 3 ocap CS :: HC) (by rw [← hHC]; exact (Sp.le (by repeat (first | exact Sp.refl _ | exact Sp.sub (by assumption) | refine Sp.cons (by repeat (first | exact Pick.here | apply Pick.there)) ?_ | exact Sp.nil | apply Sp.skip)))) ?_
  refine Tri.drawX (X := Nat × OA (ints args) × Nat × Nat × Nat × Nat) rfl [(1, .int .i64 kind), (2, .int .i64 kk), (3, slV aa ao args.length ac asp), (4, .pointer (some ⟨b4, 0, none⟩)), (8, .pointer (some ⟨b8, 0, none⟩))] [] (fun x => [_, slV oa 0 n ocap, _, _, slV (some x.1) 0 0 0, _, slV x.2.1.1 0 (0 + args.length) x.2.2.1, .agg (List.toArray [.int .i64 kind, .int .i64 kk, slV x.2.1.1 0 (0 + args.length) x.2.2.1]), slV (some x.2.2.2.1) 0 1 1, slV (some x.2.2.2.2.1) 0 (n + 1) x.2.2.2.2.2, _, undef]) (fun x c => match c with | 0 => row (some b4) 24 3 1 [.int .i64 v, slV oa 0 n ocap, .int .i64 t] :: row oa 54 3 ocap CS :: HC | 1 => row (some x.1) 3 1 0 [] :: row (some b4) 24 3 1 [.int .i64 v, slV oa 0 n ocap, .int .i64 t] :: row oa 54 3 ocap CS :: HC | 2 => row x.2.1.1 3 1 x.2.2.1 (ints args) :: row (some b4) 24 3 1 [.int .i64 v, slV oa 0 n ocap, .int .i64 t] :: row oa 54 3 ocap CS :: HC | 3 => row (some x.2.2.2.1) 54 3 1 [.int .i64 kind, .int .i64 kk, slV x.2.1.1 0 (0 + args.length) x.2.2.1] :: row x.2.1.1 3 1 x.2.2.1 (ints args) :: row (some b4) 24 3 1 [.int .i64 v, slV oa 0 n ocap, .int .i64 t] :: row oa 54 3 ocap CS :: HC | 4 => row x.2.1.1 3 1 x.2.2.1 (ints args) :: row (some b4) 24 3 1 [.int .i64 v, slV oa 0 n ocap, .int .i64 t] :: row (some x.2.2.2.2.1) 54 3 x.2.2.2.2.2 (CS ++ [.int .i64 kind, .int .i64 kk, slV x.2.1.1 0 (0 + args.length) x.2.2.1]) :: HC | _ + 5 => row x.2.1.1 3 1 x.2.2.1 (ints args) :: row (some b4) 24 3 1 [.int .i64 v, slV (some x.2.2.2.2.1) 0 (n + 1) x.2.2.2.2.2, .int .i64 t] :: row (some x.2.2.2.2.1) 54 3 x.2.2.2.2.2 (CS ++ [.int .i64 kind, .int .i64 kk, slV x.2.1.1 0 (0 + args.length) x.2.2.1]) :: HC) [4, 6, 8, 9, 11] (0, OA.zero _, 0, 0, 0, 0) [] rfl rfl ⟨rfl, rfl, rfl, rfl, rfl, trivial⟩ trivial (Le.refl _) (by
    refine ⟨?_, ?_, ?_, ?_, ?_, ?_, ?_, ?_, ?_, ?_, ?_, ?_, trivial⟩
    · refine ⟨fun x S c he hw hd hc hcu hm _ => ?_, trivial⟩
      first | refine TOps.fieldB 1 (he _ _ rfl) Try.underlying24 rfl rfl ti22 rfl rfl rfl ?_ | refine TOps.fieldN 1 (he _ _ rfl) Try.underlying24 rfl rfl ti22 rfl rfl rfl ?_
      exact TOps.fin (Nrm.draw x (fun _ _ _ => rfl) rfl (by first | exact Le.refl _ | assumption | exact (by repeat (first | exact Le.refl _ | assumption | apply Le.drop))))
    · refine ⟨fun x S c he hw hd hc hcu hm _ => ?_, trivial⟩
      obtain ⟨h0, -⟩ := hd
      rcases (show c = 0 ∨ c = 1 ∨ c = 2 ∨ c = 3 by have : c ≤ 3 := hcu; omega) with rfl | rfl | rfl | rfl <;> refine TOps.load1 h0 ti22 (Rd.lit (by repeat (first | exact List.Mem.head _ | apply List.Mem.tail)) rfl) rfl ?_
      all_goals exact TOps.fin (Nrm.draw x (fun _ _ _ => rfl) rfl (Le.refl _))
    · refine ⟨fun x S c he hw hd hc hcu hm _ => ?_, trivial⟩
      refine TOps.move (he _ _ rfl) rfl ?_
      exact TOps.fin (Nrm.draw x (fun _ _ _ => rfl) rfl (by first | exact Le.refl _ | assumption | exact (by repeat (first | exact Le.refl _ | assumption | apply Le.drop))))
    · refine ⟨fun x S c he hw hd hc hcu hm _ => ?_, trivial⟩
      refine TOps.move (he _ _ rfl) rfl ?_
      exact TOps.fin (Nrm.draw x (fun _ _ _ => rfl) rfl (by first | exact Le.refl _ | assumption | exact (by repeat (first | exact Le.refl _ | assumption | apply Le.drop))))
    · refine ⟨fun x S c he hw hd hc hcu hm _ => ?_, trivial⟩
      obtain rfl : c = 0 := hm rfl
      refine TOps.buildSlice0 Try.underlying52 ti3 rfl (fun b60 => ?_)
      refine TOps.fin (Nrm.draw (b60, x.2) ?_ rfl (Le.refl _))
      intro j hj hcj; rcases j with _|_|_|_|_|_|_|_|_|_|_|_|j <;> first | rfl | exact absurd rfl hj | exact absurd hcj (by decide)
    · refine ⟨fun x S c he hw hd hc hcu hm _ => ?_, trivial⟩
      refine TOps.move (he _ _ rfl) rfl ?_
      exact TOps.fin (Nrm.draw x (fun _ _ _ => rfl) rfl (by first | exact Le.refl _ | assumption | exact (by repeat (first | exact Le.refl _ | assumption | apply Le.drop))))
    · refine ⟨fun x S c he hw hd hc hcu hm _ => ?_, trivial⟩
      obtain ⟨h4, h5, -⟩ := hd
      obtain rfl : c = 1 := hm rfl
      refine TOps.append (ys := ints args) h4 h5 Try.underlying52 ti3 rfl (fun _ _ => Upd.here) (RdS.up (RdS.up hBr)) (by simp) rfl (oneInts args) (by omega) (by omega) rfl (fun a' cap' h0' => ?_)
      refine TOps.fin (Nrm.draw (x.1, ⟨a', h0'⟩, cap', x.2.2.2) ?_ rfl (Le.refl _))
      intro j hj hcj; rcases j with _|_|_|_|_|_|_|_|_|_|_|_|j <;> first | rfl | exact absurd rfl hj | exact absurd hcj (by decide)
    · refine ⟨fun x S c he hw hd hc hcu hm _ => ?_, trivial⟩
      obtain ⟨h2, h3, h6, -⟩ := hd
      refine TOps.buildStruct (vs := [(0, _), (1, _), (2, _)]) (xs := [_, _, _]) [(0, 1), (1, 1), (2, 1)] Try.underlying54 ti54 (fun w => by simp) ⟨rfl, h2, rfl, h3, rfl, h6, trivial⟩ rfl rfl ?_
      exact TOps.fin (Nrm.draw x (fun _ _ _ => rfl) rfl (by first | exact Le.refl _ | assumption | exact (by repeat (first | exact Le.refl _ | assumption | apply Le.drop))))
    · refine ⟨fun x S c he hw hd hc hcu hm _ => ?_, trivial⟩
      obtain ⟨h7, -⟩ := hd
      obtain rfl : c = 2 := hm rfl
      refine TOps.buildSlice (vs := [_]) (xs := [_, _, _]) Try.underlying22 ti54 ⟨rfl, h7, trivial⟩ rfl rfl rfl rfl rfl rfl (by decide) rfl (fun b18 => ?_)
      refine TOps.fin (Nrm.draw (x.1, x.2.1, x.2.2.1, b18, x.2.2.2.2) ?_ rfl (Le.refl _))
      intro j hj hcj; rcases j with _|_|_|_|_|_|_|_|_|_|_|_|j <;> first | rfl | exact absurd rfl hj | exact absurd hcj (by decide)
    · refine ⟨fun x S c he hw hd hc hcu hm _ => ?_, trivial⟩
      obtain ⟨h1, h8, h6, -⟩ := hd
      obtain rfl : c = 3 := hm rfl
      refine TOps.appendLit h1 h8 Try.underlying22 ti54 rfl (fun _ _ => (by repeat (first | exact Upd.here | apply Upd.there))) rfl hcl rfl (by omega) (by omega) (by simp) rfl (fun b66 cap66 => ?_)
      refine TOps.fin (Nrm.draw (x.1, x.2.1, x.2.2.1, x.2.2.2.1, b66, cap66) ?_ rfl (Le.refl _))
      intro j hj hcj; rcases j with _|_|_|_|_|_|_|_|_|_|_|_|j <;> first | rfl | exact absurd rfl hj | exact absurd hcj (by decide)
    · refine ⟨fun x S c he hw hd hc hcu hm _ => ?_, trivial⟩
      obtain ⟨h0, h1, h2, h3, h4, h5, h6, h7, h8, h9, -⟩ := hd
      first | refine TOps.fieldB 1 (he _ _ rfl) Try.underlying24 rfl rfl ti22 rfl rfl rfl ?_ | refine TOps.fieldN 1 (he _ _ rfl) Try.underlying24 rfl rfl ti22 rfl rfl rfl ?_
      exact TOps.fin (Nrm.draw x (fun _ _ _ => rfl) rfl (by first | exact Le.refl _ | assumption | exact (by repeat (first | exact Le.refl _ | assumption | apply Le.drop))))
    · refine ⟨fun x S c he hw hd hc hcu hm _ => ?_, trivial⟩
      obtain ⟨h10, h9, _, h0, h1, h2, h3, h4, h5, h6, h7, h8, _, -⟩ := hd
      obtain rfl : c = 4 := hm rfl
      refine TOps.store1 h10 h9 ti22 rfl rfl (by repeat (first | exact Upd.here | apply Upd.there)) (by simp) ?_
      exact TOps.fin (Nrm.draw x (fun _ _ _ => rfl) rfl (by first | exact Le.refl _ | assumption | exact (by repeat (first | exact Le.refl _ | assumption | apply Le.drop))))
    ) (fun w => ?_)
  subst hHC
  obtain ⟨wb, hwb⟩ : ∃ wb, w.2.2.2.2.1 = wb := ⟨_, rfl⟩
  obtain ⟨wc, hwc⟩ : ∃ wc, w.2.2.2.2.2 = wc := ⟨_, rfl⟩
  rw [hwb, hwc]
  refine Nrm.next ?_
  refine Tri.seq ?_
  refine Tri.drawX (X := Unit) rfl [(4, .pointer (some ⟨b4, 0, none⟩)), (8, .pointer (some ⟨b8, 0, none⟩))] [] (fun x => [_, _, _, _, _, _, _, _, undef, _]) (fun x c => match c with | 0 => row w.2.1.1 3 1 w.2.2.1 (ints args) :: row (some b4) 24 3 1 [.int .i64 v, slV (some wb) 0 (n + 1) wc, .int .i64 t] :: row (some wb) 54 3 wc (CS ++ [.int .i64 kind, .int .i64 kk, slV w.2.1.1 0 (0 + args.length) w.2.2.1]) :: row (some b8) 24 3 1 [.int .i64 0, slV none 0 0 0, .int .i64 0] :: HX | _ + 1 => row w.2.1.1 3 1 w.2.2.1 (ints args) :: row (some b4) 24 3 1 [.int .i64 v, slV (some wb) 0 (n + 1) wc, .int .i64 t] :: row (some wb) 54 3 wc (CS ++ [.int .i64 kind, .int .i64 kk, slV w.2.1.1 0 (0 + args.length) w.2.2.1]) :: row (some b8) 24 3 1 [.int .i64 v, slV (some wb) 0 (n + 1) wc, .int .i64 t] :: HX) [8] () [9] rfl rfl ⟨rfl, rfl, trivial⟩ trivial (by repeat (first | exact Le.refl _ | assumption | apply Le.drop)) (by
    refine ⟨?_, ?_, ?_, ?_, ?_, ?_, ?_, ?_, ?_, ?_, trivial⟩
    · refine ⟨fun x S c he hw hd hc hcu hm _ => ?_, trivial⟩
      obtain rfl : c = 0 := by have : c ≤ 0 := hcu; omega
      refine TOps.loadN (vs := [.int .i64 v, slV (some wb) 0 (n + 1) wc, .int .i64 t]) (he _ _ rfl) ti24 (Rd.all (by repeat (first | exact List.Mem.head _ | apply List.Mem.tail))) rfl rfl ?_
      exact TOps.fin (Nrm.draw x (fun _ _ _ => rfl) rfl (by first | exact Le.refl _ | assumption | exact (by repeat (first | exact Le.refl _ | assumption | apply Le.drop))))
    · refine ⟨fun x S c he hw hd hc hcu hm _ => ?_, trivial⟩
      refine TOps.field0 (he _ _ rfl) Try.underlying24 rfl rfl ti3 rfl rfl rfl ?_
      exact TOps.fin (Nrm.draw x (fun _ _ _ => rfl) rfl (by first | exact Le.refl _ | assumption | exact (by repeat (first | exact Le.refl _ | assumption | apply Le.drop))))
    · refine ⟨fun x S c he hw hd hc hcu hm _ => ?_, trivial⟩
      obtain ⟨h1, -⟩ := hd
      rcases (show c = 0 ∨ c = 1 by have : c ≤ 1 := hcu; omega) with rfl | rfl <;> refine TOps.load1 h1 ti3 (Rd.lit (by repeat (first | exact List.Mem.head _ | apply List.Mem.tail)) rfl) rfl ?_
      all_goals exact TOps.fin (Nrm.draw x (fun _ _ _ => rfl) rfl (Le.refl _))
    · refine ⟨fun x S c he hw hd hc hcu hm _ => ?_, trivial⟩
      first | refine TOps.fieldB 1 (he _ _ rfl) Try.underlying24 rfl rfl ti22 rfl rfl rfl ?_ | refine TOps.fieldN 1 (he _ _ rfl) Try.underlying24 rfl rfl ti22 rfl rfl rfl ?_
      exact TOps.fin (Nrm.draw x (fun _ _ _ => rfl) rfl (by first | exact Le.refl _ | assumption | exact (by repeat (first | exact Le.refl _ | assumption | apply Le.drop))))
    · refine ⟨fun x S c he hw hd hc hcu hm _ => ?_, trivial⟩
      obtain ⟨h3, -⟩ := hd
      rcases (show c = 0 ∨ c = 1 by have : c ≤ 1 := hcu; omega) with rfl | rfl <;> refine TOps.load1 h3 ti22 (Rd.lit (by repeat (first | exact List.Mem.head _ | apply List.Mem.tail)) rfl) rfl ?_
      all_goals exact TOps.fin (Nrm.draw x (fun _ _ _ => rfl) rfl (Le.refl _))
    · refine ⟨fun x S c he hw hd hc hcu hm _ => ?_, trivial⟩
      obtain ⟨h4, -⟩ := hd
      refine TOps.len h4 Try.underlying22 rfl ?_
      exact TOps.fin (Nrm.draw x (fun _ _ _ => rfl) rfl (by first | exact Le.refl _ | assumption | exact (by repeat (first | exact Le.refl _ | assumption | apply Le.drop))))
    · refine ⟨fun x S c he hw hd hc hcu hm _ => ?_, trivial⟩
      obtain ⟨h2, h5, -⟩ := hd
      refine TOps.add h2 h5 (wrapI (by omega) (by omega)) rfl ?_
      exact TOps.fin (Nrm.draw x (fun _ _ _ => rfl) rfl (by first | exact Le.refl _ | assumption | exact (by repeat (first | exact Le.refl _ | assumption | apply Le.drop))))
    · refine ⟨fun x S c he hw hd hc hcu hm _ => ?_, trivial⟩
      obtain ⟨h6, -⟩ := hd
      refine TOps.sub h6 rfl (wrapI (by omega) (by omega)) rfl ?_
      exact TOps.fin (Nrm.draw x (fun _ _ _ => rfl) rfl (by first | exact Le.refl _ | assumption | exact (by repeat (first | exact Le.refl _ | assumption | apply Le.drop))))
    · refine ⟨fun x S c he hw hd hc hcu hm _ => ?_, trivial⟩
      obtain ⟨h0, _, -⟩ := hd
      obtain rfl : c = 0 := hm rfl
      refine TOps.storeN (he _ _ rfl) h0 ti24 rfl rfl (by repeat (first | exact Upd.here | apply Upd.there)) (by simp) ?_
      exact TOps.fin (Nrm.draw x (fun _ _ _ => rfl) rfl (by first | exact Le.refl _ | assumption | exact (by repeat (first | exact Le.refl _ | assumption | apply Le.drop))))
    · refine ⟨fun x S c he hw hd hc hcu hm _ => ?_, trivial⟩
      obtain ⟨h7, h8, h0, h1, h2, h3, h4, h5, h6, _, _, -⟩ := hd
      refine TOps.assign h7 rfl ?_
      exact TOps.fin (Nrm.draw x (fun _ _ _ => rfl) rfl (by first | exact Le.refl _ | assumption | exact (by repeat (first | exact Le.refl _ | assumption | apply Le.drop))))
    ) (fun u0 => ?_)
  refine Nrm.next ?_
  subst hHX
  refine Tri.ret2 (H' := bldH 24 54 bo hdr (ns ++ [⟨kind, kk, args⟩]) ⟨some wb, wc, s.qs ++ [(w.2.1.1, 0, w.2.2.1, none)], row w.2.1.1 3 1 w.2.2.1 (ints args) :: s.N⟩ HB) Try.results38 (fun _ _ h => h) (.cellN rfl rfl ti24 (Rd.all (by repeat (first | exact List.Mem.head _ | apply List.Mem.tail))) rfl) (.tmp rfl) ?_ ⟨⟨some wb, wc, s.qs ++ [(w.2.1.1, 0, w.2.2.1, none)], row w.2.1.1 3 1 w.2.2.1 (ints args) :: s.N⟩, ?_, BS.ok_snoc (A := [row w.2.1.1 3 1 w.2.2.1 (ints args)]) hs (RdS.ofRowA (List.Mem.head _) w.2.1.2), rfl⟩
  · refine Le.trans ?_ (bldH_close (A := A) (b' := wb) (cap' := wc) (q := (w.2.1.1, 0, w.2.2.1, none)))
    rw [nsCells_snoc _ _ _ _ hs.a.1, hCS, show ndCells ⟨kind, kk, args⟩ (w.2.1.1, 0, w.2.2.1, none) = [.int .i64 kind, .int .i64 kk, slV w.2.1.1 0 (0 + args.length) w.2.2.1] from by simp [ndCells]]
    exact (Sp.le (by repeat (first | exact Sp.refl _ | exact Sp.sub (by assumption) | refine Sp.cons (by repeat (first | exact Pick.here | apply Pick.there)) ?_ | exact Sp.nil | apply Sp.skip)))
  · show Value.tuple (List.toArray [Value.agg (List.toArray [.int .i64 v, slV (some wb) 0 (n + 1) wc, .int .i64 t]), Value.int .i64 (v + ((n + 1 : Nat) : Int) - 1)]) = _
    rw [show v + ((n + 1 : Nat) : Int) - 1 = v + n by omega]
theorem radd1_g {HB : List Ent} {bo : Nat} {v t : Int} {ns : List Nd} {s : BS} (hs : s.ok ns) {L : Nat} (hL : ns.length = L) (hv : 0 ≤ v ∧ v ≤ 24) (hn : ns.length ≤ 1000000) {aa : Option Nat} {ac c m : Nat} {args : List Int} (hm : args.length = m) (hm2 : m ≤ 1000) (ha : args ≠ [] → ∃ b, aa = some b) (kind kk : Int) :
    Gives Try.prog 38 [.agg (List.toArray [.int .i64 v, slV s.oa 0 ns.length s.cap, .int .i64 t]), .int .i64 kind, .int .i64 kk, slV aa 0 m ac] (row aa 3 1 c (ints args) :: bld 24 54 bo v ns t s HB)
      (fun u H' => ∃ s' : BS, u = .tuple (List.toArray [.agg (List.toArray [.int .i64 v, slV s'.oa 0 (ns.length + 1) s'.cap, .int .i64 t]), .int .i64 (v + L)]) ∧ s'.ok (ns ++ [⟨kind, kk, args⟩]) ∧ bldH 24 54 bo [.int .i64 v, slV s.oa 0 ns.length s.cap, .int .i64 t] (ns ++ [⟨kind, kk, args⟩]) s' HB = H') := by
  subst hL
  exact radd_g (A := [row aa 3 1 c (ints args)]) hs rfl hv hn hm hm2 (RdS.ofRowA (List.Mem.head _) (fun h => ha (fun e => h (by rw [e]; rfl)))) kind kk
theorem radd0_g {HB : List Ent} {bo : Nat} {v t : Int} {ns : List Nd} {s : BS} (hs : s.ok ns) {L : Nat} (hL : ns.length = L) (hv : 0 ≤ v ∧ v ≤ 24) (hn : ns.length ≤ 1000000) {aa asp : Option Nat} {ao ac m : Nat} {args : List Int} (hm : args.length = m) (hm2 : m ≤ 1000) (ha : RInts HB aa ao args asp) (kind kk : Int) :
    Gives Try.prog 38 [.agg (List.toArray [.int .i64 v, slV s.oa 0 ns.length s.cap, .int .i64 t]), .int .i64 kind, .int .i64 kk, slV aa ao m ac asp] (bld 24 54 bo v ns t s HB)
      (fun u H' => ∃ s' : BS, u = .tuple (List.toArray [.agg (List.toArray [.int .i64 v, slV s'.oa 0 (ns.length + 1) s'.cap, .int .i64 t]), .int .i64 (v + L)]) ∧ s'.ok (ns ++ [⟨kind, kk, args⟩]) ∧ bldH 24 54 bo [.int .i64 v, slV s.oa 0 ns.length s.cap, .int .i64 t] (ns ++ [⟨kind, kk, args⟩]) s' HB = H') := by
  subst hL
  exact radd_g (A := []) hs rfl hv hn hm hm2 (RdS.le ha bldH_le) kind kk
theorem rsized_g {H N : List Ent} {F : Fm} {a : Option Nat} {c : Nat} (hN : RNodes N a 0 F.nodes) (hk : F.nodes.length ≤ 1000000) :
    Gives Try.prog 39 [.agg (List.toArray [.int .i64 F.vars, slV a 0 F.nodes.length c, .int .i64 F.top])] H (fun u H' => ∃ a' c', u = .tuple (List.toArray [.agg (List.toArray [.int .i64 (sizedF F).vars, slV a' 0 (sizedF F).nodes.length c', .int .i64 (sizedF F).top]), .int .i64 ((sizedE F).getD 0)]) ∧ RNodes N a' 0 (sizedF F).nodes ∧ H = H') := by
  refine Gives.enter Try.func39 rfl (by exact Try.ntmps39) rfl ?_
  refine Tri.seq (Tri.region ?_)
  refine TOps.boxN rfl ti24 rfl rfl (fun b1 => ?_)
  refine TOps.alloc ti24 rfl (fun b2 => ?_)
  refine TOps.assign rfl rfl ?_
  refine TOps.next ?_
  refine Tri.seq ?_
  refine Tri.seq (Tri.region ?_)
  first | refine TOps.fieldB 1 rfl Try.underlying24 rfl rfl ti22 rfl rfl rfl ?_ | refine TOps.fieldN 1 rfl Try.underlying24 rfl rfl ti22 rfl rfl rfl ?_
  refine TOps.load1 rfl ti22 (by first | exact Rd.lit (by repeat (first | exact List.Mem.head _ | apply List.Mem.tail)) rfl | (repeat (first | assumption | exact Rd.fld (by assumption) 1 rfl | apply Rd.up))) rfl ?_
  refine TOps.len rfl Try.underlying22 rfl ?_
  refine TOps.gtr rfl rfl rfl ?_
  refine TOps.next ?_
  refine Tri.cond rfl (fun hc1 => ?_) (fun hc1 => ?_)
  · try simp only [decide_eq_true_eq, decide_eq_false_iff_not, Bool.and_eq_true, Bool.or_eq_true, Bool.not_eq_true', Bool.and_eq_false_iff, Bool.or_eq_false_iff, Bool.not_eq_false', Int.not_lt, Int.not_le, ne_eq, Decidable.not_not, Option.isSome_iff_ne_none, Option.isNone_iff_eq_none] at hc1
    refine Tri.seq (Tri.region ?_)
    refine TOps.buildStruct (vs := []) (xs := [_, _, _]) [(0, 1), (1, 1), (2, 1)] Try.underlying24 ti24 (fun w => by simp) trivial rfl rfl ?_
    refine TOps.storeN rfl rfl ti24 rfl rfl (by repeat (first | exact Upd.here | apply Upd.there)) (by first | decide | (simp; done) | (simp; omega)) ?_
    refine TOps.assign rfl rfl ?_
    refine TOps.next ?_
    refine Tri.ret2 (H' := H) Try.results39 (fun _ _ h => h) (.cellN rfl rfl ti24 (Rd.all (by repeat (first | exact List.Mem.head _ | apply List.Mem.tail))) rfl) (.tmp rfl) (Le.drop (Le.drop (Le.refl _))) ⟨none, 0, ?_, ?_, rfl⟩
    · rw [show sizedF F = Fm.zero from if_pos (by omega), show sizedE F = some 4 from if_pos (by omega)]; rfl
    · rw [show sizedF F = Fm.zero from if_pos (by omega)]; exact .inl rfl
  try simp only [decide_eq_true_eq, decide_eq_false_iff_not, Bool.and_eq_true, Bool.or_eq_true, Bool.not_eq_true', Bool.and_eq_false_iff, Bool.or_eq_false_iff, Bool.not_eq_false', Int.not_lt, Int.not_le, ne_eq, Decidable.not_not, Option.isSome_iff_ne_none, Option.isNone_iff_eq_none] at hc1
  refine Tri.fin ?_
  refine Nrm.next ?_
  refine Tri.seq (Tri.region ?_)
  refine TOps.loadN rfl ti24 (by first | exact Rd.all (by repeat (first | exact List.Mem.head _ | apply List.Mem.tail)) | (repeat (first | assumption | apply Rd.up))) rfl rfl ?_
  refine TOps.storeN rfl rfl ti24 rfl rfl (by repeat (first | exact Upd.here | apply Upd.there)) (by first | decide | (simp; done) | (simp; omega)) ?_
  refine TOps.assign rfl rfl ?_
  refine TOps.next ?_
  refine Tri.ret2 (H' := H) Try.results39 (fun _ _ h => h) (.cellN rfl rfl ti24 (Rd.all (by repeat (first | exact List.Mem.head _ | apply List.Mem.tail))) rfl) (.tmp rfl) (Le.drop (Le.drop (Le.refl _))) ⟨a, c, ?_, ?_, rfl⟩
  · rw [show sizedF F = F from if_neg (by omega), show sizedE F = none from if_neg (by omega)]; rfl
  · rw [show sizedF F = F from if_neg (by omega)]; exact hN
end Go.Proofs
