import Derived.Test.YtffghipagnjggaaG27
import Derived.Test.YtffghipagnjggaaGL86
namespace Go.Proofs
open Go.GL
set_option linter.unusedVariables false
set_option linter.unusedSimpArgs false
set_option maxHeartbeats 1000000 in
theorem rxor_g {HB : List Ent} {bb : Nat} {v : Int} {ms : MS} {s : BS} (hs : s.ok ms.ns) (ho : ms.Ok) (hv : 0 ≤ v ∧ v ≤ 24) {aa : Option Nat} {ac m : Nat} {args : List Int} (hm : args.length = m) (hne : args ≠ []) (hlen : m ≤ 16) (hsm : ∀ a ∈ args, Small a) (ha : RInts HB aa 0 args none) (hac : m ≤ ac) (hac2 : ac ≤ 9223372036854775807) :
    Gives Try.prog 49 [.pointer (some ⟨bb, 0, none⟩), slV aa 0 m ac] (mkE 69 43 bb v ms s HB) (MkR 69 43 bb v (xorM v args ms) HB) := by
  obtain ⟨x0, xr, hxr⟩ := List.exists_cons_of_ne_nil hne
  have hR : xorM v args ms = chainX (xor1 v) xr (x0, ms) := by unfold xorM; rw [hxr]; rfl
  have hl : m = xr.length + 1 := by rw [← hm, hxr]; rfl
  rw [hxr] at ha hsm
  rw [hl] at hac hlen ⊢
  obtain ⟨ab, rfl, _, h0⟩ := ha.at (i := 0) (by simp)
  simp only [List.getElem_cons_zero, Nat.add_zero] at h0
  have hx0 := hsm x0 List.mem_cons_self
  refine Gives.enter Try.func49 rfl (by exact Try.ntmps49) rfl ?_
  refine Tri.seq (Tri.region ?_)
  refine TOps.assign rfl rfl ?_
  refine TOps.next ?_
  refine Tri.seq (Tri.region ?_)
  refine TOps.move rfl rfl ?_
  refine TOps.indexAddr (off' := 0) rfl rfl Try.underlying41 ti3 (by omega) (by omega) (by simp) rfl ?_
  refine TOps.load1 rfl ti3 (Rd.le h0 mkE_le) rfl ?_
  refine TOps.assign rfl rfl ?_
  refine TOps.next ?_
  refine Tri.seq ?_
  refine Tri.seq (Tri.region ?_)
  refine TOps.move rfl rfl ?_
  refine TOps.sliceLo (l := 1) rfl rfl Try.underlying41 ti3 (by omega) rfl ?_
  obtain ⟨xo', hxo'⟩ : ∃ xo', (bif ac == 1 then 0 else 0 + 1 * 1) = xo' := ⟨_, rfl⟩
  rw [hxo']
  have hxr1 : ∀ j, j < xr.length → xo' = 1 := fun j hj => by rw [← hxo', show (ac == 1) = false from beq_eq_false_iff_ne.2 (by omega)]; rfl
  rw [show xr.length + 1 - 1 = xr.length from rfl]
  refine TOps.len rfl Try.underlying41 rfl ?_
  refine TOps.move rfl rfl ?_
  refine TOps.next ?_
  refine Tri.range (X := BS) (fun z k => [(0, .pointer (some ⟨bb, 0, none⟩)), (5, .int .i64 (chainX (xor1 v) (xr.take k) (x0, ms)).1), (14, slV (some ab) xo' xr.length (ac - 1))]) (fun z k => mkE 69 43 bb v (chainX (xor1 v) (xr.take k) (x0, ms)).2 z HB) (fun z k => z.ok (chainX (xor1 v) (xr.take k) (x0, ms)).2.ns) (by omega) rfl rfl rfl (fun _ _ => ⟨rfl, rfl, rfl, rfl⟩) s hs ⟨rfl, rfl, rfl, trivial⟩ (Le.refl _) (fun k z hlt hp => ?_) (fun z ac wc hp hS hM => ?_)
  · skip
    obtain ⟨g0, sm0⟩ := chainX_ok (f := xor1 v) (fun y r hr => xor1_ok hv y hr) (xr.take k) (x0, ms) ho hx0
    have oW := g0.ok ho
    obtain ⟨W, hW⟩ : ∃ W, chainX (xor1 v) (xr.take k) (x0, ms) = W := ⟨_, rfl⟩
    have hWn : chainX (xor1 v) (xr.take (k + 1)) (x0, ms) = xor1 v xr[k] W := by rw [List.take_succ_eq_append_getElem hlt, chainX_snoc, hW]
    rw [hW] at hp g0 sm0 oW ⊢
    obtain ⟨r1, hr1⟩ : ∃ r, addM v ⟨1, 0, [xr[k]]⟩ W.2 = r := ⟨_, rfl⟩
    have o1 : r1.2.Ok := by rw [← hr1]; exact (addM_gr _ _ _).ok oW
    obtain ⟨r2, hr2⟩ : ∃ r, addM v ⟨2, 0, [W.1, r1.1]⟩ r1.2 = r := ⟨_, rfl⟩
    have o2 : r2.2.Ok := by rw [← hr2]; exact (addM_gr _ _ _).ok o1
    obtain ⟨r3', hr3⟩ : ∃ r, addM v ⟨1, 0, [W.1]⟩ r2.2 = r := ⟨_, rfl⟩
    have o3 : r3'.2.Ok := by rw [← hr3]; exact (addM_gr _ _ _).ok o2
    obtain ⟨r4, hr4⟩ : ∃ r, addM v ⟨2, 0, [r3'.1, xr[k]]⟩ r3'.2 = r := ⟨_, rfl⟩
    have o4 : r4.2.Ok := by rw [← hr4]; exact (addM_gr _ _ _).ok o3
    obtain ⟨r5, hr5⟩ : ∃ r, addM v ⟨3, 0, [r2.1, r4.1]⟩ r4.2 = r := ⟨_, rfl⟩
    have hW5 : xor1 v xr[k] W = r5 := by unfold xor1; dsimp only; rw [hr1, hr2, hr3, hr4, hr5]
    obtain ⟨xb, e', _, hxi⟩ := ha.at (i := k + 1) (by simp; omega)
    obtain rfl := Option.some.inj e'
    rw [List.getElem_cons_succ] at hxi
    have hx1 := hxr1 k hlt
    refine Tri.seq (Tri.region ?_)
    refine TOps.indexAddr (off' := 1 + k) rfl rfl Try.underlying41 ti3 (by omega) (by omega) (by omega) rfl ?_
    refine TOps.load1 rfl ti3 (Rd.le (show Rd HB ab (1 + k) [.int .i64 xr[k]] by rw [show 1 + k = 0 + (k + 1) by omega]; exact hxi) mkE_le) rfl ?_
    refine TOps.assign rfl rfl ?_
    refine TOps.next ?_
    refine Tri.seq (Tri.region ?_)
    refine TOps.move rfl rfl ?_
    refine TOps.move rfl rfl ?_
    refine TOps.move rfl rfl ?_
    refine TOps.move rfl rfl ?_
    refine TOps.buildSlice (vs := [_]) (xs := [_]) Try.underlying41 ti3 ⟨rfl, rfl, trivial⟩ rfl rfl rfl rfl rfl rfl (by decide) rfl (fun b24 => ?_)
    refine TOps.call (vs := [_, _, _, _]) Try.call50 ⟨rfl, rfl, rfl, rfl, trivial⟩ (rnode27_g (A := [row (some b24) 3 1 1 [.int .i64 xr[k]]]) (args := [xr[k]]) (m := 1) hp hv oW rfl (by omega) (RdS.ofRowS (List.Mem.head _)) 1 0) rfl ?_
    rintro _ _ ⟨s1, rfl, hs1, rfl⟩
    rw [hr1] at hs1 ⊢
    refine TOps.buildSlice (vs := [_, _]) (xs := [_, _]) Try.underlying41 ti3 ⟨rfl, rfl, rfl, rfl, trivial⟩ rfl rfl rfl rfl rfl rfl (by decide) rfl (fun b26 => ?_)
    refine TOps.call (vs := [_, _, _, _]) Try.call50 ⟨rfl, rfl, rfl, rfl, trivial⟩ (rnode27_g (A := [row (some b26) 3 1 2 [.int .i64 W.1, .int .i64 r1.1]]) (args := [W.1, r1.1]) (m := 2) hs1 hv o1 rfl (by omega) (RdS.ofRowS (List.Mem.head _)) 2 0) rfl ?_
    rintro _ _ ⟨s2, rfl, hs2, rfl⟩
    rw [hr2] at hs2 ⊢
    refine TOps.assign rfl rfl ?_
    refine TOps.next ?_
    refine Tri.seq (Tri.region ?_)
    refine TOps.move rfl rfl ?_
    refine TOps.move rfl rfl ?_
    refine TOps.move rfl rfl ?_
    refine TOps.buildSlice (vs := [_]) (xs := [_]) Try.underlying41 ti3 ⟨rfl, rfl, trivial⟩ rfl rfl rfl rfl rfl rfl (by decide) rfl (fun b31 => ?_)
    refine TOps.call (vs := [_, _, _, _]) Try.call50 ⟨rfl, rfl, rfl, rfl, trivial⟩ (rnode27_g (A := [row (some b31) 3 1 1 [.int .i64 W.1]]) (args := [W.1]) (m := 1) hs2 hv o2 rfl (by omega) (RdS.ofRowS (List.Mem.head _)) 1 0) rfl ?_
    rintro _ _ ⟨s3, rfl, hs3, rfl⟩
    rw [hr3] at hs3 ⊢
    refine TOps.move rfl rfl ?_
    refine TOps.buildSlice (vs := [_, _]) (xs := [_, _]) Try.underlying41 ti3 ⟨rfl, rfl, rfl, rfl, trivial⟩ rfl rfl rfl rfl rfl rfl (by decide) rfl (fun b34 => ?_)
    refine TOps.call (vs := [_, _, _, _]) Try.call50 ⟨rfl, rfl, rfl, rfl, trivial⟩ (rnode27_g (A := [row (some b34) 3 1 2 [.int .i64 r3'.1, .int .i64 xr[k]]]) (args := [r3'.1, xr[k]]) (m := 2) hs3 hv o3 rfl (by omega) (RdS.ofRowS (List.Mem.head _)) 2 0) rfl ?_
    rintro _ _ ⟨s4, rfl, hs4, rfl⟩
    rw [hr4] at hs4 ⊢
    refine TOps.assign rfl rfl ?_
    refine TOps.next ?_
    refine Tri.region ?_
    refine TOps.move rfl rfl ?_
    refine TOps.move rfl rfl ?_
    refine TOps.move rfl rfl ?_
    refine TOps.buildSlice (vs := [_, _]) (xs := [_, _]) Try.underlying41 ti3 ⟨rfl, rfl, rfl, rfl, trivial⟩ rfl rfl rfl rfl rfl rfl (by decide) rfl (fun b39 => ?_)
    refine TOps.call (vs := [_, _, _, _]) Try.call50 ⟨rfl, rfl, rfl, rfl, trivial⟩ (rnode27_g (A := [row (some b39) 3 1 2 [.int .i64 r2.1, .int .i64 r4.1]]) (args := [r2.1, r4.1]) (m := 2) hs4 hv o4 rfl (by omega) (RdS.ofRowS (List.Mem.head _)) 3 0) rfl ?_
    rintro _ _ ⟨s5, rfl, hs5, rfl⟩
    rw [hr5] at hs5 ⊢
    refine TOps.assign rfl rfl ?_
    refine TOps.fin ?_
    refine Nrm.body s5 (by rw [hWn, hW5]; exact hs5) ⟨rfl, rfl, rfl, (by rw [hWn, hW5]; rfl), rfl, trivial⟩ (by rw [hWn, hW5]; exact Le.refl _)
  rw [List.take_length] at hM hS hp
  refine Nrm.of hS hM ?_
  refine Nrm.next ?_
  refine Tri.seq (Tri.region ?_)
  refine TOps.move rfl rfl ?_
  refine TOps.assign rfl rfl ?_
  refine TOps.next ?_
  refine Tri.ret1 (H' := mkE 69 43 bb v (chainX (xor1 v) xr (x0, ms)).2 z HB) Try.results49 (fun _ _ h => h) (.tmp rfl) (Le.refl _) ⟨z, by rw [hR], by rw [hR]; exact hp, by rw [hR]⟩
theorem result27_g {HB : List Ent} {bb : Nat} {v : Int} {ms : MS} {s : BS} (hs : s.ok ms.ns) (top : Int) :
    Gives Try.prog 42 [.pointer (some ⟨bb, 0, none⟩), .int .i64 top] (mkE 69 43 bb v ms s HB) (NewNum (resF v ms top) (resE ms) HB) := by
  refine Gives.enter Try.func42 rfl (by exact Try.ntmps42) rfl ?_
  unfold mkE
  refine Tri.seq (Tri.region ?_)
  refine TOps.alloc ti24 rfl (fun b4 => ?_)
  refine TOps.assign rfl rfl ?_
  refine TOps.next ?_
  refine Tri.seq ?_
  refine Tri.seq (Tri.region ?_)
  refine TOps.move rfl rfl ?_
  refine TOps.nilCheck rfl rfl ?_
  first | refine TOps.fieldB 2 rfl Try.underlying69 rfl rfl ti4 rfl rfl rfl ?_ | refine TOps.fieldN 2 rfl Try.underlying69 rfl rfl ti4 rfl rfl rfl ?_
  refine TOps.load1 rfl ti4 (by first | exact Rd.lit (by repeat (first | exact List.Mem.head _ | apply List.Mem.tail)) rfl | (repeat (first | assumption | exact Rd.fld (by assumption) 2 rfl | apply Rd.up))) rfl ?_
  refine TOps.next ?_
  refine Tri.cond rfl (fun hc1 => ?_) (fun hc1 => ?_)
  · try simp only [decide_eq_true_eq, decide_eq_false_iff_not, Bool.and_eq_true, Bool.or_eq_true, Bool.not_eq_true', Bool.and_eq_false_iff, Bool.or_eq_false_iff, Bool.not_eq_false', Int.not_lt, Int.not_le, ne_eq, Decidable.not_not, Option.isSome_iff_ne_none, Option.isNone_iff_eq_none] at hc1
    have e1 : resF v ms top = Fm.zero := if_pos hc1
    have e2 : resE ms = some 4 := if_pos hc1
    refine Tri.seq (Tri.region ?_)
    refine TOps.buildStruct (vs := []) (xs := [_, _, _]) [(0, 1), (1, 1), (2, 1)] Try.underlying24 ti24 (fun w => by simp) trivial rfl rfl ?_
    refine TOps.storeN rfl rfl ti24 rfl rfl (by repeat (first | exact Upd.here | apply Upd.there)) (by first | decide | (simp; done) | (simp; omega)) ?_
    refine TOps.assign rfl rfl ?_
    refine TOps.next ?_
    refine Tri.ret2 (H' := HB) Try.results42 (fun _ _ h => h) (.cellN rfl rfl ti24 (Rd.all (by repeat (first | exact List.Mem.head _ | apply List.Mem.tail))) rfl) (.tmp rfl) (Le.drop (Le.drop (Le.drop (Le.sub (List.sublist_append_right _ _))))) ⟨none, 0, [], by rw [e1, e2]; rfl, by rw [e1]; exact .inl rfl, rfl⟩
  try simp only [decide_eq_true_eq, decide_eq_false_iff_not, Bool.and_eq_true, Bool.or_eq_true, Bool.not_eq_true', Bool.and_eq_false_iff, Bool.or_eq_false_iff, Bool.not_eq_false', Int.not_lt, Int.not_le, ne_eq, Decidable.not_not, Option.isSome_iff_ne_none, Option.isNone_iff_eq_none] at hc1
  have hfu : ms.full = false := by simpa using hc1
  have e1 : resF v ms top = ⟨v, ms.ns, top⟩ := if_neg (by rw [hfu]; decide)
  have e2 : resE ms = none := if_neg (by rw [hfu]; decide)
  refine Tri.fin ?_
  refine Nrm.next ?_
  refine Tri.seq ?_
  obtain ⟨HX, hHX⟩ : ∃ HX, row s.oa 43 3 s.cap (nsCells ms.ns s.qs) :: (s.N ++ HB) = HX := ⟨_, rfl⟩
  rw [hHX]
  refine Tri.drawX (X := Unit) rfl [(0, .pointer (some ⟨bb, 0, none⟩)), (1, .int .i64 top), (4, .pointer (some ⟨b4, 0, none⟩))] [] (fun x => [_, _, _, _, _, _, _, _, _, .agg (List.toArray [.int .i64 v, slV s.oa 0 ms.ns.length s.cap, .int .i64 top]), undef, _]) (fun x c => match c with | 0 => row (some b4) 24 3 1 [.int .i64 0, slV none 0 0 0, .int .i64 0] :: row (some bb) 69 3 1 [.int .i64 v, slV s.oa 0 ms.ns.length s.cap, .bool ms.full] :: HX | _ + 1 => row (some b4) 24 3 1 [.int .i64 v, slV s.oa 0 ms.ns.length s.cap, .int .i64 top] :: row (some bb) 69 3 1 [.int .i64 v, slV s.oa 0 ms.ns.length s.cap, .bool ms.full] :: HX) [10] () [11] rfl rfl ⟨rfl, rfl, rfl, trivial⟩ trivial (by repeat (first | exact Le.refl _ | assumption | apply Le.drop)) (by
    refine ⟨?_, ?_, ?_, ?_, ?_, ?_, ?_, ?_, ?_, ?_, ?_, ?_, trivial⟩
    · refine ⟨fun x S c he hw hd hc hcu hm _ => ?_, trivial⟩
      refine TOps.move (he _ _ rfl) rfl ?_
      exact TOps.fin (Nrm.draw x (fun _ _ _ => rfl) rfl (by first | exact Le.refl _ | assumption | exact (by repeat (first | exact Le.refl _ | assumption | apply Le.drop))))
    · refine ⟨fun x S c he hw hd hc hcu hm _ => ?_, trivial⟩
      obtain ⟨h0, -⟩ := hd
      refine TOps.nilCheck h0 rfl ?_
      exact TOps.fin (Nrm.draw x (fun _ _ _ => rfl) rfl (by first | exact Le.refl _ | assumption | exact (by repeat (first | exact Le.refl _ | assumption | apply Le.drop))))
    · refine ⟨fun x S c he hw hd hc hcu hm _ => ?_, trivial⟩
      obtain ⟨h1, -⟩ := hd
      refine TOps.field0 h1 Try.underlying69 rfl rfl ti3 rfl rfl rfl ?_
      exact TOps.fin (Nrm.draw x (fun _ _ _ => rfl) rfl (by first | exact Le.refl _ | assumption | exact (by repeat (first | exact Le.refl _ | assumption | apply Le.drop))))
    · refine ⟨fun x S c he hw hd hc hcu hm _ => ?_, trivial⟩
      obtain ⟨h2, -⟩ := hd
      obtain rfl : c = 0 := by have : c ≤ 0 := hcu; omega
      refine TOps.load1 h2 ti3 (Rd.fld (Rd.all (List.Mem.tail _ (List.Mem.head _))) 0 rfl) rfl ?_
      exact TOps.fin (Nrm.draw x (fun _ _ _ => rfl) rfl (by first | exact Le.refl _ | assumption | exact (by repeat (first | exact Le.refl _ | assumption | apply Le.drop))))
    · refine ⟨fun x S c he hw hd hc hcu hm _ => ?_, trivial⟩
      refine TOps.move (he _ _ rfl) rfl ?_
      exact TOps.fin (Nrm.draw x (fun _ _ _ => rfl) rfl (by first | exact Le.refl _ | assumption | exact (by repeat (first | exact Le.refl _ | assumption | apply Le.drop))))
    · refine ⟨fun x S c he hw hd hc hcu hm _ => ?_, trivial⟩
      obtain ⟨h4, -⟩ := hd
      refine TOps.nilCheck h4 rfl ?_
      exact TOps.fin (Nrm.draw x (fun _ _ _ => rfl) rfl (by first | exact Le.refl _ | assumption | exact (by repeat (first | exact Le.refl _ | assumption | apply Le.drop))))
    · refine ⟨fun x S c he hw hd hc hcu hm _ => ?_, trivial⟩
      obtain ⟨h5, -⟩ := hd
      first | refine TOps.fieldB 1 h5 Try.underlying69 rfl rfl ti22 rfl rfl rfl ?_ | refine TOps.fieldN 1 h5 Try.underlying69 rfl rfl ti22 rfl rfl rfl ?_
      exact TOps.fin (Nrm.draw x (fun _ _ _ => rfl) rfl (by first | exact Le.refl _ | assumption | exact (by repeat (first | exact Le.refl _ | assumption | apply Le.drop))))
    · refine ⟨fun x S c he hw hd hc hcu hm _ => ?_, trivial⟩
      obtain ⟨h6, -⟩ := hd
      obtain rfl : c = 0 := by have : c ≤ 0 := hcu; omega
      refine TOps.load1 h6 ti22 (Rd.fld (Rd.all (List.Mem.tail _ (List.Mem.head _))) 1 rfl) rfl ?_
      exact TOps.fin (Nrm.draw x (fun _ _ _ => rfl) rfl (by first | exact Le.refl _ | assumption | exact (by repeat (first | exact Le.refl _ | assumption | apply Le.drop))))
    · refine ⟨fun x S c he hw hd hc hcu hm _ => ?_, trivial⟩
      refine TOps.move (he _ _ rfl) rfl ?_
      exact TOps.fin (Nrm.draw x (fun _ _ _ => rfl) rfl (by first | exact Le.refl _ | assumption | exact (by repeat (first | exact Le.refl _ | assumption | apply Le.drop))))
    · refine ⟨fun x S c he hw hd hc hcu hm _ => ?_, trivial⟩
      obtain ⟨h3, h7, h8, -⟩ := hd
      refine TOps.buildStruct (vs := [(0, _), (1, _), (2, _)]) (xs := [_, _, _]) [(0, 1), (1, 1), (2, 1)] Try.underlying24 ti24 (fun w => by simp) ⟨rfl, h3, rfl, h7, rfl, h8, trivial⟩ rfl rfl ?_
      exact TOps.fin (Nrm.draw x (fun _ _ _ => rfl) rfl (by first | exact Le.refl _ | assumption | exact (by repeat (first | exact Le.refl _ | assumption | apply Le.drop))))
    · refine ⟨fun x S c he hw hd hc hcu hm _ => ?_, trivial⟩
      obtain ⟨h9, h0, h1, h2, h3, h4, h5, h6, h7, h8, _, -⟩ := hd
      obtain rfl : c = 0 := hm rfl
      refine TOps.storeN (he _ _ rfl) h9 ti24 rfl rfl Upd.here (by first | decide | (simp; done) | (simp; omega)) ?_
      exact TOps.fin (Nrm.draw x (fun _ _ _ => rfl) rfl (by first | exact Le.refl _ | assumption | exact (by repeat (first | exact Le.refl _ | assumption | apply Le.drop))))
    · refine ⟨fun x S c he hw hd hc hcu hm _ => ?_, trivial⟩
      obtain ⟨h10, h0, h1, h2, h3, h4, h5, h6, h7, h8, h9, _, -⟩ := hd
      refine TOps.assign rfl rfl ?_
      exact TOps.fin (Nrm.draw x (fun _ _ _ => rfl) rfl (by first | exact Le.refl _ | assumption | exact (by repeat (first | exact Le.refl _ | assumption | apply Le.drop))))
    ) (fun u0 => ?_)
  refine Nrm.next ?_
  subst hHX
  refine Tri.ret2 (H' := (row s.oa 43 3 s.cap (nsCells ms.ns s.qs) :: s.N) ++ HB) Try.results42 (fun _ _ h => h) (.cellN rfl rfl ti24 (Rd.all (by repeat (first | exact List.Mem.head _ | apply List.Mem.tail))) rfl) (.tmp rfl) (Le.drop (Le.drop (Le.refl _))) ⟨s.oa, s.cap, row s.oa 43 3 s.cap (nsCells ms.ns s.qs) :: s.N, by rw [e1, e2]; rfl, ?_, rfl⟩
  rw [e1]
  exact RNodes.ofA (E := 43) (sz := 3) (cap := s.cap) (List.Mem.head _) (hs.a.le (Le.drop (Le.refl _))) hs.o
end Go.Proofs
