import Derived.Test.YtffghipagnjggaaNU
import Derived.Test.YtffghipagnjggaaGL81
namespace Go.Proofs
open Go.GL
set_option linter.unusedVariables false
set_option linter.unusedSimpArgs false
theorem cloneInts_g {H : List Ent} {xs : List Int} {a sp : Option Nat} {off cap n : Nat} (hn : xs.length = n) (hr : RInts H a off xs sp) (hl : n ≤ 1000000) :
    Gives Try.prog 51 [slV a off n cap sp] H (NewS 3 (ints xs) n H) := by
  subst hn
  have hr0 : RdS H a off (ints xs) sp := hr
  clear hr
  refine Gives.enter Try.func51 rfl (by exact Try.ntmps51) rfl ?_
  refine Tri.seq (Tri.region ?_)
  refine TOps.assign rfl rfl ?_
  refine TOps.next ?_
  refine Tri.seq ?_
  refine Tri.seq (Tri.region ?_)
  refine TOps.move rfl rfl ?_
  refine TOps.eqlSlNil rfl Try.underlying41 rfl ?_
  refine TOps.next ?_
  refine Tri.cond rfl (fun hc1 => ?_) (fun hc1 => ?_)
  · try simp only [decide_eq_true_eq, decide_eq_false_iff_not, Bool.and_eq_true, Bool.or_eq_true, Bool.not_eq_true', Bool.and_eq_false_iff, Bool.or_eq_false_iff, Bool.not_eq_false', Int.not_lt, Int.not_le, ne_eq, Decidable.not_not, Option.isSome_iff_ne_none, Option.isNone_iff_eq_none] at hc1
    subst hc1
    have hx := RdS.none hr0
    obtain rfl : xs = [] := by simpa using hx
    refine Tri.seq (Tri.region ?_)
    refine TOps.assign rfl rfl ?_
    refine TOps.next ?_
    refine Tri.ret1 (H' := _) Try.results51 (fun _ _ h => h) (.tmp rfl) Le.addNil ⟨none, 0, rfl, by simp, rfl⟩
  try simp only [decide_eq_true_eq, decide_eq_false_iff_not, Bool.and_eq_true, Bool.or_eq_true, Bool.not_eq_true', Bool.and_eq_false_iff, Bool.or_eq_false_iff, Bool.not_eq_false', Int.not_lt, Int.not_le, ne_eq, Decidable.not_not, Option.isSome_iff_ne_none, Option.isNone_iff_eq_none] at hc1
  refine Tri.fin ?_
  refine Nrm.next ?_
  refine Tri.seq (Tri.region ?_)
  refine TOps.buildSlice0 Try.underlying41 ti3 rfl (fun b5 => ?_)
  replace hr0 := hr0.up (e := row (some b5) 3 1 0 [])
  refine TOps.move rfl rfl ?_
  refine TOps.append (ys := ints xs) rfl rfl Try.underlying41 ti3 rfl (fun _ _ => Upd.here) hr0 (by simp) rfl (oneInts xs) (by omega) (by omega) rfl (fun a' cap' h0 => ?_)
  refine TOps.assign rfl rfl ?_
  refine TOps.next ?_
  refine Tri.ret1 (H' := _) Try.results51 (fun _ _ h => h) (.tmp rfl) (Le.refl _) ⟨a', cap', by rw [Nat.zero_add], h0, rfl⟩
set_option maxHeartbeats 1000000 in
theorem padd_g {A HB : List Ent} {bb : Nat} {v : Int} {ms : MS} {s : BS} (hs : s.ok ms.ns) (hv : 0 ≤ v ∧ v ≤ 24) (ho : ms.Ok) {aa asp : Option Nat} {ao ac m : Nat} {args : List Int} (hml : args.length = m) (hm2 : m ≤ 1000) (ha : RInts (A ++ HB) aa ao args asp) (kind kk : Int) :
    Gives Try.prog 37 [.pointer (some ⟨bb, 0, none⟩), .int .i64 kind, .int .i64 kk, slV aa ao m ac asp] (A ++ mkE 66 43 bb v ms s HB) (MkR 66 43 bb v (addM v ⟨kind, kk, args⟩ ms) HB) := by
  obtain ⟨ns, full⟩ := ms
  dsimp only at hs
  unfold MS.Ok at ho
  dsimp only at ho
  have hcl : (nsCells ns s.qs).length = ns.length * 3 := nsCells_length _ _ hs.a.1
  have hac : RInts (s.N ++ (A ++ HB)) aa ao args asp := RdS.le ha (Le.sub (List.sublist_append_right _ _))
  obtain ⟨n, hnn⟩ : ∃ n, ns.length = n := ⟨_, rfl⟩
  rw [hnn] at hcl ho
  refine Gives.enter Try.func37 rfl (by exact Try.ntmps37) rfl ?_
  refine Tri.le (mkE_inA A) ?_
  unfold mkE
  dsimp only
  obtain ⟨oa, ho2⟩ : ∃ oa, s.oa = oa := ⟨_, rfl⟩
  obtain ⟨ocap, hc⟩ : ∃ ocap, s.cap = ocap := ⟨_, rfl⟩
  obtain ⟨CS, hCS⟩ : ∃ CS, nsCells ns s.qs = CS := ⟨_, rfl⟩
  obtain ⟨HX, hHX⟩ : ∃ HX, s.N ++ (A ++ HB) = HX := ⟨_, rfl⟩
  rw [ho2, hc, hCS, hHX, hnn]
  rw [hCS] at hcl
  rw [hHX] at hac
  refine Tri.seq (Tri.region ?_)
  refine TOps.assign rfl rfl ?_
  refine TOps.next ?_
  refine Tri.seq ?_
  refine Tri.seq (Tri.region ?_)
  refine TOps.move rfl rfl ?_
  refine TOps.nilCheck rfl rfl ?_
  first | refine TOps.fieldB 1 rfl Try.underlying66 rfl rfl ti22 rfl rfl rfl ?_ | refine TOps.fieldN 1 rfl Try.underlying66 rfl rfl ti22 rfl rfl rfl ?_
  refine TOps.load1 rfl ti22 (by first | exact Rd.lit (by repeat (first | exact List.Mem.head _ | apply List.Mem.tail)) rfl | (repeat (first | assumption | exact Rd.fld (by assumption) 1 rfl | apply Rd.up))) rfl ?_
  refine TOps.len rfl Try.underlying22 rfl ?_
  refine TOps.geq rfl rfl rfl ?_
  refine TOps.next ?_
  refine Tri.cond rfl (fun hc1 => ?_) (fun hc1 => ?_)
  · try simp only [decide_eq_true_eq, decide_eq_false_iff_not, Bool.and_eq_true, Bool.or_eq_true, Bool.not_eq_true', Bool.and_eq_false_iff, Bool.or_eq_false_iff, Bool.not_eq_false', Int.not_lt, Int.not_le, ne_eq, Decidable.not_not, Option.isSome_iff_ne_none, Option.isNone_iff_eq_none] at hc1
    have hfu : addM v ⟨kind, kk, args⟩ ⟨ns, full⟩ = (0, ⟨ns, true⟩) := addM_full (by dsimp only; omega)
    refine Tri.seq (Tri.region ?_)
    refine TOps.move rfl rfl ?_
    refine TOps.nilCheck rfl rfl ?_
    first | refine TOps.fieldB 2 rfl Try.underlying66 rfl rfl ti4 rfl rfl rfl ?_ | refine TOps.fieldN 2 rfl Try.underlying66 rfl rfl ti4 rfl rfl rfl ?_
    refine TOps.store1 rfl rfl ti4 rfl rfl (by repeat (first | exact Upd.here | apply Upd.there)) (by first | decide | (simp; done) | (simp; omega) | exact (show (2 : Nat) < 3 by decide)) ?_
    refine TOps.next ?_
    refine Tri.seq (Tri.region ?_)
    refine TOps.assign rfl rfl ?_
    refine TOps.next ?_
    subst hHX
    refine Tri.ret1 (H' := mkE 66 43 bb v ⟨ns, true⟩ s HB) Try.results37 (fun _ _ h => h) (.tmp rfl) (by rw [← ho2, ← hc, ← hCS, ← hnn]; exact mk_same) ⟨s, by rw [hfu], by rw [hfu]; exact hs, by rw [hfu]⟩
  try simp only [decide_eq_true_eq, decide_eq_false_iff_not, Bool.and_eq_true, Bool.or_eq_true, Bool.not_eq_true', Bool.and_eq_false_iff, Bool.or_eq_false_iff, Bool.not_eq_false', Int.not_lt, Int.not_le, ne_eq, Decidable.not_not, Option.isSome_iff_ne_none, Option.isNone_iff_eq_none] at hc1
  have hro : addM v ⟨kind, kk, args⟩ ⟨ns, full⟩ = (v + ns.length, ⟨ns ++ [⟨kind, kk, args⟩], full⟩) := addM_room (by dsimp only; omega)
  refine Tri.fin ?_
  refine Nrm.next ?_
  refine Tri.seq ?_
  refine Tri.drawX (X := OA (ints args) × Nat × Nat × Nat × Nat) rfl [(0, .pointer (some ⟨bb, 0, none⟩)), (1, .int .i64 kind), (2, .int .i64 kk), (3, slV aa ao m ac asp)] [] (fun x => [_, _, _, _, slV oa 0 n ocap, _, _, _, slV x.1.1 0 m x.2.1, .agg (List.toArray [.int .i64 kind, .int .i64 kk, slV x.1.1 0 m x.2.1]), slV (some x.2.2.1) 0 1 1, slV (some x.2.2.2.1) 0 (n + 1) x.2.2.2.2, _, _, undef]) (fun x c => match c with | 0 => row (some bb) 66 3 1 [.int .i64 v, slV oa 0 n ocap, .bool full] :: row oa 43 3 ocap CS :: HX | 1 => row x.1.1 3 1 x.2.1 (ints args) :: row (some bb) 66 3 1 [.int .i64 v, slV oa 0 n ocap, .bool full] :: row oa 43 3 ocap CS :: HX | 2 => row (some x.2.2.1) 43 3 1 [.int .i64 kind, .int .i64 kk, slV x.1.1 0 m x.2.1] :: row x.1.1 3 1 x.2.1 (ints args) :: row (some bb) 66 3 1 [.int .i64 v, slV oa 0 n ocap, .bool full] :: row oa 43 3 ocap CS :: HX | 3 => row x.1.1 3 1 x.2.1 (ints args) :: row (some bb) 66 3 1 [.int .i64 v, slV oa 0 n ocap, .bool full] :: row (some x.2.2.2.1) 43 3 x.2.2.2.2 (CS ++ [.int .i64 kind, .int .i64 kk, slV x.1.1 0 m x.2.1]) :: HX | _ + 4 => row x.1.1 3 1 x.2.1 (ints args) :: row (some bb) 66 3 1 [.int .i64 v, slV (some x.2.2.2.1) 0 (n + 1) x.2.2.2.2, .bool full] :: row (some x.2.2.2.1) 43 3 x.2.2.2.2 (CS ++ [.int .i64 kind, .int .i64 kk, slV x.1.1 0 m x.2.1]) :: HX) [8, 10, 11, 14] (OA.zero _, 0, 0, 0, 0) [] rfl rfl ⟨rfl, rfl, rfl, rfl, trivial⟩ trivial (by repeat (first | exact Le.refl _ | assumption | apply Le.drop)) (by
    refine ⟨?_, ?_, ?_, ?_, ?_, ?_, ?_, ?_, ?_, ?_, ?_, ?_, ?_, ?_, ?_, trivial⟩
    · refine ⟨fun x S c he hw hd hc hcu hm _ => ?_, trivial⟩
      refine TOps.move (he _ _ rfl) rfl ?_
      exact TOps.fin (Nrm.draw x (fun _ _ _ => rfl) rfl (by first | exact Le.refl _ | assumption | exact (by repeat (first | exact Le.refl _ | assumption | apply Le.drop))))
    · refine ⟨fun x S c he hw hd hc hcu hm _ => ?_, trivial⟩
      refine TOps.move (he _ _ rfl) rfl ?_
      exact TOps.fin (Nrm.draw x (fun _ _ _ => rfl) rfl (by first | exact Le.refl _ | assumption | exact (by repeat (first | exact Le.refl _ | assumption | apply Le.drop))))
    · refine ⟨fun x S c he hw hd hc hcu hm _ => ?_, trivial⟩
      obtain ⟨h1, -⟩ := hd
      refine TOps.nilCheck h1 rfl ?_
      exact TOps.fin (Nrm.draw x (fun _ _ _ => rfl) rfl (by first | exact Le.refl _ | assumption | exact (by repeat (first | exact Le.refl _ | assumption | apply Le.drop))))
    · refine ⟨fun x S c he hw hd hc hcu hm _ => ?_, trivial⟩
      obtain ⟨h2, -⟩ := hd
      first | refine TOps.fieldB 1 h2 Try.underlying66 rfl rfl ti22 rfl rfl rfl ?_ | refine TOps.fieldN 1 h2 Try.underlying66 rfl rfl ti22 rfl rfl rfl ?_
      exact TOps.fin (Nrm.draw x (fun _ _ _ => rfl) rfl (by first | exact Le.refl _ | assumption | exact (by repeat (first | exact Le.refl _ | assumption | apply Le.drop))))
    · refine ⟨fun x S c he hw hd hc hcu hm _ => ?_, trivial⟩
      obtain ⟨h3, -⟩ := hd
      rcases (show c = 0 ∨ c = 1 ∨ c = 2 by have : c ≤ 2 := hcu; omega) with rfl | rfl | rfl <;> refine TOps.load1 h3 ti22 (Rd.lit (by repeat (first | exact List.Mem.head _ | apply List.Mem.tail)) rfl) rfl ?_
      all_goals exact TOps.fin (Nrm.draw x (fun _ _ _ => rfl) rfl (Le.refl _))
    · refine ⟨fun x S c he hw hd hc hcu hm _ => ?_, trivial⟩
      refine TOps.move (he _ _ rfl) rfl ?_
      exact TOps.fin (Nrm.draw x (fun _ _ _ => rfl) rfl (by first | exact Le.refl _ | assumption | exact (by repeat (first | exact Le.refl _ | assumption | apply Le.drop))))
    · refine ⟨fun x S c he hw hd hc hcu hm _ => ?_, trivial⟩
      refine TOps.move (he _ _ rfl) rfl ?_
      exact TOps.fin (Nrm.draw x (fun _ _ _ => rfl) rfl (by first | exact Le.refl _ | assumption | exact (by repeat (first | exact Le.refl _ | assumption | apply Le.drop))))
    · refine ⟨fun x S c he hw hd hc hcu hm _ => ?_, trivial⟩
      refine TOps.move (he _ _ rfl) rfl ?_
      exact TOps.fin (Nrm.draw x (fun _ _ _ => rfl) rfl (by first | exact Le.refl _ | assumption | exact (by repeat (first | exact Le.refl _ | assumption | apply Le.drop))))
    · refine ⟨fun x S c he hw hd hc hcu hm _ => ?_, trivial⟩
      obtain ⟨h7, -⟩ := hd
      obtain rfl : c = 0 := hm rfl
      refine TOps.call (vs := [_]) Try.call51 ⟨h7, trivial⟩ (cloneInts_g hml (RdS.up (RdS.up hac)) (by omega)) rfl ?_
      rintro _ _ ⟨ca, cc, rfl, hca, rfl⟩
      refine TOps.fin (Nrm.draw (⟨ca, hca⟩, cc, x.2.2) ?_ rfl (Le.refl _))
      intro j hj hcj; rcases j with _|_|_|_|_|_|_|_|_|_|_|_|_|_|_|j <;> first | rfl | exact absurd rfl hj | exact absurd hcj (by decide)
    · refine ⟨fun x S c he hw hd hc hcu hm _ => ?_, trivial⟩
      obtain ⟨h5, h6, h8, -⟩ := hd
      refine TOps.buildStruct (vs := [(0, _), (1, _), (2, _)]) (xs := [_, _, _]) [(0, 1), (1, 1), (2, 1)] Try.underlying43 ti43 (fun w => by simp) ⟨rfl, h5, rfl, h6, rfl, h8, trivial⟩ rfl rfl ?_
      exact TOps.fin (Nrm.draw x (fun _ _ _ => rfl) rfl (by first | exact Le.refl _ | assumption | exact (by repeat (first | exact Le.refl _ | assumption | apply Le.drop))))
    · refine ⟨fun x S c he hw hd hc hcu hm _ => ?_, trivial⟩
      obtain ⟨h9, -⟩ := hd
      obtain rfl : c = 1 := hm rfl
      refine TOps.buildSlice (vs := [_]) (xs := [_, _, _]) Try.underlying22 ti43 ⟨rfl, h9, trivial⟩ rfl rfl rfl rfl rfl rfl (by decide) rfl (fun b28 => ?_)
      refine TOps.fin (Nrm.draw (x.1, x.2.1, b28, x.2.2.2) ?_ rfl (Le.refl _))
      intro j hj hcj; rcases j with _|_|_|_|_|_|_|_|_|_|_|_|_|_|_|j <;> first | rfl | exact absurd rfl hj | exact absurd hcj (by decide)
    · refine ⟨fun x S c he hw hd hc hcu hm _ => ?_, trivial⟩
      obtain ⟨h4, h10, h8, -⟩ := hd
      obtain rfl : c = 2 := hm rfl
      refine TOps.appendLit h4 h10 Try.underlying22 ti43 rfl (fun _ _ => (by repeat (first | exact Upd.here | apply Upd.there))) rfl hcl rfl (by omega) (by omega) (by simp) rfl (fun b66 cap66 => ?_)
      refine TOps.fin (Nrm.draw (x.1, x.2.1, x.2.2.1, b66, cap66) ?_ rfl (Le.refl _))
      intro j hj hcj; rcases j with _|_|_|_|_|_|_|_|_|_|_|_|_|_|_|j <;> first | rfl | exact absurd rfl hj | exact absurd hcj (by decide)
    · refine ⟨fun x S c he hw hd hc hcu hm _ => ?_, trivial⟩
      obtain ⟨h0, _, h1, h2, h3, h4, h5, h6, h7, h8, h9, h10, h11, -⟩ := hd
      refine TOps.nilCheck h0 rfl ?_
      exact TOps.fin (Nrm.draw x (fun _ _ _ => rfl) rfl (by first | exact Le.refl _ | assumption | exact (by repeat (first | exact Le.refl _ | assumption | apply Le.drop))))
    · refine ⟨fun x S c he hw hd hc hcu hm _ => ?_, trivial⟩
      obtain ⟨h12, h0, h1, h2, h3, h4, h5, h6, h7, h8, h9, h10, h11, -⟩ := hd
      first | refine TOps.fieldB 1 h12 Try.underlying66 rfl rfl ti22 rfl rfl rfl ?_ | refine TOps.fieldN 1 h12 Try.underlying66 rfl rfl ti22 rfl rfl rfl ?_
      exact TOps.fin (Nrm.draw x (fun _ _ _ => rfl) rfl (by first | exact Le.refl _ | assumption | exact (by repeat (first | exact Le.refl _ | assumption | apply Le.drop))))
    · refine ⟨fun x S c he hw hd hc hcu hm _ => ?_, trivial⟩
      obtain ⟨h13, h11, _, h0, h1, h2, h3, h4, h5, h6, h7, h8, h9, h10, _, -⟩ := hd
      obtain rfl : c = 3 := hm rfl
      refine TOps.store1 h13 h11 ti22 rfl rfl (by repeat (first | exact Upd.here | apply Upd.there)) (by simp) ?_
      exact TOps.fin (Nrm.draw x (fun _ _ _ => rfl) rfl (by first | exact Le.refl _ | assumption | exact (by repeat (first | exact Le.refl _ | assumption | apply Le.drop))))
    ) (fun w => ?_)
  subst hHX
  obtain ⟨wb, hwb⟩ : ∃ wb, w.2.2.2.1 = wb := ⟨_, rfl⟩
  obtain ⟨wc, hwc⟩ : ∃ wc, w.2.2.2.2 = wc := ⟨_, rfl⟩
  rw [hwb, hwc]
  refine Nrm.next ?_
  refine Tri.seq ?_
  refine Tri.drawC rfl [(0, .pointer (some ⟨bb, 0, none⟩))] [] [_, _, _, _, _, _, _, _, _, _, _, _] (row w.1.1 3 1 w.2.1 (ints args) :: row (some bb) 66 3 1 [.int .i64 v, slV (some wb) 0 (n + 1) wc, .bool full] :: row (some wb) 43 3 wc (CS ++ [.int .i64 kind, .int .i64 kk, slV w.1.1 0 m w.2.1]) :: (s.N ++ (A ++ HB))) [11] rfl ⟨rfl, trivial⟩ trivial (by repeat (first | exact Le.refl _ | assumption | apply Le.drop)) (by
    refine ⟨?_, ?_, ?_, ?_, ?_, ?_, ?_, ?_, ?_, ?_, ?_, ?_, trivial⟩
    · refine ⟨fun x S c he hw hd hc hcu hm _ => ?_, trivial⟩
      refine TOps.move (he _ _ rfl) rfl ?_
      exact TOps.fin (Nrm.draw x (fun _ _ _ => rfl) rfl (by first | exact Le.refl _ | assumption | exact (by repeat (first | exact Le.refl _ | assumption | apply Le.drop))))
    · refine ⟨fun x S c he hw hd hc hcu hm _ => ?_, trivial⟩
      obtain ⟨h0, -⟩ := hd
      refine TOps.nilCheck h0 rfl ?_
      exact TOps.fin (Nrm.draw x (fun _ _ _ => rfl) rfl (by first | exact Le.refl _ | assumption | exact (by repeat (first | exact Le.refl _ | assumption | apply Le.drop))))
    · refine ⟨fun x S c he hw hd hc hcu hm _ => ?_, trivial⟩
      obtain ⟨h1, -⟩ := hd
      refine TOps.field0 h1 Try.underlying66 rfl rfl ti3 rfl rfl rfl ?_
      exact TOps.fin (Nrm.draw x (fun _ _ _ => rfl) rfl (by first | exact Le.refl _ | assumption | exact (by repeat (first | exact Le.refl _ | assumption | apply Le.drop))))
    · refine ⟨fun x S c he hw hd hc hcu hm _ => ?_, trivial⟩
      obtain ⟨h2, -⟩ := hd
      refine TOps.load1 h2 ti3 (by first | exact Rd.lit (by repeat (first | exact List.Mem.head _ | apply List.Mem.tail)) rfl | (repeat (first | assumption | exact Rd.fld (by assumption) 0 rfl | apply Rd.up))) rfl ?_
      exact TOps.fin (Nrm.draw x (fun _ _ _ => rfl) rfl (by first | exact Le.refl _ | assumption | exact (by repeat (first | exact Le.refl _ | assumption | apply Le.drop))))
    · refine ⟨fun x S c he hw hd hc hcu hm _ => ?_, trivial⟩
      refine TOps.move (he _ _ rfl) rfl ?_
      exact TOps.fin (Nrm.draw x (fun _ _ _ => rfl) rfl (by first | exact Le.refl _ | assumption | exact (by repeat (first | exact Le.refl _ | assumption | apply Le.drop))))
    · refine ⟨fun x S c he hw hd hc hcu hm _ => ?_, trivial⟩
      obtain ⟨h4, -⟩ := hd
      refine TOps.nilCheck h4 rfl ?_
      exact TOps.fin (Nrm.draw x (fun _ _ _ => rfl) rfl (by first | exact Le.refl _ | assumption | exact (by repeat (first | exact Le.refl _ | assumption | apply Le.drop))))
    · refine ⟨fun x S c he hw hd hc hcu hm _ => ?_, trivial⟩
      obtain ⟨h5, -⟩ := hd
      first | refine TOps.fieldB 1 h5 Try.underlying66 rfl rfl ti22 rfl rfl rfl ?_ | refine TOps.fieldN 1 h5 Try.underlying66 rfl rfl ti22 rfl rfl rfl ?_
      exact TOps.fin (Nrm.draw x (fun _ _ _ => rfl) rfl (by first | exact Le.refl _ | assumption | exact (by repeat (first | exact Le.refl _ | assumption | apply Le.drop))))
    · refine ⟨fun x S c he hw hd hc hcu hm _ => ?_, trivial⟩
      obtain ⟨h6, -⟩ := hd
      refine TOps.load1 h6 ti22 (by first | exact Rd.lit (by repeat (first | exact List.Mem.head _ | apply List.Mem.tail)) rfl | (repeat (first | assumption | exact Rd.fld (by assumption) 1 rfl | apply Rd.up))) rfl ?_
      exact TOps.fin (Nrm.draw x (fun _ _ _ => rfl) rfl (by first | exact Le.refl _ | assumption | exact (by repeat (first | exact Le.refl _ | assumption | apply Le.drop))))
    · refine ⟨fun x S c he hw hd hc hcu hm _ => ?_, trivial⟩
      obtain ⟨h7, -⟩ := hd
      refine TOps.len h7 Try.underlying22 rfl ?_
      exact TOps.fin (Nrm.draw x (fun _ _ _ => rfl) rfl (by first | exact Le.refl _ | assumption | exact (by repeat (first | exact Le.refl _ | assumption | apply Le.drop))))
    · refine ⟨fun x S c he hw hd hc hcu hm _ => ?_, trivial⟩
      obtain ⟨h3, h8, -⟩ := hd
      refine TOps.add h3 h8 (wrapI (by omega) (by omega)) rfl ?_
      exact TOps.fin (Nrm.draw x (fun _ _ _ => rfl) rfl (by first | exact Le.refl _ | assumption | exact (by repeat (first | exact Le.refl _ | assumption | apply Le.drop))))
    · refine ⟨fun x S c he hw hd hc hcu hm _ => ?_, trivial⟩
      obtain ⟨h9, -⟩ := hd
      refine TOps.sub h9 rfl (wrapI (by omega) (by omega)) rfl ?_
      exact TOps.fin (Nrm.draw x (fun _ _ _ => rfl) rfl (by first | exact Le.refl _ | assumption | exact (by repeat (first | exact Le.refl _ | assumption | apply Le.drop))))
    · refine ⟨fun x S c he hw hd hc hcu hm _ => ?_, trivial⟩
      obtain ⟨h10, h0, h1, h2, h3, h4, h5, h6, h7, h8, h9, _, -⟩ := hd
      refine TOps.assign h10 rfl ?_
      exact TOps.fin (Nrm.draw x (fun _ _ _ => rfl) rfl (by first | exact Le.refl _ | assumption | exact (by repeat (first | exact Le.refl _ | assumption | apply Le.drop))))
    ) ?_
  refine Nrm.next ?_
  refine Tri.ret1 (H' := mkE 66 43 bb v ⟨ns ++ [⟨kind, kk, args⟩], full⟩ ⟨some wb, wc, s.qs ++ [(w.1.1, 0, w.2.1, none)], row w.1.1 3 1 w.2.1 (ints args) :: s.N⟩ HB) Try.results37 (fun _ _ h => h) (.tmp rfl) ?_ ⟨⟨some wb, wc, s.qs ++ [(w.1.1, 0, w.2.1, none)], row w.1.1 3 1 w.2.1 (ints args) :: s.N⟩, ?_, ?_, ?_⟩
  · unfold mkE
    dsimp only
    rw [nsCells_snoc _ _ _ _ hs.a.1, hCS, show ndCells ⟨kind, kk, args⟩ (w.1.1, 0, w.2.1, none) = [.int .i64 kind, .int .i64 kk, slV w.1.1 0 m w.2.1] from by simp [ndCells, hml]]
    rw [show (ns ++ [(⟨kind, kk, args⟩ : Nd)]).length = n + 1 from by simp [hnn]]
    exact mk_close
  · rw [hro]; refine congrArg (Value.int .i64) ?_; dsimp only; omega
  · rw [hro]; exact BS.ok_snoc (A := [row w.1.1 3 1 w.2.1 (ints args)]) hs (RdS.ofRowA (List.Mem.head _) w.1.2)
  · rw [hro]
theorem pgate_g {A HB : List Ent} {bb : Nat} {v : Int} {ms : MS} {s : BS} (hs : s.ok ms.ns) (hv : 0 ≤ v ∧ v ≤ 24) (ho : ms.Ok) {aa asp : Option Nat} {ao ac m : Nat} {args : List Int} (hm : args.length = m) (hm2 : m ≤ 1000) (ha : RInts (A ++ HB) aa ao args asp) (kind : Int) :
    Gives Try.prog 46 [.pointer (some ⟨bb, 0, none⟩), .int .i64 kind, slV aa ao m ac asp] (A ++ mkE 66 43 bb v ms s HB) (MkR 66 43 bb v (gateM v kind args ms) HB) := by
  subst hm
  have hac : RInts (A ++ mkE 66 43 bb v ms s HB) aa ao args asp := RdS.le ha (mkE_inA A |>.trans mkE_le)
  refine Gives.enter Try.func46 rfl (by exact Try.ntmps46) rfl ?_
  refine Tri.seq (Tri.region ?_)
  refine TOps.assign rfl rfl ?_
  refine TOps.next ?_
  refine Tri.seq ?_
  refine Tri.seq (Tri.region ?_)
  refine TOps.move rfl rfl ?_
  refine TOps.len rfl Try.underlying41 rfl ?_
  refine TOps.eqlI rfl rfl rfl ?_
  refine TOps.next ?_
  refine Tri.cond rfl (fun hc1 => ?_) (fun hc1 => ?_)
  · try simp only [decide_eq_true_eq, decide_eq_false_iff_not, Bool.and_eq_true, Bool.or_eq_true, Bool.not_eq_true', Bool.and_eq_false_iff, Bool.or_eq_false_iff, Bool.not_eq_false', Int.not_lt, Int.not_le, ne_eq, Decidable.not_not, Option.isSome_iff_ne_none, Option.isNone_iff_eq_none] at hc1
    have hl : args.length = 1 := by omega
    have hg : gateM v kind args ms = (args.headD 0, ms) := if_pos hl
    obtain ⟨ab, rfl, rfl, h0⟩ := hac.at (i := 0) (by omega)
    have hh : args.headD 0 = args[0] := by cases args with | nil => simp at hl | cons a r => rfl
    refine Tri.seq (Tri.region ?_)
    refine TOps.move rfl rfl ?_
    refine TOps.indexAddr (off' := ao + 0) rfl rfl Try.underlying41 ti3 (by omega) (by omega) (by simp) rfl ?_
    refine TOps.load1 rfl ti3 (by first | exact Rd.lit (by repeat (first | exact List.Mem.head _ | apply List.Mem.tail)) rfl | (repeat (first | assumption | exact Rd.fld (by assumption) 1 rfl | apply Rd.up))) rfl ?_
    refine TOps.assign rfl rfl ?_
    refine TOps.next ?_
    refine Tri.ret1 (H' := mkE 66 43 bb v ms s HB) Try.results46 (fun _ _ h => h) (.tmp rfl) (Le.sub (List.sublist_append_right _ _)) ⟨s, by rw [hg, hh], by rw [hg]; exact hs, by rw [hg]⟩
  try simp only [decide_eq_true_eq, decide_eq_false_iff_not, Bool.and_eq_true, Bool.or_eq_true, Bool.not_eq_true', Bool.and_eq_false_iff, Bool.or_eq_false_iff, Bool.not_eq_false', Int.not_lt, Int.not_le, ne_eq, Decidable.not_not, Option.isSome_iff_ne_none, Option.isNone_iff_eq_none] at hc1
  have hg : gateM v kind args ms = addM v ⟨kind, 0, args⟩ ms := if_neg (by omega)
  refine Tri.fin ?_
  refine Nrm.next ?_
  refine Tri.seq (Tri.region ?_)
  refine TOps.move rfl rfl ?_
  refine TOps.move rfl rfl ?_
  refine TOps.move rfl rfl ?_
  refine TOps.call (vs := [_, _, _, _]) Try.call37 ⟨rfl, rfl, rfl, rfl, trivial⟩ (padd_g hs hv ho rfl hm2 ha kind 0) rfl ?_
  rintro _ _ ⟨s', rfl, hs', rfl⟩
  refine TOps.assign rfl rfl ?_
  refine TOps.next ?_
  refine Tri.ret1 (H' := _) Try.results46 (fun _ _ h => h) (.tmp rfl) (Le.refl _) ⟨s', by rw [hg], by rw [hg]; exact hs', by rw [hg]⟩
end Go.Proofs
