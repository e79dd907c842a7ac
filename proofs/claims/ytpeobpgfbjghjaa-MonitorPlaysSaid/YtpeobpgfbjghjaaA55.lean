import Derived.Test.YtpeobpgfbjghjaaNU
import Derived.Test.YtpeobpgfbjghjaaPP
import Derived.Test.YtpeobpgfbjghjaaGL47
namespace Go.Proofs
open Go.GL
set_option linter.unusedVariables false
set_option linter.unusedSimpArgs false
theorem cloneInts_g {H : List Ent} {xs : List Int} {a sp : Option Nat} {off cap : Nat} (hr : RInts H a off xs sp) (hl : xs.length ≤ 1000000) :
    Gives Try.prog 49 [slV a off xs.length cap sp] H (NewS 3 (ints xs) xs.length H) := by
  have hr0 : RdS H a off (ints xs) sp := hr
  clear hr
  refine Gives.enter Try.func49 rfl (by exact Try.ntmps49) rfl ?_
  refine Tri.seq (Tri.region ?_)
  refine TOps.assign rfl rfl ?_
  refine TOps.next ?_
  refine Tri.seq ?_
  refine Tri.seq (Tri.region ?_)
  refine TOps.move rfl rfl ?_
  refine TOps.eqlSlNil rfl Try.underlying62 rfl ?_
  refine TOps.next ?_
  refine Tri.cond rfl (fun hc1 => ?_) (fun hc1 => ?_)
  · try simp only [decide_eq_true_eq, decide_eq_false_iff_not, Bool.and_eq_true, Bool.or_eq_true, Bool.not_eq_true', Bool.and_eq_false_iff, Bool.or_eq_false_iff, Bool.not_eq_false', Int.not_lt, Int.not_le, ne_eq, Decidable.not_not, Option.isSome_iff_ne_none, Option.isNone_iff_eq_none] at hc1
    subst hc1
    have hx := RdS.none hr0
    obtain rfl : xs = [] := by simpa using hx
    refine Tri.seq (Tri.region ?_)
    refine TOps.assign rfl rfl ?_
    refine TOps.next ?_
    refine Tri.ret1 (H' := _) Try.results49 (fun _ _ h => h) (.tmp rfl) Le.addNil ⟨none, 0, rfl, by simp, rfl⟩
  try simp only [decide_eq_true_eq, decide_eq_false_iff_not, Bool.and_eq_true, Bool.or_eq_true, Bool.not_eq_true', Bool.and_eq_false_iff, Bool.or_eq_false_iff, Bool.not_eq_false', Int.not_lt, Int.not_le, ne_eq, Decidable.not_not, Option.isSome_iff_ne_none, Option.isNone_iff_eq_none] at hc1
  refine Tri.fin ?_
  refine Nrm.next ?_
  refine Tri.seq (Tri.region ?_)
  refine TOps.buildSlice0 Try.underlying62 ti3 rfl (fun b5 => ?_)
  replace hr0 := hr0.up (e := row (some b5) 3 1 0 [])
  refine TOps.move rfl rfl ?_
  refine TOps.append (ys := ints xs) rfl rfl Try.underlying62 ti3 rfl (fun _ _ => Upd.here) hr0 (by simp) rfl (oneInts xs) (by omega) (by omega) rfl (fun a' cap' h0 => ?_)
  refine TOps.assign rfl rfl ?_
  refine TOps.next ?_
  refine Tri.ret1 (H' := _) Try.results49 (fun _ _ h => h) (.tmp rfl) (Le.refl _) ⟨a', cap', by rw [Nat.zero_add], h0, rfl⟩
theorem clonePl_g {H : List Ent} {l : List Pl} {a : Option Nat} {cap : Nat} (hr : RdS H a 0 (logCells l)) (hl : l.length ≤ 1000000) :
    Gives Try.prog 39 [slV a 0 l.length cap] H (fun u H' => ∃ a' cap', u = slV a' 0 l.length cap' ∧ (logCells l ≠ [] → ∃ b, a' = some b) ∧ row a' 42 3 cap' (logCells l) :: H = H') := by
  have hll := logCells_length l
  refine Gives.enter Try.func39 rfl (by exact Try.ntmps39) rfl ?_
  refine Tri.seq (Tri.region ?_)
  refine TOps.assign rfl rfl ?_
  refine TOps.next ?_
  refine Tri.seq ?_
  refine Tri.seq (Tri.region ?_)
  refine TOps.move rfl rfl ?_
  refine TOps.eqlSlNil rfl Try.underlying39 rfl ?_
  refine TOps.next ?_
  refine Tri.cond rfl (fun hc1 => ?_) (fun hc1 => ?_)
  · try simp only [decide_eq_true_eq, decide_eq_false_iff_not, Bool.and_eq_true, Bool.or_eq_true, Bool.not_eq_true', Bool.and_eq_false_iff, Bool.or_eq_false_iff, Bool.not_eq_false', Int.not_lt, Int.not_le, ne_eq, Decidable.not_not, Option.isSome_iff_ne_none, Option.isNone_iff_eq_none] at hc1
    subst hc1
    have hx := RdS.none hr
    obtain rfl : l = [] := by rw [hx] at hll; exact List.eq_nil_of_length_eq_zero (by simp at hll; omega)
    refine Tri.seq (Tri.region ?_)
    refine TOps.assign rfl rfl ?_
    refine TOps.next ?_
    refine Tri.ret1 (H' := _) Try.results39 (fun _ _ h => h) (.tmp rfl) Le.addNil ⟨none, 0, rfl, by simp [logCells], rfl⟩
  try simp only [decide_eq_true_eq, decide_eq_false_iff_not, Bool.and_eq_true, Bool.or_eq_true, Bool.not_eq_true', Bool.and_eq_false_iff, Bool.or_eq_false_iff, Bool.not_eq_false', Int.not_lt, Int.not_le, ne_eq, Decidable.not_not, Option.isSome_iff_ne_none, Option.isNone_iff_eq_none] at hc1
  refine Tri.fin ?_
  refine Nrm.next ?_
  refine Tri.seq (Tri.region ?_)
  refine TOps.buildSlice0 Try.underlying39 ti42 rfl (fun b5 => ?_)
  replace hr := hr.up (e := row (some b5) 42 3 0 [])
  refine TOps.move rfl rfl ?_
  refine TOps.append (ys := logCells l) rfl rfl Try.underlying39 ti42 rfl (fun _ _ => Upd.here) hr hll rfl (logCells_one l) (by omega) (by omega) rfl (fun a' cap' h0 => ?_)
  refine TOps.assign rfl rfl ?_
  refine TOps.next ?_
  refine Tri.ret1 (H' := _) Try.results39 (fun _ _ h => h) (.tmp rfl) (Le.refl _) ⟨a', cap', by rw [Nat.zero_add], h0, rfl⟩
theorem cloneN_g {H : List Ent} {fv : Value} {F : Fm} (hF : RF H fv F) (hg : F.Good) :
    Gives Try.prog 38 [fv] H (fun u H' => ∃ N, RF N u F ∧ N ++ H = H') := by
  have hF0 := hF
  obtain ⟨na, off, cap, nsp, rfl, hN⟩ := hF
  have g2 := hg.n1
  refine Gives.enter Try.func38 rfl (by exact Try.ntmps38) rfl ?_
  refine Tri.seq (Tri.region ?_)
  refine TOps.boxN rfl ti24 rfl rfl (fun b1 => ?_)
  refine TOps.hide (fun H1 l1 s1 r1 => ?_)
  replace hF0 := hF0.le l1; replace hN := hN.le l1
  refine TOps.alloc ti24 rfl (fun b2 => ?_)
  refine TOps.next ?_
  refine Tri.seq (Tri.region ?_)
  refine TOps.field0 rfl Try.underlying24 rfl rfl ti3 rfl rfl rfl ?_
  refine TOps.load1 rfl ti3 (by first | exact Rd.lit (by repeat (first | exact List.Mem.head _ | apply List.Mem.tail)) rfl | (repeat (first | assumption | exact Rd.fld (by assumption) 0 rfl | apply Rd.up))) rfl ?_
  first | refine TOps.fieldB 2 rfl Try.underlying24 rfl rfl ti3 rfl rfl rfl ?_ | refine TOps.fieldN 2 rfl Try.underlying24 rfl rfl ti3 rfl rfl rfl ?_
  refine TOps.load1 rfl ti3 (by first | exact Rd.lit (by repeat (first | exact List.Mem.head _ | apply List.Mem.tail)) rfl | (repeat (first | assumption | exact Rd.fld (by assumption) 2 rfl | apply Rd.up))) rfl ?_
  refine TOps.buildStruct (vs := [(0, _), (2, _)]) (xs := [_, _, _]) [(0, 1), (1, 1), (2, 1)] Try.underlying24 ti24 (fun w => by simp) ⟨rfl, rfl, rfl, rfl, trivial⟩ rfl rfl ?_
  refine TOps.alloc ti24 rfl (fun b3 => ?_)
  refine TOps.storeN rfl rfl ti24 rfl rfl (by repeat (first | exact Upd.here | apply Upd.there)) (by first | decide | (simp; done) | (simp; omega)) ?_
  refine TOps.next ?_
  refine Tri.seq ?_
  refine Tri.seq (Tri.region ?_)
  first | refine TOps.fieldB 1 rfl Try.underlying24 rfl rfl ti22 rfl rfl rfl ?_ | refine TOps.fieldN 1 rfl Try.underlying24 rfl rfl ti22 rfl rfl rfl ?_
  refine TOps.load1 rfl ti22 (by first | exact Rd.lit (by repeat (first | exact List.Mem.head _ | apply List.Mem.tail)) rfl | (repeat (first | assumption | exact Rd.fld (by assumption) 1 rfl | apply Rd.up))) rfl ?_
  refine TOps.len rfl Try.underlying22 rfl ?_
  refine TOps.move rfl rfl ?_
  refine TOps.next ?_
  refine Tri.range (X := (Option Nat × Nat) × List SA × List Ent) (fun z k => [(1, .pointer (some ⟨b1, 0, none⟩)), (2, .pointer (some ⟨b2, 0, none⟩)), (3, .pointer (some ⟨b3, 0, none⟩)), (12, slV na off F.nodes.length cap nsp)]) (fun z k => row (some b3) 24 3 1 [.int .i64 F.vars, slV z.1.1 0 k z.1.2, .int .i64 F.top] :: row z.1.1 64 3 z.1.2 (nsCells (F.nodes.take k) z.2.1) :: row (some b2) 24 3 1 [.int .i64 0, slV none 0 0 0, .int .i64 0] :: (z.2.2 ++ H1)) (fun z k => ArgsIn z.2.2 (F.nodes.take k) z.2.1 ∧ (F.nodes.take k ≠ [] → ∃ b, z.1.1 = some b)) (by omega) rfl rfl rfl (fun _ _ => ⟨rfl, rfl, rfl, rfl⟩) ((none, 0), [], []) ⟨ArgsIn.nil, fun h => absurd rfl h⟩ ⟨rfl, rfl, rfl, rfl, trivial⟩ (Le.addNil.trans (Sp.le (by repeat (first | exact Sp.refl _ | exact Sp.sub (by assumption) | refine Sp.cons (by repeat (first | exact Pick.here | apply Pick.there)) ?_ | exact Sp.nil | apply Sp.skip)))) (fun k z hlt hp => ?_) (fun z ac wc hp hS hM => ?_)
  · skip
    obtain ⟨⟨oa, ocap⟩, qs, H3⟩ := z
    obtain ⟨hp3, hp4⟩ := hp
    dsimp only at hp3 hp4 ⊢
    have hp1 : Le (H3 ++ H1) H1 := Le.sub (List.sublist_append_right _ _)
    obtain ⟨nb, aa, ao, acap, asp, rfl, rfl, hn⟩ := hN.at hlt
    have hfi := hg.fits k hlt
    have hcells := hn.cells
    have hal := hfi.len
    replace hcells := hcells.le hp1; replace hn := hn.le hp1
    have htk : (F.nodes.take k).length = k := by rw [List.length_take]; omega
    refine Tri.seq (Tri.region ?_)
    refine TOps.indexAddr (off' := off + k * 3) rfl rfl Try.underlying22 ti64 (by omega) (by omega) (by simp) rfl ?_
    refine TOps.loadN rfl ti64 (by first | exact Rd.all (by repeat (first | exact List.Mem.head _ | apply List.Mem.tail)) | (repeat (first | assumption | apply Rd.up))) rfl rfl ?_
    refine TOps.alloc ti64 rfl (fun b5 => ?_)
    refine TOps.storeN rfl rfl ti64 rfl rfl (by repeat (first | exact Upd.here | apply Upd.there)) (by first | decide | (simp; done) | (simp; omega)) ?_
    refine TOps.next ?_
    obtain ⟨CS, hCS⟩ : ∃ CS, CS = nsCells (F.nodes.take k) qs := ⟨_, rfl⟩
    have hcl : CS.length = k * 3 := by rw [hCS, nsCells_length _ _ hp3.1, htk]
    obtain ⟨HB, hHB⟩ : ∃ HB, HB = row (some b2) 24 3 1 [.int .i64 0, slV none 0 0 0, .int .i64 0] :: (H3 ++ H1) := ⟨_, rfl⟩
    have hBr : RInts HB aa ao F.nodes[k].args asp := by rw [hHB]; exact RdS.up hn.args
    have hr5 : ∀ (x : OA (ints F.nodes[k].args) × Nat × Nat × Nat × Nat) (c : Nat), Rd (match c with | 0 => row (some b5) 64 3 1 [.int .i64 F.nodes[k].kind, .int .i64 F.nodes[k].k, slV aa ao F.nodes[k].args.length acap asp] :: row (some b3) 24 3 1 [.int .i64 F.vars, slV oa 0 k ocap, .int .i64 F.top] :: row oa 64 3 ocap CS :: HB | 1 => row x.1.1 3 1 x.2.1 (ints F.nodes[k].args) :: row (some b5) 64 3 1 [.int .i64 F.nodes[k].kind, .int .i64 F.nodes[k].k, slV aa ao F.nodes[k].args.length acap asp] :: row (some b3) 24 3 1 [.int .i64 F.vars, slV oa 0 k ocap, .int .i64 F.top] :: row oa 64 3 ocap CS :: HB | 2 => row (some x.2.2.1) 64 3 1 [.int .i64 F.nodes[k].kind, .int .i64 F.nodes[k].k, slV x.1.1 0 F.nodes[k].args.length x.2.1] :: row x.1.1 3 1 x.2.1 (ints F.nodes[k].args) :: row (some b5) 64 3 1 [.int .i64 F.nodes[k].kind, .int .i64 F.nodes[k].k, slV aa ao F.nodes[k].args.length acap asp] :: row (some b3) 24 3 1 [.int .i64 F.vars, slV oa 0 k ocap, .int .i64 F.top] :: row oa 64 3 ocap CS :: HB | 3 => row x.1.1 3 1 x.2.1 (ints F.nodes[k].args) :: row (some b5) 64 3 1 [.int .i64 F.nodes[k].kind, .int .i64 F.nodes[k].k, slV aa ao F.nodes[k].args.length acap asp] :: row (some b3) 24 3 1 [.int .i64 F.vars, slV oa 0 k ocap, .int .i64 F.top] :: row (some x.2.2.2.1) 64 3 x.2.2.2.2 (CS ++ [.int .i64 F.nodes[k].kind, .int .i64 F.nodes[k].k, slV x.1.1 0 F.nodes[k].args.length x.2.1]) :: HB | _ + 4 => row x.1.1 3 1 x.2.1 (ints F.nodes[k].args) :: row (some b5) 64 3 1 [.int .i64 F.nodes[k].kind, .int .i64 F.nodes[k].k, slV aa ao F.nodes[k].args.length acap asp] :: row (some b3) 24 3 1 [.int .i64 F.vars, slV (some x.2.2.2.1) 0 (k + 1) x.2.2.2.2, .int .i64 F.top] :: row (some x.2.2.2.1) 64 3 x.2.2.2.2 (CS ++ [.int .i64 F.nodes[k].kind, .int .i64 F.nodes[k].k, slV x.1.1 0 F.nodes[k].args.length x.2.1]) :: HB) b5 0 [.int .i64 F.nodes[k].kind, .int .i64 F.nodes[k].k, slV aa ao F.nodes[k].args.length acap asp] := by
      intro x c
      match c with
      | 0 => exact Rd.all (by repeat (first | exact List.Mem.head _ | apply List.Mem.tail))
      | 1 => exact Rd.all (by repeat (first | exact List.Mem.head _ | apply List.Mem.tail))
      | 2 => exact Rd.all (by repeat (first | exact List.Mem.head _ | apply List.Mem.tail))
      | 3 => exact Rd.all (by repeat (first | exact List.Mem.head _ | apply List.Mem.tail))
      | _ + 4 => exact Rd.all (by repeat (first | exact List.Mem.head _ | apply List.Mem.tail))
    refine Tri.drawX (X := OA (ints F.nodes[k].args) × Nat × Nat × Nat × Nat) rfl [(1, .pointer (some ⟨b1, 0, none⟩)), (2, .pointer (some ⟨b2, 0, none⟩)), (3, .pointer (some ⟨b3, 0, none⟩)), (12, slV (some nb) off F.nodes.length cap), (13, .int .i64 F.nodes.length), (14, .int .i64 k), (5, .pointer (some ⟨b5, 0, none⟩))] [] (fun x => [_, slV oa 0 k ocap, _, _, _, _, _, _, slV x.1.1 0 F.nodes[k].args.length x.2.1, .agg (List.toArray [.int .i64 F.nodes[k].kind, .int .i64 F.nodes[k].k, slV x.1.1 0 F.nodes[k].args.length x.2.1]), slV (some x.2.2.1) 0 1 1, slV (some x.2.2.2.1) 0 (k + 1) x.2.2.2.2, _, undef]) (fun x c => match c with | 0 => row (some b5) 64 3 1 [.int .i64 F.nodes[k].kind, .int .i64 F.nodes[k].k, slV aa ao F.nodes[k].args.length acap asp] :: row (some b3) 24 3 1 [.int .i64 F.vars, slV oa 0 k ocap, .int .i64 F.top] :: row oa 64 3 ocap CS :: HB | 1 => row x.1.1 3 1 x.2.1 (ints F.nodes[k].args) :: row (some b5) 64 3 1 [.int .i64 F.nodes[k].kind, .int .i64 F.nodes[k].k, slV aa ao F.nodes[k].args.length acap asp] :: row (some b3) 24 3 1 [.int .i64 F.vars, slV oa 0 k ocap, .int .i64 F.top] :: row oa 64 3 ocap CS :: HB | 2 => row (some x.2.2.1) 64 3 1 [.int .i64 F.nodes[k].kind, .int .i64 F.nodes[k].k, slV x.1.1 0 F.nodes[k].args.length x.2.1] :: row x.1.1 3 1 x.2.1 (ints F.nodes[k].args) :: row (some b5) 64 3 1 [.int .i64 F.nodes[k].kind, .int .i64 F.nodes[k].k, slV aa ao F.nodes[k].args.length acap asp] :: row (some b3) 24 3 1 [.int .i64 F.vars, slV oa 0 k ocap, .int .i64 F.top] :: row oa 64 3 ocap CS :: HB | 3 => row x.1.1 3 1 x.2.1 (ints F.nodes[k].args) :: row (some b5) 64 3 1 [.int .i64 F.nodes[k].kind, .int .i64 F.nodes[k].k, slV aa ao F.nodes[k].args.length acap asp] :: row (some b3) 24 3 1 [.int .i64 F.vars, slV oa 0 k ocap, .int .i64 F.top] :: row (some x.2.2.2.1) 64 3 x.2.2.2.2 (CS ++ [.int .i64 F.nodes[k].kind, .int .i64 F.nodes[k].k, slV x.1.1 0 F.nodes[k].args.length x.2.1]) :: HB | _ + 4 => row x.1.1 3 1 x.2.1 (ints F.nodes[k].args) :: row (some b5) 64 3 1 [.int .i64 F.nodes[k].kind, .int .i64 F.nodes[k].k, slV aa ao F.nodes[k].args.length acap asp] :: row (some b3) 24 3 1 [.int .i64 F.vars, slV (some x.2.2.2.1) 0 (k + 1) x.2.2.2.2, .int .i64 F.top] :: row (some x.2.2.2.1) 64 3 x.2.2.2.2 (CS ++ [.int .i64 F.nodes[k].kind, .int .i64 F.nodes[k].k, slV x.1.1 0 F.nodes[k].args.length x.2.1]) :: HB) [8, 10, 11, 13] (OA.zero _, 0, 0, 0, 0) [] rfl rfl ⟨rfl, rfl, rfl, rfl, rfl, rfl, rfl, trivial⟩ trivial (by rw [hHB, hCS]; exact Le.refl _) (by
      refine ⟨?_, ?_, ?_, ?_, ?_, ?_, ?_, ?_, ?_, ?_, ?_, ?_, ?_, ?_, trivial⟩
      · refine ⟨fun x S c he hw hd hc hcu hm _ => ?_, trivial⟩
        first | refine TOps.fieldB 1 (he _ _ rfl) Try.underlying24 rfl rfl ti22 rfl rfl rfl ?_ | refine TOps.fieldN 1 (he _ _ rfl) Try.underlying24 rfl rfl ti22 rfl rfl rfl ?_
        exact TOps.fin (Nrm.draw x (fun _ _ _ => rfl) rfl (by first | exact Le.refl _ | assumption | exact (by repeat (first | exact Le.refl _ | assumption | apply Le.drop))))
      · refine ⟨fun x S c he hw hd hc hcu hm _ => ?_, trivial⟩
        obtain ⟨h0, -⟩ := hd
        rcases (show c = 0 ∨ c = 1 ∨ c = 2 by have : c ≤ 2 := hcu; omega) with rfl | rfl | rfl <;> refine TOps.load1 h0 ti22 (Rd.lit (by repeat (first | exact List.Mem.head _ | apply List.Mem.tail)) rfl) rfl ?_
        all_goals exact TOps.fin (Nrm.draw x (fun _ _ _ => rfl) rfl (Le.refl _))
      · refine ⟨fun x S c he hw hd hc hcu hm _ => ?_, trivial⟩
        refine TOps.field0 (he _ _ rfl) Try.underlying64 rfl rfl ti3 rfl rfl rfl ?_
        exact TOps.fin (Nrm.draw x (fun _ _ _ => rfl) rfl (by first | exact Le.refl _ | assumption | exact (by repeat (first | exact Le.refl _ | assumption | apply Le.drop))))
      · refine ⟨fun x S c he hw hd hc hcu hm _ => ?_, trivial⟩
        obtain ⟨h2, -⟩ := hd
        refine TOps.load1 h2 ti3 ((hr5 x c).fld 0 rfl) rfl ?_
        exact TOps.fin (Nrm.draw x (fun _ _ _ => rfl) rfl (by first | exact Le.refl _ | assumption | exact (by repeat (first | exact Le.refl _ | assumption | apply Le.drop))))
      · refine ⟨fun x S c he hw hd hc hcu hm _ => ?_, trivial⟩
        first | refine TOps.fieldB 1 (he _ _ rfl) Try.underlying64 rfl rfl ti3 rfl rfl rfl ?_ | refine TOps.fieldN 1 (he _ _ rfl) Try.underlying64 rfl rfl ti3 rfl rfl rfl ?_
        exact TOps.fin (Nrm.draw x (fun _ _ _ => rfl) rfl (by first | exact Le.refl _ | assumption | exact (by repeat (first | exact Le.refl _ | assumption | apply Le.drop))))
      · refine ⟨fun x S c he hw hd hc hcu hm _ => ?_, trivial⟩
        obtain ⟨h4, -⟩ := hd
        refine TOps.load1 h4 ti3 ((hr5 x c).fld 1 rfl) rfl ?_
        exact TOps.fin (Nrm.draw x (fun _ _ _ => rfl) rfl (by first | exact Le.refl _ | assumption | exact (by repeat (first | exact Le.refl _ | assumption | apply Le.drop))))
      · refine ⟨fun x S c he hw hd hc hcu hm _ => ?_, trivial⟩
        first | refine TOps.fieldB 2 (he _ _ rfl) Try.underlying64 rfl rfl ti62 rfl rfl rfl ?_ | refine TOps.fieldN 2 (he _ _ rfl) Try.underlying64 rfl rfl ti62 rfl rfl rfl ?_
        exact TOps.fin (Nrm.draw x (fun _ _ _ => rfl) rfl (by first | exact Le.refl _ | assumption | exact (by repeat (first | exact Le.refl _ | assumption | apply Le.drop))))
      · refine ⟨fun x S c he hw hd hc hcu hm _ => ?_, trivial⟩
        obtain ⟨h6, -⟩ := hd
        refine TOps.load1 h6 ti62 ((hr5 x c).fld 2 rfl) rfl ?_
        exact TOps.fin (Nrm.draw x (fun _ _ _ => rfl) rfl (by first | exact Le.refl _ | assumption | exact (by repeat (first | exact Le.refl _ | assumption | apply Le.drop))))
      · refine ⟨fun x S c he hw hd hc hcu hm _ => ?_, trivial⟩
        obtain ⟨h7, -⟩ := hd
        obtain rfl : c = 0 := hm rfl
        refine TOps.call (vs := [_]) Try.call49 ⟨h7, trivial⟩ (cloneInts_g (RdS.up (RdS.up (RdS.up hBr))) (by omega)) rfl ?_
        rintro _ _ ⟨a', c', rfl, h0', rfl⟩
        refine TOps.fin (Nrm.draw (⟨a', h0'⟩, c', x.2.2) ?_ rfl (Le.refl _))
        intro j hj hcj; rcases j with _|_|_|_|_|_|_|_|_|_|_|_|_|_|j <;> first | rfl | exact absurd rfl hj | exact absurd hcj (by decide)
      · refine ⟨fun x S c he hw hd hc hcu hm _ => ?_, trivial⟩
        obtain ⟨h3, h5, h8, -⟩ := hd
        refine TOps.buildStruct (vs := [(0, _), (1, _), (2, _)]) (xs := [_, _, _]) [(0, 1), (1, 1), (2, 1)] Try.underlying64 ti64 (fun w => by simp) ⟨rfl, h3, rfl, h5, rfl, h8, trivial⟩ rfl rfl ?_
        exact TOps.fin (Nrm.draw x (fun _ _ _ => rfl) rfl (by first | exact Le.refl _ | assumption | exact (by repeat (first | exact Le.refl _ | assumption | apply Le.drop))))
      · refine ⟨fun x S c he hw hd hc hcu hm _ => ?_, trivial⟩
        obtain ⟨h9, -⟩ := hd
        obtain rfl : c = 1 := hm rfl
        refine TOps.buildSlice (vs := [_]) (xs := [_, _, _]) Try.underlying22 ti64 ⟨rfl, h9, trivial⟩ rfl rfl rfl rfl rfl rfl (by decide) rfl (fun b28 => ?_)
        refine TOps.fin (Nrm.draw (x.1, x.2.1, b28, x.2.2.2) ?_ rfl (Le.refl _))
        intro j hj hcj; rcases j with _|_|_|_|_|_|_|_|_|_|_|_|_|_|j <;> first | rfl | exact absurd rfl hj | exact absurd hcj (by decide)
      · refine ⟨fun x S c he hw hd hc hcu hm _ => ?_, trivial⟩
        obtain ⟨h1, h10, h8, -⟩ := hd
        obtain rfl : c = 2 := hm rfl
        refine TOps.appendLit h1 h10 Try.underlying22 ti64 rfl (fun _ _ => (by repeat (first | exact Upd.here | apply Upd.there))) rfl (by rw [hcl]) rfl (by omega) (by omega) (by simp) rfl (fun b29 cap29 => ?_)
        refine TOps.fin (Nrm.draw (x.1, x.2.1, x.2.2.1, b29, cap29) ?_ rfl (Le.refl _))
        intro j hj hcj; rcases j with _|_|_|_|_|_|_|_|_|_|_|_|_|_|j <;> first | rfl | exact absurd rfl hj | exact absurd hcj (by decide)
      · refine ⟨fun x S c he hw hd hc hcu hm _ => ?_, trivial⟩
        obtain ⟨h0, h1, h2, h3, h4, h5, h6, h7, h8, h9, h10, h11, -⟩ := hd
        first | refine TOps.fieldB 1 (he _ _ rfl) Try.underlying24 rfl rfl ti22 rfl rfl rfl ?_ | refine TOps.fieldN 1 (he _ _ rfl) Try.underlying24 rfl rfl ti22 rfl rfl rfl ?_
        exact TOps.fin (Nrm.draw x (fun _ _ _ => rfl) rfl (by first | exact Le.refl _ | assumption | exact (by repeat (first | exact Le.refl _ | assumption | apply Le.drop))))
      · refine ⟨fun x S c he hw hd hc hcu hm _ => ?_, trivial⟩
        obtain ⟨h12, h11, _, h0, h1, h2, h3, h4, h5, h6, h7, h8, h9, h10, _, -⟩ := hd
        obtain rfl : c = 3 := hm rfl
        refine TOps.store1 h12 h11 ti22 rfl rfl (by repeat (first | exact Upd.here | apply Upd.there)) (by simp) ?_
        exact TOps.fin (Nrm.draw x (fun _ _ _ => rfl) rfl (by first | exact Le.refl _ | assumption | exact (by repeat (first | exact Le.refl _ | assumption | apply Le.drop))))
      ) (fun w => ?_)
    subst hHB
    refine Nrm.body ((some w.2.2.2.1, w.2.2.2.2), qs ++ [(w.1.1, 0, w.2.1, none)], row w.1.1 3 1 w.2.1 (ints F.nodes[k].args) :: H3) (by rw [List.take_succ_eq_append_getElem hlt]; exact ⟨ArgsIn.snoc (hp3.le (Le.drop (Le.refl _))) (RdS.ofRowA (List.Mem.head _) w.1.2), fun _ => ⟨_, rfl⟩⟩) ⟨rfl, rfl, rfl, rfl, rfl, rfl, trivial⟩ (by rw [List.take_succ_eq_append_getElem hlt, List.cons_append]; exact (Sp.le (by repeat (first | exact Sp.refl _ | exact Sp.sub (by assumption) | refine Sp.cons (by repeat (first | exact Pick.here | exact Pick.row (by first | (simp; done) | (rw [nsCells_snoc _ _ _ _ hp3.1, ← hCS]; simp [ndCells]; done)) | apply Pick.there)) ?_ | exact Sp.nil | apply Sp.skip))))
  obtain ⟨hp3, hp4⟩ := hp
  rw [List.take_length] at hM hp3 hp4
  refine Nrm.of hS hM ?_
  refine Nrm.next ?_
  refine Tri.seq (Tri.region ?_)
  refine TOps.loadN rfl ti24 (by first | exact Rd.all (by repeat (first | exact List.Mem.head _ | apply List.Mem.tail)) | (repeat (first | assumption | apply Rd.up))) rfl rfl ?_
  refine TOps.storeN rfl rfl ti24 rfl rfl (by repeat (first | exact Upd.here | apply Upd.there)) (by first | decide | (simp; done) | (simp; omega)) ?_
  refine TOps.next ?_
  refine Tri.ret1 (H' := (row z.1.1 64 3 z.1.2 (nsCells F.nodes z.2.1) :: z.2.2) ++ H) Try.results38 (fun _ _ h => h) (.cellN rfl rfl ti24 (Rd.all (by repeat (first | exact List.Mem.head _ | apply List.Mem.tail))) rfl) (Le.sub (List.Sublist.cons _ (List.Sublist.cons_cons _ (List.Sublist.cons _ (List.Sublist.append_left s1 _))))) ⟨row z.1.1 64 3 z.1.2 (nsCells F.nodes z.2.1) :: z.2.2, ?_, rfl⟩
  refine ⟨z.1.1, 0, z.1.2, none, rfl, ?_⟩
  exact RNodes.ofA (E := 64) (sz := 3) (cap := z.1.2) (List.Mem.head _) (hp3.le (Le.drop (Le.refl _))) hp4
theorem newN_g {H : List Ent} {fv : Value} {F : Fm} (hF : RF H fv F) (hg : F.Good) :
    Gives Try.prog 17 [fv] H (fun u H' => ∃ m nv N, u = .tuple (List.toArray [.pointer (some ⟨m, 0, none⟩), errV 47 none]) ∧ RF N (.agg (List.toArray [.int .i64 F.vars, nv, .int .i64 F.top])) F ∧ row (some m) 70 5 1 [.int .i64 F.vars, nv, .int .i64 F.top, .int .i64 Mo.zero.f, slV none 0 Mo.zero.log.length 0] :: row none 42 3 0 (logCells Mo.zero.log) :: (N ++ H) = H') := by
  have hF0 := hF
  have he := (Fm.good_iff F).2 hg
  obtain ⟨na, off, cap, nsp, rfl, hN⟩ := hF
  refine Gives.enter Try.func17 rfl (by exact Try.ntmps17) rfl ?_
  refine Tri.seq (Tri.region ?_)
  refine TOps.boxN rfl ti24 rfl rfl (fun b1 => ?_)
  refine TOps.hide (fun H1 l1 s1 r1 => ?_)
  replace hF0 := hF0.le l1
  refine TOps.assign rfl rfl ?_
  refine TOps.assign rfl rfl ?_
  refine TOps.next ?_
  refine Tri.seq ?_
  refine Tri.seq (Tri.region ?_)
  refine TOps.loadN rfl ti24 (by first | exact Rd.all (by repeat (first | exact List.Mem.head _ | apply List.Mem.tail)) | (repeat (first | assumption | apply Rd.up))) rfl rfl ?_
  refine TOps.call (vs := [_]) Try.call10 ⟨rfl, trivial⟩ (check_g hF0 hg.ok) rfl ?_
  rintro _ _ ⟨rfl, rfl⟩
  rw [he]
  refine TOps.assign rfl rfl ?_
  refine TOps.next ?_
  refine Tri.seq (Tri.region ?_)
  refine TOps.move rfl rfl ?_
  refine TOps.neqNil (T := 47) (o := none) rfl Try.underlying29 rfl ?_
  refine TOps.next ?_
  refine Tri.cond rfl (fun hc1 => ?_) (fun hc1 => ?_)
  · exact absurd hc1 (by first | decide | simp)
  try simp only [decide_eq_true_eq, decide_eq_false_iff_not, Bool.and_eq_true, Bool.or_eq_true, Bool.not_eq_true', Bool.and_eq_false_iff, Bool.or_eq_false_iff, Bool.not_eq_false', Int.not_lt, Int.not_le, ne_eq, Decidable.not_not, Option.isSome_iff_ne_none, Option.isNone_iff_eq_none] at hc1
  refine Tri.fin ?_
  refine Nrm.next ?_
  refine Tri.seq (Tri.region ?_)
  refine TOps.loadN rfl ti24 (by first | exact Rd.all (by repeat (first | exact List.Mem.head _ | apply List.Mem.tail)) | (repeat (first | assumption | apply Rd.up))) rfl rfl ?_
  refine TOps.call (vs := [_]) Try.call38 ⟨rfl, trivial⟩ (cloneN_g hF0 hg) rfl ?_
  rintro _ _ ⟨N, hT, rfl⟩
  obtain ⟨ta, toff, tcap, tsp, rfl, hTN⟩ := hT
  refine TOps.buildStruct (vs := [(0, _)]) (xs := [_, _, _, _, _]) [(0, 3), (3, 1), (4, 1)] Try.underlying70 ti70 (fun w => by simp) ⟨rfl, rfl, trivial⟩ rfl rfl ?_
  refine TOps.boxN rfl ti70 rfl rfl (fun b13 => ?_)
  refine TOps.assign rfl rfl ?_
  refine TOps.assign rfl rfl ?_
  refine TOps.next ?_
  refine Tri.ret2 (H' := row (some b13) 70 5 1 [.int .i64 F.vars, slV ta toff F.nodes.length tcap tsp, .int .i64 F.top, .int .i64 0, slV none 0 0 0] :: row none 42 3 0 [] :: (N ++ H)) Try.results17 (fun _ _ h => h) (.tmp rfl) (.tmp rfl) ((Le.trans Le.addNil Le.swap).trans (Le.sub (List.Sublist.cons_cons _ (List.Sublist.cons_cons _ (List.Sublist.append_left s1 _))))) ⟨b13, slV ta toff F.nodes.length tcap tsp, N, rfl, ⟨ta, toff, tcap, tsp, rfl, hTN⟩, rfl⟩
theorem newOk_g {H : List Ent} {fv : Value} {F : Fm} (hF : RF H fv F) (hg : F.Good) :
    Gives Try.prog 17 [fv] H (fun u H' => ∃ m nv H2, u = .tuple (List.toArray [.pointer (some ⟨m, 0, none⟩), errV 47 none]) ∧ Le H2 H ∧ H.Sublist H2 ∧ RF H2 (.agg (List.toArray [.int .i64 F.vars, nv, .int .i64 F.top])) F ∧ row (some m) 70 5 1 [.int .i64 F.vars, nv, .int .i64 F.top, .int .i64 Mo.zero.f, slV none 0 Mo.zero.log.length 0] :: row none 42 3 0 (logCells Mo.zero.log) :: H2 = H') := by
  intro w hM
  refine (newN_g hF hg w hM).mono fun e W' h => ?_
  obtain ⟨v, H', ⟨m, nv, N, h1, h2, h3⟩, h4, h5⟩ := h
  exact ⟨v, H', ⟨m, nv, N ++ H, h1, Le.sub (List.sublist_append_right _ _), List.sublist_append_right _ _, h2.le (Le.sub (List.sublist_append_left _ _)), h3⟩, h4, h5⟩
theorem newErr_g {H : List Ent} {fv : Value} {F : Fm} (hF : RF H fv F) (hk : F.ok) {e : Int} (he : F.err = some e) :
    Gives Try.prog 17 [fv] H (R1 (.tuple (List.toArray [.pointer none, errV 47 (some e)])) H) := by
  have hF0 := hF
  obtain ⟨na, off, cap, nsp, rfl, hN⟩ := hF
  refine Gives.enter Try.func17 rfl (by exact Try.ntmps17) rfl ?_
  refine Tri.seq (Tri.region ?_)
  refine TOps.boxN rfl ti24 rfl rfl (fun b1 => ?_)
  refine TOps.hide (fun H1 l1 s1 r1 => ?_)
  replace hF0 := hF0.le l1
  refine TOps.assign rfl rfl ?_
  refine TOps.assign rfl rfl ?_
  refine TOps.next ?_
  refine Tri.seq ?_
  refine Tri.seq (Tri.region ?_)
  refine TOps.loadN rfl ti24 (by first | exact Rd.all (by repeat (first | exact List.Mem.head _ | apply List.Mem.tail)) | (repeat (first | assumption | apply Rd.up))) rfl rfl ?_
  refine TOps.call (vs := [_]) Try.call10 ⟨rfl, trivial⟩ (check_g hF0 hk) rfl ?_
  rintro _ _ ⟨rfl, rfl⟩
  rw [he]
  refine TOps.assign rfl rfl ?_
  refine TOps.next ?_
  refine Tri.seq (Tri.region ?_)
  refine TOps.move rfl rfl ?_
  refine TOps.neqNil (T := 47) (o := some e) rfl Try.underlying29 rfl ?_
  refine TOps.next ?_
  refine Tri.cond rfl (fun hc1 => ?_) (fun hc1 => ?_)
  · try simp only [decide_eq_true_eq, decide_eq_false_iff_not, Bool.and_eq_true, Bool.or_eq_true, Bool.not_eq_true', Bool.and_eq_false_iff, Bool.or_eq_false_iff, Bool.not_eq_false', Int.not_lt, Int.not_le, ne_eq, Decidable.not_not, Option.isSome_iff_ne_none, Option.isNone_iff_eq_none] at hc1
    refine Tri.seq (Tri.region ?_)
    refine TOps.move rfl rfl ?_
    refine TOps.assign rfl rfl ?_
    refine TOps.assign rfl rfl ?_
    refine TOps.next ?_
    refine Tri.ret2 (H' := H) Try.results17 (fun _ _ h => h) (.tmp rfl) (.tmp rfl) l1 ⟨rfl, rfl⟩
  · exact absurd hc1 (by first | decide | simp)
end Go.Proofs
