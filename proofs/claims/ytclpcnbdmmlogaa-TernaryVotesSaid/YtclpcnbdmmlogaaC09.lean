import Derived.Test.YtclpcnbdmmlogaaB09
import Derived.Test.YtclpcnbdmmlogaaGL27
namespace Go.Proofs
open Go.GL
set_option linter.unusedVariables false
set_option linter.unusedSimpArgs false
theorem one_g {H : List Ent} {xs : List Int} {a sp : Option Nat} {o cap m : Nat} (hr : RInts H a o xs sp) (hm : xs.length = m) (kind k : Int) :
    Gives Try.prog 14 [slV a o m cap sp, .int .i64 kind, .int .i64 k] H (NewF ⟨m, [⟨kind, k, xs⟩], m⟩ H) := by
  subst hm
  refine Gives.enter Try.func14 rfl (by exact Try.ntmps14) rfl ?_
  refine Tri.seq (Tri.region ?_)
  refine TOps.alloc ti24 rfl (fun b6 => ?_)
  refine TOps.next ?_
  refine Tri.seq (Tri.region ?_)
  refine TOps.move rfl rfl ?_
  refine TOps.len rfl Try.underlying34 rfl ?_
  refine TOps.move rfl rfl ?_
  refine TOps.move rfl rfl ?_
  refine TOps.move rfl rfl ?_
  refine TOps.buildStruct (vs := [(0, _), (1, _), (2, _)]) (xs := [_, _, _]) [(0, 1), (1, 1), (2, 1)] Try.underlying36 ti36 (fun w => by simp) ⟨rfl, rfl, rfl, rfl, rfl, rfl, trivial⟩ rfl rfl ?_
  refine TOps.buildSlice (vs := [_]) (xs := [_, _, _]) Try.underlying22 ti36 ⟨rfl, rfl, trivial⟩ rfl rfl rfl rfl rfl rfl (by decide) rfl (fun b13 => ?_)
  refine TOps.move rfl rfl ?_
  refine TOps.len rfl Try.underlying34 rfl ?_
  refine TOps.buildStruct (vs := [(0, _), (1, _), (2, _)]) (xs := [_, _, _]) [(0, 1), (1, 1), (2, 1)] Try.underlying24 ti24 (fun w => by simp) ⟨rfl, rfl, rfl, rfl, rfl, rfl, trivial⟩ rfl rfl ?_
  refine TOps.storeN rfl rfl ti24 rfl rfl (by repeat (first | exact Upd.here | apply Upd.there)) (by first | decide | (simp; done) | (simp; omega)) ?_
  refine TOps.next ?_
  refine Tri.ret1 (H' := _) Try.results14 (fun _ _ h => h) (.cellN rfl rfl ti24 (Rd.all (by repeat (first | exact List.Mem.head _ | apply List.Mem.tail))) rfl) (Le.refl _) ⟨(by repeat (first | exact Le.refl _ | apply Le.drop)), (by repeat (first | exact List.Sublist.refl _ | apply List.Sublist.cons)), ?_⟩
  refine ⟨some b13, 0, 1, none, rfl, RNodes.ofRow (E := 36) (sz := 3) (cap := 1) (qs := [(a, o, cap, sp)]) (by exact List.Mem.head _) rfl ?_⟩
  intro i d q hd hq
  rcases i with _ | i
  · simp at hd hq; subst hd hq; exact RdS.le hr (by repeat (first | exact Le.refl _ | apply Le.drop))
  · simp at hd
theorem ternaryVotes_g {H : List Ent} (q : Int) (hq : 0 ≤ q) (y n : Int) :
    Gives Try.prog 4 [.int .u8 q, .int .i64 y, .int .i64 n] H (R1 (.bool true) H) := by
  obtain ⟨q, rfl⟩ := Int.eq_ofNat_of_zero_le hq
  obtain ⟨m, hm⟩ : ∃ m, m = q % 8 + 1 := ⟨_, rfl⟩
  have m1 : 1 ≤ m := by omega
  have m8 : m ≤ 8 := by omega
  have G1 := oneF_good (kind := 2) (k := 0) m1 m8 (by decide) (by simp) (by simp)
  have G2 := oneF_good (kind := 4) (k := m) m1 m8 (by decide) (fun _ => by omega) (by simp)
  have G3 := oneF_good (kind := 3) (k := 0) m1 m8 (by decide) (by simp) (by simp)
  have G4 := oneF_good (kind := 4) (k := 1) m1 m8 (by decide) (fun _ => by omega) (by simp)
  have hY := lowBits_lt y m
  have hN := noPart_lt (y := lowBits y m) (lowBits_lt n m)
  have hYN := noPart_and (lowBits y m) (lowBits n m)
  have c1 : (oneF 2 0 m).cubeErr (lowBits y m : Nat) (noPart (lowBits y m) (lowBits n m) : Nat) = none := Fm.cubeErr_good G1 hY hN hYN
  have c2 : (oneF 4 m m).cubeErr (lowBits y m : Nat) (noPart (lowBits y m) (lowBits n m) : Nat) = none := Fm.cubeErr_good G2 hY hN hYN
  have c3 : (oneF 3 0 m).cubeErr (lowBits y m : Nat) (noPart (lowBits y m) (lowBits n m) : Nat) = none := Fm.cubeErr_good G3 hY hN hYN
  have c4 : (oneF 4 1 m).cubeErr (lowBits y m : Nat) (noPart (lowBits y m) (lowBits n m) : Nat) = none := Fm.cubeErr_good G4 hY hN hYN
  have hlaw := law_votes m1 m8 (lowBits y m : Nat) (noPart (lowBits y m) (lowBits n m) : Nat)
  have e1 := (Fm.good_iff _).2 G1
  have hrl := rangeI_length m
  refine Gives.enter Try.func4 rfl (by exact Try.ntmps4) rfl ?_
  refine Tri.seq (Tri.region ?_)
  refine TOps.assign rfl rfl ?_
  refine TOps.next ?_
  refine Tri.seq ?_
  refine Tri.seq (Tri.region ?_)
  refine TOps.call (vs := []) Try.call9 trivial (awake09_g) rfl ?_
  rintro _ _ ⟨rfl, rfl⟩
  refine TOps.not rfl rfl ?_
  refine TOps.next ?_
  refine Tri.cond rfl (fun hc1 => ?_) (fun hc1 => ?_)
  · try simp only [decide_eq_true_eq, decide_eq_false_iff_not, Bool.and_eq_true, Bool.or_eq_true, Bool.not_eq_true', Bool.and_eq_false_iff, Bool.or_eq_false_iff, Bool.not_eq_false', Int.not_lt, Int.not_le, ne_eq, Decidable.not_not, Option.isSome_iff_ne_none, Option.isNone_iff_eq_none] at hc1
    have hfalse : False := by simp at hc1
    refine Tri.seq (Tri.region ?_)
    refine TOps.assign rfl rfl ?_
    refine TOps.next ?_
    exact hfalse.elim
  try simp only [decide_eq_true_eq, decide_eq_false_iff_not, Bool.and_eq_true, Bool.or_eq_true, Bool.not_eq_true', Bool.and_eq_false_iff, Bool.or_eq_false_iff, Bool.not_eq_false', Int.not_lt, Int.not_le, ne_eq, Decidable.not_not, Option.isSome_iff_ne_none, Option.isNone_iff_eq_none] at hc1
  refine Tri.fin ?_
  refine Nrm.next ?_
  refine Tri.seq (Tri.region ?_)
  refine TOps.move rfl rfl ?_
  refine TOps.rem (r := ((q % 8 : Nat) : Int)) rfl rfl (by decide) rfl rfl ?_
  refine TOps.convI (r := ((q % 8 : Nat) : Int)) rfl Try.underlying5 Try.underlying3 (wrapI (by omega) (by omega)) rfl ?_
  refine TOps.add (r := (m : Int)) rfl rfl (by rw [wrapI (by omega) (by omega)]; omega) rfl ?_
  refine TOps.assign rfl rfl ?_
  refine TOps.next ?_
  refine Tri.seq (Tri.region ?_)
  refine TOps.assign rfl rfl ?_
  refine TOps.next ?_
  refine Tri.seq ?_
  refine Tri.seq (Tri.region ?_)
  refine TOps.move rfl rfl ?_
  refine TOps.move rfl rfl ?_
  refine TOps.next ?_
  refine Tri.range (X := Option Nat × Nat) (fun z k => [(1, .int .i64 y), (2, .int .i64 n), (7, .int .i64 m), (8, slV z.1 0 k z.2)]) (fun z k => row z.1 3 1 z.2 (ints (rangeI k)) :: H) (fun z k => k ≠ 0 → ∃ b, z.1 = some b) (by omega) rfl rfl rfl (fun _ _ => ⟨rfl, rfl, rfl, rfl⟩) (none, 0) (fun h => absurd rfl h) ⟨rfl, rfl, rfl, rfl, trivial⟩ Le.addNil (fun k z hlt hp => ?_) (fun z ac wc hp hS hM => ?_)
  · skip
    have hrk := rangeI_length k
    refine Tri.seq (Tri.region ?_)
    refine TOps.move rfl rfl ?_
    refine TOps.assign rfl rfl ?_
    refine TOps.next ?_
    refine Tri.region ?_
    refine TOps.move rfl rfl ?_
    refine TOps.move rfl rfl ?_
    refine TOps.buildSlice (vs := [_]) (xs := [_]) Try.underlying34 ti3 ⟨rfl, rfl, trivial⟩ rfl rfl rfl rfl rfl rfl (by decide) rfl (fun b33 => ?_)
    refine TOps.appendLit rfl rfl Try.underlying34 ti3 rfl (fun _ _ => Upd.here) rfl (by simp [hrk]) rfl (by omega) (by omega) (by simp) rfl (fun b34 cap34 => ?_)
    refine TOps.assign rfl rfl ?_
    refine TOps.fin ?_
    refine Nrm.body (some b34, cap34) (fun _ => ⟨_, rfl⟩) ⟨rfl, rfl, rfl, rfl, rfl, rfl, trivial⟩ (Le.rowEq (by rw [rangeI_succ]; simp [ints]))
  obtain ⟨zb, hzb⟩ := hp (by omega)
  obtain ⟨za, zc⟩ := z
  dsimp only at hzb hS hM ⊢
  subst hzb
  have hr : RInts (row (some zb) 3 1 zc (ints (rangeI m)) :: H) (some zb) 0 (rangeI m) := RInts.ofRow (.head _)
  generalize hH1 : row (some zb) 3 1 zc (ints (rangeI m)) :: H = H1 at hr hM
  have l1 : Le H1 H := by rw [← hH1]; exact Le.drop (Le.refl _)
  refine Nrm.of hS hM ?_
  refine Nrm.next ?_
  refine Tri.seq (Tri.region ?_)
  refine TOps.move rfl rfl ?_
  refine TOps.call (vs := [_, _, _]) Try.call14 ⟨rfl, rfl, rfl, trivial⟩ (one_g hr hrl 2 0) rfl ?_
  rintro tv H2 ⟨l2, s2, hF1⟩
  replace hF1 : RF H2 tv (oneF 2 0 m) := hF1
  have hF := hF1
  obtain ⟨ta, toff, tcap, tsp, rfl, hN1⟩ := hF1
  replace hr := RdS.le hr l2
  refine TOps.alloc ti24 rfl (fun b10 => ?_)
  refine TOps.storeN rfl rfl ti24 rfl rfl (by repeat (first | exact Upd.here | apply Upd.there)) (by first | decide | (simp; done) | (simp; omega)) ?_
  refine TOps.hide (fun H3 l3 s3 r3 => ?_)
  replace r3 : Rd H3 b10 0 [.int .i64 m, slV ta toff 1 tcap tsp, .int .i64 m] := r3
  replace hF := hF.le l3; replace hr := RdS.le hr l3
  refine TOps.next ?_
  refine Tri.seq (Tri.region ?_)
  refine TOps.loadN rfl ti24 (by first | exact Rd.all (by repeat (first | exact List.Mem.head _ | apply List.Mem.tail)) | (repeat (first | assumption | apply Rd.up))) rfl rfl ?_
  refine TOps.move rfl rfl ?_
  refine TOps.move rfl rfl ?_
  refine TOps.call (vs := [_, _, _]) Try.call12 ⟨rfl, rfl, rfl, trivial⟩ (cube_g hF G1 y n) rfl ?_
  rintro _ _ ⟨rfl, rfl⟩
  refine TOps.move rfl rfl ?_
  refine TOps.extract rfl rfl rfl ?_
  refine TOps.extract rfl rfl rfl ?_
  refine TOps.alloc ti31 rfl (fun b11 => ?_)
  refine TOps.storeN rfl rfl ti31 rfl rfl (by repeat (first | exact Upd.here | apply Upd.there)) (by first | decide | (simp; done) | (simp; omega)) ?_
  refine TOps.hide (fun H4 l4 s4 r4 => ?_)
  replace r4 : Rd H4 b11 0 [.int .i64 (lowBits y m : Nat), .int .i64 (noPart (lowBits y m) (lowBits n m) : Nat)] := r4
  replace hF := hF.le l4; replace hr := RdS.le hr l4; replace r3 := r3.le l4
  have l5 := l4.trans (l3.trans (l2.trans l1))
  refine TOps.assign rfl rfl ?_
  refine TOps.next ?_
  refine Tri.seq (Tri.region ?_)
  refine TOps.loadN rfl ti24 (by first | exact Rd.all (by repeat (first | exact List.Mem.head _ | apply List.Mem.tail)) | (repeat (first | assumption | apply Rd.up))) rfl rfl ?_
  refine TOps.loadN rfl ti31 (by first | exact Rd.all (by repeat (first | exact List.Mem.head _ | apply List.Mem.tail)) | (repeat (first | assumption | apply Rd.up))) rfl rfl ?_
  refine TOps.call (vs := [_, _]) Try.call13 ⟨rfl, rfl, trivial⟩ (tvalue_g hF G1.ok _ _) rfl ?_
  rintro _ _ ⟨rfl, rfl⟩
  rw [c1]
  refine TOps.move rfl rfl ?_
  refine TOps.extract rfl rfl rfl ?_
  refine TOps.extract rfl rfl rfl ?_
  refine TOps.assign rfl rfl ?_
  refine TOps.assign rfl rfl ?_
  refine TOps.next ?_
  refine Tri.seq ?_
  have hll : ∀ (G : Fm) (x : Value × List Ent) (c : Nat), Le (match c with | 0 => H4 | _ + 1 => fact (Le x.2 H4 ∧ RF x.2 x.1 G) :: x.2) H4 := by
    intro G x c; cases c; exact Le.refl _; exact fun w h => h.1.1 w h.tail
  refine Tri.drawX (X := Value × List Ent) rfl [(1, .int .i64 y), (2, .int .i64 n), (7, .int .i64 m), (8, slV (some zb) 0 m zc), (10, .pointer (some ⟨b10, 0, none⟩)), (11, .pointer (some ⟨b11, 0, none⟩)), (13, .int .i64 ((oneF 2 0 m).tval (lowBits y m : Nat) (noPart (lowBits y m) (lowBits n m) : Nat) m : Nat)), (14, errV 62 none)] [] (fun x => [_, _, x.1, _, _, _, _, _, _, _]) (fun x c => match c with | 0 => H4 | _ + 1 => fact (Le x.2 H4 ∧ RF x.2 x.1 (oneF 4 m m)) :: x.2) [2] (undef, []) [8, 9] rfl rfl ⟨rfl, rfl, rfl, rfl, rfl, rfl, rfl, rfl, trivial⟩ trivial (by repeat (first | exact Le.refl _ | assumption | apply Le.drop)) (by
    refine ⟨?_, ?_, ?_, ?_, ?_, ?_, ?_, ?_, ?_, ?_, trivial⟩
    · refine ⟨fun x S c he hw hd hc hcu hm _ => ?_, trivial⟩
      refine TOps.move (he _ _ rfl) rfl ?_
      exact TOps.fin (Nrm.draw x (fun _ _ _ => rfl) rfl (by first | exact Le.refl _ | assumption | exact (by repeat (first | exact Le.refl _ | assumption | apply Le.drop))))
    · refine ⟨fun x S c he hw hd hc hcu hm _ => ?_, trivial⟩
      refine TOps.move (he _ _ rfl) rfl ?_
      exact TOps.fin (Nrm.draw x (fun _ _ _ => rfl) rfl (by first | exact Le.refl _ | assumption | exact (by repeat (first | exact Le.refl _ | assumption | apply Le.drop))))
    · refine ⟨fun x S c he hw hd hc hcu hm _ => ?_, trivial⟩
      obtain ⟨h0, h1, -⟩ := hd
      obtain rfl : c = 0 := hm rfl
      refine TOps.call (vs := [_, _, _]) Try.call14 ⟨h0, rfl, h1, trivial⟩ (one_g hr hrl 4 m) rfl ?_
      rintro tv2 H5 ⟨l6, s6, hR6⟩
      refine TOps.fin (Nrm.draw (tv2, H5) ?_ rfl (Le.addFact ⟨l6, hR6⟩))
      intro j hj hcj; rcases j with _|_|_|_|_|_|_|_|_|_|j <;> first | rfl | exact absurd rfl hj | exact absurd hcj (by decide)
    · refine ⟨fun x S c he hw hd hc hcu hm _ => ?_, trivial⟩
      refine TOps.loadN (he _ _ rfl) ti31 (Rd.le (by first | exact Rd.all (by repeat (first | exact List.Mem.head _ | apply List.Mem.tail)) | (repeat (first | assumption | apply Rd.up))) (hll (oneF 4 m m) x c)) rfl rfl ?_
      exact TOps.fin (Nrm.draw x (fun _ _ _ => rfl) rfl (by first | exact Le.refl _ | assumption | exact (by repeat (first | exact Le.refl _ | assumption | apply Le.drop))))
    · refine ⟨fun x S c he hw hd hc hcu hm _ => ?_, trivial⟩
      obtain ⟨h2, h3, _, -⟩ := hd
      obtain ⟨c', rfl⟩ : ∃ c', c = c' + 1 := ⟨c - 1, by have : 1 ≤ c := hc; omega⟩
      refine TOps.fact (List.Mem.head _) (fun hf => ?_)
      refine TOps.call (vs := [_, _]) Try.call13 ⟨h2, h3, trivial⟩ (tvalue_g (hf.2.le (Le.drop (Le.refl _))) G2.ok _ _) rfl ?_
      rintro _ _ ⟨rfl, rfl⟩
      rw [c2]
      exact TOps.fin (Nrm.draw x (fun _ _ _ => rfl) rfl (Le.refl _))
    · refine ⟨fun x S c he hw hd hc hcu hm _ => ?_, trivial⟩
      obtain ⟨h4, -⟩ := hd
      refine TOps.move h4 rfl ?_
      exact TOps.fin (Nrm.draw x (fun _ _ _ => rfl) rfl (by first | exact Le.refl _ | assumption | exact (by repeat (first | exact Le.refl _ | assumption | apply Le.drop))))
    · refine ⟨fun x S c he hw hd hc hcu hm _ => ?_, trivial⟩
      obtain ⟨h5, -⟩ := hd
      refine TOps.extract h5 rfl rfl ?_
      exact TOps.fin (Nrm.draw x (fun _ _ _ => rfl) rfl (by first | exact Le.refl _ | assumption | exact (by repeat (first | exact Le.refl _ | assumption | apply Le.drop))))
    · refine ⟨fun x S c he hw hd hc hcu hm _ => ?_, trivial⟩
      obtain ⟨h5, -⟩ := hd
      refine TOps.extract h5 rfl rfl ?_
      exact TOps.fin (Nrm.draw x (fun _ _ _ => rfl) rfl (by first | exact Le.refl _ | assumption | exact (by repeat (first | exact Le.refl _ | assumption | apply Le.drop))))
    · refine ⟨fun x S c he hw hd hc hcu hm _ => ?_, trivial⟩
      obtain ⟨h6, h4, h0, h1, h2, h3, _, h5, _, -⟩ := hd
      refine TOps.assign h6 rfl ?_
      exact TOps.fin (Nrm.draw x (fun _ _ _ => rfl) rfl (by first | exact Le.refl _ | assumption | exact (by repeat (first | exact Le.refl _ | assumption | apply Le.drop))))
    · refine ⟨fun x S c he hw hd hc hcu hm _ => ?_, trivial⟩
      obtain ⟨h7, h8, h0, h1, h2, h3, h4, h5, h6, _, _, -⟩ := hd
      refine TOps.assign h7 rfl ?_
      exact TOps.fin (Nrm.draw x (fun _ _ _ => rfl) rfl (by first | exact Le.refl _ | assumption | exact (by repeat (first | exact Le.refl _ | assumption | apply Le.drop))))
    ) (fun w => ?_)
  refine Nrm.fact (List.Mem.head _) (fun hf => ?_)
  refine Nrm.le (Le.drop hf.1) ?_
  refine Nrm.next ?_
  refine Tri.seq ?_
  refine Tri.drawX (X := Value × List Ent) rfl [(1, .int .i64 y), (2, .int .i64 n), (7, .int .i64 m), (8, slV (some zb) 0 m zc), (10, .pointer (some ⟨b10, 0, none⟩)), (11, .pointer (some ⟨b11, 0, none⟩)), (13, .int .i64 ((oneF 2 0 m).tval (lowBits y m : Nat) (noPart (lowBits y m) (lowBits n m) : Nat) m : Nat)), (14, errV 62 none), (15, .int .i64 ((oneF 4 m m).tval (lowBits y m : Nat) (noPart (lowBits y m) (lowBits n m) : Nat) m : Nat)), (16, errV 62 none)] [] (fun x => [_, x.1, _, _, _, _, _, _, _]) (fun x c => match c with | 0 => H4 | _ + 1 => fact (Le x.2 H4 ∧ RF x.2 x.1 (oneF 3 0 m)) :: x.2) [1] (undef, []) [7, 8] rfl rfl ⟨rfl, rfl, rfl, rfl, rfl, rfl, rfl, rfl, rfl, rfl, trivial⟩ trivial (by repeat (first | exact Le.refl _ | assumption | apply Le.drop)) (by
    refine ⟨?_, ?_, ?_, ?_, ?_, ?_, ?_, ?_, ?_, trivial⟩
    · refine ⟨fun x S c he hw hd hc hcu hm _ => ?_, trivial⟩
      refine TOps.move (he _ _ rfl) rfl ?_
      exact TOps.fin (Nrm.draw x (fun _ _ _ => rfl) rfl (by first | exact Le.refl _ | assumption | exact (by repeat (first | exact Le.refl _ | assumption | apply Le.drop))))
    · refine ⟨fun x S c he hw hd hc hcu hm _ => ?_, trivial⟩
      obtain ⟨h0, -⟩ := hd
      obtain rfl : c = 0 := hm rfl
      refine TOps.call (vs := [_, _, _]) Try.call14 ⟨h0, rfl, rfl, trivial⟩ (one_g hr hrl 3 0) rfl ?_
      rintro tv2 H5 ⟨l6, s6, hR6⟩
      refine TOps.fin (Nrm.draw (tv2, H5) ?_ rfl (Le.addFact ⟨l6, hR6⟩))
      intro j hj hcj; rcases j with _|_|_|_|_|_|_|_|_|j <;> first | rfl | exact absurd rfl hj | exact absurd hcj (by decide)
    · refine ⟨fun x S c he hw hd hc hcu hm _ => ?_, trivial⟩
      refine TOps.loadN (he _ _ rfl) ti31 (Rd.le (by first | exact Rd.all (by repeat (first | exact List.Mem.head _ | apply List.Mem.tail)) | (repeat (first | assumption | apply Rd.up))) (hll (oneF 3 0 m) x c)) rfl rfl ?_
      exact TOps.fin (Nrm.draw x (fun _ _ _ => rfl) rfl (by first | exact Le.refl _ | assumption | exact (by repeat (first | exact Le.refl _ | assumption | apply Le.drop))))
    · refine ⟨fun x S c he hw hd hc hcu hm _ => ?_, trivial⟩
      obtain ⟨h1, h2, _, -⟩ := hd
      obtain ⟨c', rfl⟩ : ∃ c', c = c' + 1 := ⟨c - 1, by have : 1 ≤ c := hc; omega⟩
      refine TOps.fact (List.Mem.head _) (fun hf => ?_)
      refine TOps.call (vs := [_, _]) Try.call13 ⟨h1, h2, trivial⟩ (tvalue_g (hf.2.le (Le.drop (Le.refl _))) G3.ok _ _) rfl ?_
      rintro _ _ ⟨rfl, rfl⟩
      rw [c3]
      exact TOps.fin (Nrm.draw x (fun _ _ _ => rfl) rfl (Le.refl _))
    · refine ⟨fun x S c he hw hd hc hcu hm _ => ?_, trivial⟩
      obtain ⟨h3, -⟩ := hd
      refine TOps.move h3 rfl ?_
      exact TOps.fin (Nrm.draw x (fun _ _ _ => rfl) rfl (by first | exact Le.refl _ | assumption | exact (by repeat (first | exact Le.refl _ | assumption | apply Le.drop))))
    · refine ⟨fun x S c he hw hd hc hcu hm _ => ?_, trivial⟩
      obtain ⟨h4, -⟩ := hd
      refine TOps.extract h4 rfl rfl ?_
      exact TOps.fin (Nrm.draw x (fun _ _ _ => rfl) rfl (by first | exact Le.refl _ | assumption | exact (by repeat (first | exact Le.refl _ | assumption | apply Le.drop))))
    · refine ⟨fun x S c he hw hd hc hcu hm _ => ?_, trivial⟩
      obtain ⟨h4, -⟩ := hd
      refine TOps.extract h4 rfl rfl ?_
      exact TOps.fin (Nrm.draw x (fun _ _ _ => rfl) rfl (by first | exact Le.refl _ | assumption | exact (by repeat (first | exact Le.refl _ | assumption | apply Le.drop))))
    · refine ⟨fun x S c he hw hd hc hcu hm _ => ?_, trivial⟩
      obtain ⟨h5, h3, h0, h1, h2, _, h4, _, -⟩ := hd
      refine TOps.assign h5 rfl ?_
      exact TOps.fin (Nrm.draw x (fun _ _ _ => rfl) rfl (by first | exact Le.refl _ | assumption | exact (by repeat (first | exact Le.refl _ | assumption | apply Le.drop))))
    · refine ⟨fun x S c he hw hd hc hcu hm _ => ?_, trivial⟩
      obtain ⟨h6, h7, h0, h1, h2, h3, h4, h5, _, _, -⟩ := hd
      refine TOps.assign h6 rfl ?_
      exact TOps.fin (Nrm.draw x (fun _ _ _ => rfl) rfl (by first | exact Le.refl _ | assumption | exact (by repeat (first | exact Le.refl _ | assumption | apply Le.drop))))
    ) (fun w2 => ?_)
  refine Nrm.fact (List.Mem.head _) (fun hf => ?_)
  refine Nrm.le (Le.drop hf.1) ?_
  refine Nrm.next ?_
  refine Tri.seq ?_
  refine Tri.drawX (X := Value × List Ent) rfl [(10, .pointer (some ⟨b10, 0, none⟩)), (8, slV (some zb) 0 m zc), (11, .pointer (some ⟨b11, 0, none⟩)), (13, .int .i64 ((oneF 2 0 m).tval (lowBits y m : Nat) (noPart (lowBits y m) (lowBits n m) : Nat) m : Nat)), (14, errV 62 none), (15, .int .i64 ((oneF 4 m m).tval (lowBits y m : Nat) (noPart (lowBits y m) (lowBits n m) : Nat) m : Nat)), (16, errV 62 none), (17, .int .i64 ((oneF 3 0 m).tval (lowBits y m : Nat) (noPart (lowBits y m) (lowBits n m) : Nat) m : Nat)), (18, errV 62 none)] [] (fun x => [_, x.1, _, _, _, _, _, _, _]) (fun x c => match c with | 0 => H4 | _ + 1 => fact (Le x.2 H4 ∧ RF x.2 x.1 (oneF 4 1 m)) :: x.2) [1] (undef, []) [7, 8] rfl rfl ⟨rfl, rfl, rfl, rfl, rfl, rfl, rfl, rfl, rfl, trivial⟩ trivial (by repeat (first | exact Le.refl _ | assumption | apply Le.drop)) (by
    refine ⟨?_, ?_, ?_, ?_, ?_, ?_, ?_, ?_, ?_, trivial⟩
    · refine ⟨fun x S c he hw hd hc hcu hm _ => ?_, trivial⟩
      refine TOps.move (he _ _ rfl) rfl ?_
      exact TOps.fin (Nrm.draw x (fun _ _ _ => rfl) rfl (by first | exact Le.refl _ | assumption | exact (by repeat (first | exact Le.refl _ | assumption | apply Le.drop))))
    · refine ⟨fun x S c he hw hd hc hcu hm _ => ?_, trivial⟩
      obtain ⟨h0, -⟩ := hd
      obtain rfl : c = 0 := hm rfl
      refine TOps.call (vs := [_, _, _]) Try.call14 ⟨h0, rfl, rfl, trivial⟩ (one_g hr hrl 4 1) rfl ?_
      rintro tv2 H5 ⟨l6, s6, hR6⟩
      refine TOps.fin (Nrm.draw (tv2, H5) ?_ rfl (Le.addFact ⟨l6, hR6⟩))
      intro j hj hcj; rcases j with _|_|_|_|_|_|_|_|_|j <;> first | rfl | exact absurd rfl hj | exact absurd hcj (by decide)
    · refine ⟨fun x S c he hw hd hc hcu hm _ => ?_, trivial⟩
      refine TOps.loadN (he _ _ rfl) ti31 (Rd.le (by first | exact Rd.all (by repeat (first | exact List.Mem.head _ | apply List.Mem.tail)) | (repeat (first | assumption | apply Rd.up))) (hll (oneF 4 1 m) x c)) rfl rfl ?_
      exact TOps.fin (Nrm.draw x (fun _ _ _ => rfl) rfl (by first | exact Le.refl _ | assumption | exact (by repeat (first | exact Le.refl _ | assumption | apply Le.drop))))
    · refine ⟨fun x S c he hw hd hc hcu hm _ => ?_, trivial⟩
      obtain ⟨h1, h2, _, -⟩ := hd
      obtain ⟨c', rfl⟩ : ∃ c', c = c' + 1 := ⟨c - 1, by have : 1 ≤ c := hc; omega⟩
      refine TOps.fact (List.Mem.head _) (fun hf => ?_)
      refine TOps.call (vs := [_, _]) Try.call13 ⟨h1, h2, trivial⟩ (tvalue_g (hf.2.le (Le.drop (Le.refl _))) G4.ok _ _) rfl ?_
      rintro _ _ ⟨rfl, rfl⟩
      rw [c4]
      exact TOps.fin (Nrm.draw x (fun _ _ _ => rfl) rfl (Le.refl _))
    · refine ⟨fun x S c he hw hd hc hcu hm _ => ?_, trivial⟩
      obtain ⟨h3, -⟩ := hd
      refine TOps.move h3 rfl ?_
      exact TOps.fin (Nrm.draw x (fun _ _ _ => rfl) rfl (by first | exact Le.refl _ | assumption | exact (by repeat (first | exact Le.refl _ | assumption | apply Le.drop))))
    · refine ⟨fun x S c he hw hd hc hcu hm _ => ?_, trivial⟩
      obtain ⟨h4, -⟩ := hd
      refine TOps.extract h4 rfl rfl ?_
      exact TOps.fin (Nrm.draw x (fun _ _ _ => rfl) rfl (by first | exact Le.refl _ | assumption | exact (by repeat (first | exact Le.refl _ | assumption | apply Le.drop))))
    · refine ⟨fun x S c he hw hd hc hcu hm _ => ?_, trivial⟩
      obtain ⟨h4, -⟩ := hd
      refine TOps.extract h4 rfl rfl ?_
      exact TOps.fin (Nrm.draw x (fun _ _ _ => rfl) rfl (by first | exact Le.refl _ | assumption | exact (by repeat (first | exact Le.refl _ | assumption | apply Le.drop))))
    · refine ⟨fun x S c he hw hd hc hcu hm _ => ?_, trivial⟩
      obtain ⟨h5, h3, h0, h1, h2, _, h4, _, -⟩ := hd
      refine TOps.assign h5 rfl ?_
      exact TOps.fin (Nrm.draw x (fun _ _ _ => rfl) rfl (by first | exact Le.refl _ | assumption | exact (by repeat (first | exact Le.refl _ | assumption | apply Le.drop))))
    · refine ⟨fun x S c he hw hd hc hcu hm _ => ?_, trivial⟩
      obtain ⟨h6, h7, h0, h1, h2, h3, h4, h5, _, _, -⟩ := hd
      refine TOps.assign h6 rfl ?_
      exact TOps.fin (Nrm.draw x (fun _ _ _ => rfl) rfl (by first | exact Le.refl _ | assumption | exact (by repeat (first | exact Le.refl _ | assumption | apply Le.drop))))
    ) (fun w3 => ?_)
  refine Nrm.fact (List.Mem.head _) (fun hf => ?_)
  refine Nrm.le (Le.drop hf.1) ?_
  refine Nrm.next ?_
  refine Tri.seq (Tri.region ?_)
  refine TOps.move rfl rfl ?_
  refine TOps.eqlNil (T := 62) (o := none) rfl Try.underlying28 rfl ?_
  refine TOps.move rfl rfl ?_
  refine' TOps.andB 2 rfl rfl rfl rfl (fun hg16_2 => ?_) ?_; rotate_left
  · have hg16_2' := hg16_2
    try simp only [decide_eq_true_eq, decide_eq_false_iff_not, Bool.and_eq_true, Bool.or_eq_true, Bool.not_eq_true', Bool.and_eq_false_iff, Bool.or_eq_false_iff, Bool.not_eq_false', Int.not_lt, Int.not_le, ne_eq, Decidable.not_not] at hg16_2'
    refine TOps.strip 2 true rfl rfl hg16_2 rfl ?_
    refine TOps.move rfl rfl ?_
    refine TOps.eqlNil (T := 62) (o := none) rfl Try.underlying28 rfl ?_
    refine TOps.blk rfl (by repeat (first | exact Ext.refl _ | refine Ext.cons rfl ?_)) (by repeat (first | exact Le.refl _ | apply Le.drop))
  refine TOps.move rfl rfl ?_
  refine' TOps.andB 2 rfl rfl rfl rfl (fun hg16_6 => ?_) ?_; rotate_left
  · have hg16_6' := hg16_6
    try simp only [decide_eq_true_eq, decide_eq_false_iff_not, Bool.and_eq_true, Bool.or_eq_true, Bool.not_eq_true', Bool.and_eq_false_iff, Bool.or_eq_false_iff, Bool.not_eq_false', Int.not_lt, Int.not_le, ne_eq, Decidable.not_not] at hg16_6'
    refine TOps.strip 6 true rfl rfl hg16_6 rfl ?_
    refine TOps.move rfl rfl ?_
    refine TOps.eqlNil (T := 62) (o := none) rfl Try.underlying28 rfl ?_
    refine TOps.blk rfl (by repeat (first | exact Ext.refl _ | refine Ext.cons rfl ?_)) (by repeat (first | exact Le.refl _ | apply Le.drop))
  refine TOps.move rfl rfl ?_
  refine' TOps.andB 2 rfl rfl rfl rfl (fun hg16_10 => ?_) ?_; rotate_left
  · have hg16_10' := hg16_10
    try simp only [decide_eq_true_eq, decide_eq_false_iff_not, Bool.and_eq_true, Bool.or_eq_true, Bool.not_eq_true', Bool.and_eq_false_iff, Bool.or_eq_false_iff, Bool.not_eq_false', Int.not_lt, Int.not_le, ne_eq, Decidable.not_not] at hg16_10'
    refine TOps.strip 10 true rfl rfl hg16_10 rfl ?_
    refine TOps.move rfl rfl ?_
    refine TOps.eqlNil (T := 62) (o := none) rfl Try.underlying28 rfl ?_
    refine TOps.blk rfl (by repeat (first | exact Ext.refl _ | refine Ext.cons rfl ?_)) (by repeat (first | exact Le.refl _ | apply Le.drop))
  refine TOps.move rfl rfl ?_
  refine' TOps.andB 3 rfl rfl rfl rfl (fun hg16_14 => ?_) ?_; rotate_left
  · have hg16_14' := hg16_14
    try simp only [decide_eq_true_eq, decide_eq_false_iff_not, Bool.and_eq_true, Bool.or_eq_true, Bool.not_eq_true', Bool.and_eq_false_iff, Bool.or_eq_false_iff, Bool.not_eq_false', Int.not_lt, Int.not_le, ne_eq, Decidable.not_not] at hg16_14'
    refine TOps.strip 14 true rfl rfl hg16_14 rfl ?_
    refine TOps.move rfl rfl ?_
    refine TOps.move rfl rfl ?_
    refine TOps.eqlI rfl rfl rfl ?_
    refine TOps.blk rfl (by repeat (first | exact Ext.refl _ | refine Ext.cons rfl ?_)) (by repeat (first | exact Le.refl _ | apply Le.drop))
  refine TOps.move rfl rfl ?_
  refine' TOps.andB 3 rfl rfl rfl rfl (fun hg16_19 => ?_) ?_; rotate_left
  · have hg16_19' := hg16_19
    try simp only [decide_eq_true_eq, decide_eq_false_iff_not, Bool.and_eq_true, Bool.or_eq_true, Bool.not_eq_true', Bool.and_eq_false_iff, Bool.or_eq_false_iff, Bool.not_eq_false', Int.not_lt, Int.not_le, ne_eq, Decidable.not_not] at hg16_19'
    refine TOps.strip 19 true rfl rfl hg16_19 rfl ?_
    refine TOps.move rfl rfl ?_
    refine TOps.move rfl rfl ?_
    refine TOps.eqlI rfl rfl rfl ?_
    refine TOps.blk rfl (by repeat (first | exact Ext.refl _ | refine Ext.cons rfl ?_)) (by repeat (first | exact Le.refl _ | apply Le.drop))
  refine TOps.move rfl rfl ?_
  refine' TOps.andB 3 rfl rfl rfl rfl (fun hg16_24 => ?_) ?_; rotate_left
  · have hg16_24' := hg16_24
    try simp only [decide_eq_true_eq, decide_eq_false_iff_not, Bool.and_eq_true, Bool.or_eq_true, Bool.not_eq_true', Bool.and_eq_false_iff, Bool.or_eq_false_iff, Bool.not_eq_false', Int.not_lt, Int.not_le, ne_eq, Decidable.not_not] at hg16_24'
    refine TOps.strip 24 true rfl rfl hg16_24 rfl ?_
    refine TOps.loadN rfl ti24 (by first | exact Rd.all (by repeat (first | exact List.Mem.head _ | apply List.Mem.tail)) | (repeat (first | assumption | apply Rd.up))) rfl rfl ?_
    refine TOps.call (vs := [_]) Try.call15 ⟨rfl, trivial⟩ (rcheck_g hF G1.ok) rfl ?_
    rintro _ _ ⟨rfl, rfl⟩
    refine TOps.eqlI rfl rfl rfl ?_
    refine TOps.blk rfl (by repeat (first | exact Ext.refl _ | refine Ext.cons rfl ?_)) (by repeat (first | exact Le.refl _ | apply Le.drop))
  refine TOps.assign rfl rfl ?_
  refine TOps.next ?_
  have ht : ∀ a b, (oneF a b m).top.toNat = m := fun _ _ => by simp [oneF]
  refine Tri.ret1 (H' := H) Try.results4 (fun _ _ h => h) (.tmp rfl) l5 ⟨by rw [e1]; simp [hlaw.1, hlaw.2, ht], rfl⟩
end Go.Proofs
