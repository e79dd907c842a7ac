import Derived.Test.YtlgjmebebhpolaaD08
namespace Go.Proofs
open Go.GL
set_option linter.unusedVariables false
set_option linter.unusedSimpArgs false
theorem support_g {H : List Ent} {fv : Value} {F : Fm} (hF : RF H fv F) (hk : F.ok) :
    Gives Try.prog 32 [fv] H (R1 (.tuple (List.toArray [.int .i64 (bif F.err.isNone then (F.support : Int) else 0), errV 48 F.err])) H) := by
  have hF0 := hF
  obtain ⟨a, off, cap, nsp, rfl, hN⟩ := hF
  refine Gives.enter Try.func32 rfl (by exact Try.ntmps32) rfl ?_
  refine Tri.seq (Tri.region ?_)
  refine TOps.boxN rfl ti24 rfl rfl (fun b1 => ?_)
  refine TOps.hide (fun H1 l1 s1 r1 => ?_)
  replace hF0 := hF0.le l1
  refine TOps.assign rfl rfl ?_
  refine TOps.assign rfl rfl ?_
  refine TOps.next ?_
  refine Tri.seq ?_
  refine Tri.seq (Tri.region ?_)
  refine TOps.loadN rfl ti24 (by first | exact Rd.all (by repeat (first | exact List.Mem.head _ | apply List.Mem.tail)) | (repeat (first | assumption | apply Rd.up))) rfl rfl ?_
  refine TOps.call (vs := [_]) Try.call18 ⟨rfl, trivial⟩ (check_g hF0 hk) rfl ?_
  rintro _ _ ⟨rfl, rfl⟩
  refine TOps.assign rfl rfl ?_
  refine TOps.next ?_
  refine Tri.seq (Tri.region ?_)
  refine TOps.move rfl rfl ?_
  refine TOps.neqNil rfl Try.underlying29 rfl ?_
  refine TOps.next ?_
  refine Tri.cond rfl (fun hc1 => ?_) (fun hc1 => ?_)
  · try simp only [decide_eq_true_eq, decide_eq_false_iff_not, Bool.and_eq_true, Bool.or_eq_true, Bool.not_eq_true', Bool.and_eq_false_iff, Bool.or_eq_false_iff, Bool.not_eq_false', Int.not_lt, Int.not_le, ne_eq, Decidable.not_not, Option.isSome_iff_ne_none, Option.isNone_iff_eq_none] at hc1
    obtain ⟨e, he⟩ := Option.ne_none_iff_exists'.1 hc1
    refine Tri.seq (Tri.region ?_)
    refine TOps.move rfl rfl ?_
    refine TOps.assign rfl rfl ?_
    refine TOps.assign rfl rfl ?_
    refine TOps.next ?_
    refine Tri.ret2 (H' := H) Try.results32 (fun _ _ h => h) (.tmp rfl) (.tmp rfl) l1 ⟨by rw [he]; rfl, rfl⟩
  try simp only [decide_eq_true_eq, decide_eq_false_iff_not, Bool.and_eq_true, Bool.or_eq_true, Bool.not_eq_true', Bool.and_eq_false_iff, Bool.or_eq_false_iff, Bool.not_eq_false', Int.not_lt, Int.not_le, ne_eq, Decidable.not_not, Option.isSome_iff_ne_none, Option.isNone_iff_eq_none] at hc1
  have he : F.err = none := by simpa using hc1
  have hg := (Fm.good_iff F).1 he
  have g0 := hg.v0; have g1 := hg.v1
  obtain ⟨v, hv⟩ := Int.eq_ofNat_of_zero_le g0
  have hvn : F.vars.toNat = v := by omega
  have hbl := F.below_length
  rw [hv] at r1 hF0 ⊢
  refine Tri.fin ?_
  refine Nrm.next ?_
  refine Tri.seq (Tri.region ?_)
  refine TOps.assign rfl rfl ?_
  refine TOps.next ?_
  refine Tri.seq ?_
  refine Tri.seq ?_
  have hle : ∀ (x : Nat × Nat) (c : Nat), Le (match c with | 0 => H1 | _ + 1 => row (some x.1) 4 1 x.2 (bools F.below) :: H1) H1 := by
    intro x c; cases c; exact Le.refl _; exact Le.drop (Le.refl _)
  refine Tri.drawN (X := Nat × Nat) rfl [(1, .pointer (some ⟨b1, 0, none⟩)), (5, .int .i64 0)] [] (fun x i => ([.agg (List.toArray [.int .i64 v, slV a off F.nodes.length cap nsp, .int .i64 F.top]), slV (some x.1) 0 (F.vars.toNat + F.nodes.length) x.2, .pointer (some ⟨b1, 0, none⟩), .int .i64 v, slV (some x.1) 0 v x.2, .int .i64 v, .int .i64 0] : List Value).getD i undef) (fun x c => match c with | 0 => H1 | _ + 1 => row (some x.1) 4 1 x.2 (bools F.below) :: H1) [1] (0, 0) [4, 5, 6] rfl rfl ⟨rfl, rfl, trivial⟩ trivial (by repeat (first | exact Le.refl _ | assumption | apply Le.drop)) ?_ (fun x => ?_)
  · refine ⟨?_, ?_, ?_, ?_, ?_, ?_, ?_, trivial⟩
    · refine ⟨fun x S c he hw hd hc hcu hm _ => ?_, trivial⟩
      refine TOps.loadN (he _ _ rfl) ti24 (Rd.le (by first | exact Rd.all (by repeat (first | exact List.Mem.head _ | apply List.Mem.tail)) | (repeat (first | assumption | apply Rd.up))) (hle x c)) rfl rfl ?_
      exact TOps.fin (Nrm.draw x (fun _ _ _ => rfl) rfl (by first | exact Le.refl _ | assumption | exact (by repeat (first | exact Le.refl _ | assumption | apply Le.drop))))
    · refine ⟨fun x S c he hw hd hc hcu hm _ => ?_, trivial⟩
      obtain ⟨h0, -⟩ := hd
      obtain rfl : c = 0 := hm rfl
      refine TOps.call (vs := [_]) Try.call41 ⟨h0, trivial⟩ (below_g hF0 hk hg) rfl ?_
      rintro _ _ ⟨b, cp, rfl, rfl⟩
      refine TOps.fin (Nrm.draw (b, cp) ?_ rfl (Le.refl _))
      intro j hj hcj
      rcases j with _|_|_|_|_|_|_|j <;> first | rfl | exact absurd rfl hj | exact absurd hcj (by decide)
    · refine ⟨fun x S c he hw hd hc hcu hm _ => ?_, trivial⟩
      refine TOps.field0 (he _ _ rfl) Try.underlying24 rfl rfl ti3 rfl rfl rfl ?_
      exact TOps.fin (Nrm.draw x (fun _ _ _ => rfl) rfl (by first | exact Le.refl _ | assumption | exact (by repeat (first | exact Le.refl _ | assumption | apply Le.drop))))
    · refine ⟨fun x S c he hw hd hc hcu hm _ => ?_, trivial⟩
      obtain ⟨h2, -⟩ := hd
      refine TOps.load1 h2 ti3 (Rd.le (by first | exact Rd.lit (by repeat (first | exact List.Mem.head _ | apply List.Mem.tail)) rfl | (repeat (first | assumption | exact Rd.fld (by assumption) 0 rfl | apply Rd.up))) (hle x c)) rfl ?_
      exact TOps.fin (Nrm.draw x (fun _ _ _ => rfl) rfl (by first | exact Le.refl _ | assumption | exact (by repeat (first | exact Le.refl _ | assumption | apply Le.drop))))
    · refine ⟨fun x S c he hw hd hc hcu hm _ => ?_, trivial⟩
      obtain ⟨h1, h3, -⟩ := hd
      obtain ⟨c', rfl⟩ : ∃ c', c = c' + 1 := ⟨c - 1, by have : 1 ≤ c := hc; omega⟩
      refine TOps.rowCap (List.Mem.head _) (fun hcap => ?_)
      have hcap' : v ≤ x.2 := by rw [List.length_map, hbl] at hcap; omega
      refine TOps.sliceHi h1 h3 Try.underlying27 ti4 hcap' rfl ?_
      exact TOps.fin (Nrm.draw x (fun _ _ _ => rfl) rfl (by first | exact Le.refl _ | assumption | exact (by repeat (first | exact Le.refl _ | assumption | apply Le.drop))))
    · refine ⟨fun x S c he hw hd hc hcu hm _ => ?_, trivial⟩
      obtain ⟨h4, -⟩ := hd
      obtain ⟨c', rfl⟩ : ∃ c', c = c' + 1 := ⟨c - 1, by have : 1 ≤ c := hc; omega⟩
      refine TOps.len h4 Try.underlying27 rfl ?_
      exact TOps.fin (Nrm.draw x (fun _ _ _ => rfl) rfl (by first | exact Le.refl _ | assumption | exact (by repeat (first | exact Le.refl _ | assumption | apply Le.drop))))
    · refine ⟨fun x S c he hw hd hc hcu hm _ => ?_, trivial⟩
      refine TOps.move rfl rfl ?_
      exact TOps.fin (Nrm.draw x (fun _ _ _ => rfl) rfl (by first | exact Le.refl _ | assumption | exact (by repeat (first | exact Le.refl _ | assumption | apply Le.drop))))
  refine Nrm.next ?_
  refine Tri.range (X := Unit) (fun y k => [(5, .int .i64 (setOf F.below k : Nat)), (17, slV (some x.1) 0 v x.2)]) (fun y k => row (some x.1) 4 1 x.2 (bools F.below) :: H1) (fun y k => True) (by omega) rfl rfl rfl (fun _ _ => ⟨rfl, rfl, rfl, rfl⟩) () trivial ⟨rfl, rfl, trivial⟩ (by repeat (first | exact Le.refl _ | assumption | apply Le.drop)) (fun k y hlt hp => ?_) (fun y ac wc hp hS hM => ?_)
  · skip
    have hsl := setOf_lt F.below k
    have h24 := pow24 (k := k) (by omega)
    refine Tri.seq (Tri.region ?_)
    refine TOps.move rfl rfl ?_
    refine TOps.indexAddr (off' := k) rfl rfl Try.underlying27 ti4 (by omega) (by omega) (by simp) rfl ?_
    refine TOps.load1 (v := .bool (F.below.getD k false)) rfl ti4 (Rd.lit (List.Mem.head _) (bools_get (by omega))) rfl ?_
    refine TOps.assign rfl rfl ?_
    refine TOps.assign rfl rfl ?_
    refine TOps.next ?_
    refine Tri.seq (Tri.region ?_)
    refine TOps.move rfl rfl ?_
    refine TOps.next ?_
    refine Tri.cond rfl (fun hc2 => ?_) (fun hc2 => ?_)
    · try simp only [decide_eq_true_eq, decide_eq_false_iff_not, Bool.and_eq_true, Bool.or_eq_true, Bool.not_eq_true', Bool.and_eq_false_iff, Bool.or_eq_false_iff, Bool.not_eq_false', Int.not_lt, Int.not_le, ne_eq, Decidable.not_not, Option.isSome_iff_ne_none, Option.isNone_iff_eq_none] at hc2
      refine Tri.region ?_
      refine TOps.move rfl rfl ?_
      refine TOps.move rfl rfl ?_
      refine TOps.shl (r := ((2 ^ k : Nat) : Int)) rfl rfl (by omega) (by rw [Int.toNat_natCast]; exact ishl_one (by omega)) rfl ?_
      refine TOps.or rfl rfl (ior_nat (by omega) (by omega)) rfl ?_
      refine TOps.assign rfl rfl ?_
      refine TOps.fin ?_
      refine Nrm.body () trivial ⟨rfl, rfl, (by refine congrArg (fun z : Int => some (Value.int .i64 z)) ?_; simp only [setOf, hc2]; rfl), rfl, trivial⟩ (by repeat (first | exact Le.refl _ | assumption | apply Le.drop))
    try simp only [decide_eq_true_eq, decide_eq_false_iff_not, Bool.and_eq_true, Bool.or_eq_true, Bool.not_eq_true', Bool.and_eq_false_iff, Bool.or_eq_false_iff, Bool.not_eq_false', Int.not_lt, Int.not_le, ne_eq, Decidable.not_not, Option.isSome_iff_ne_none, Option.isNone_iff_eq_none] at hc2
    refine Tri.fin ?_
    refine Nrm.body () trivial ⟨rfl, rfl, (by refine congrArg (fun z : Int => some (Value.int .i64 z)) ?_; simp only [setOf, hc2]; rfl), rfl, trivial⟩ (by repeat (first | exact Le.refl _ | assumption | apply Le.drop))
  refine Nrm.of hS hM ?_
  refine Nrm.next ?_
  refine Tri.seq (Tri.region ?_)
  refine TOps.move rfl rfl ?_
  refine TOps.assign rfl rfl ?_
  refine TOps.assign rfl rfl ?_
  refine TOps.next ?_
  refine Tri.ret2 (H' := H) Try.results32 (fun _ _ h => h) (.tmp rfl) (.tmp rfl) (Le.drop l1) ⟨by rw [he]; unfold Fm.support; rw [hvn]; rfl, rfl⟩
theorem clip_g {H : List Ent} (z lo hi : Int) : Gives Try.prog 12 [.int .i64 z, .int .i64 lo, .int .i64 hi] H (R1 (.int .i64 (clipI z lo hi)) H) := by
  refine Gives.enter Try.func12 rfl (by exact Try.ntmps12) rfl ?_
  refine Tri.seq (Tri.region ?_)
  refine TOps.assign rfl rfl ?_
  refine TOps.next ?_
  refine Tri.seq (Tri.region ?_)
  refine TOps.move rfl rfl ?_
  refine TOps.move rfl rfl ?_
  refine TOps.move rfl rfl ?_
  refine TOps.min2 rfl rfl rfl ?_
  refine TOps.max2 rfl rfl rfl ?_
  refine TOps.assign rfl rfl ?_
  refine TOps.next ?_
  refine Tri.ret1 (H' := H) Try.results12 (fun _ _ h => h) (.tmp rfl) (Le.refl _) ⟨rfl, rfl⟩
theorem light_g {H : List Ent} {fv : Value} {F : Fm} (hF : RF H fv F) (hk : F.ok) : Gives Try.prog 10 [fv] H (R1 (.bool F.light) H) := by
  obtain ⟨na, noff, ncap, nsp, rfl, hN⟩ := hF
  refine Gives.enter Try.func10 rfl (by exact Try.ntmps10) rfl ?_
  refine Tri.seq (Tri.region ?_)
  refine TOps.boxN rfl ti24 rfl rfl (fun b1 => ?_)
  refine TOps.hide (fun H1 l1 s1 r1 => ?_)
  replace hN := hN.le l1
  refine TOps.assign rfl rfl ?_
  refine TOps.next ?_
  refine Tri.seq ?_
  refine Tri.seq (Tri.region ?_)
  first | refine TOps.fieldB 1 rfl Try.underlying24 rfl rfl ti22 rfl rfl rfl ?_ | refine TOps.fieldN 1 rfl Try.underlying24 rfl rfl ti22 rfl rfl rfl ?_
  refine TOps.load1 rfl ti22 (by first | exact Rd.lit (by repeat (first | exact List.Mem.head _ | apply List.Mem.tail)) rfl | (repeat (first | assumption | exact Rd.fld (by assumption) 1 rfl | apply Rd.up))) rfl ?_
  refine TOps.len rfl Try.underlying22 rfl ?_
  refine TOps.gtr rfl rfl rfl ?_
  refine TOps.next ?_
  refine Tri.cond rfl (fun hc1 => ?_) (fun hc1 => ?_)
  · try simp only [decide_eq_true_eq, decide_eq_false_iff_not, Bool.and_eq_true, Bool.or_eq_true, Bool.not_eq_true', Bool.and_eq_false_iff, Bool.or_eq_false_iff, Bool.not_eq_false', Int.not_lt, Int.not_le, ne_eq, Decidable.not_not, Option.isSome_iff_ne_none, Option.isNone_iff_eq_none] at hc1
    refine Tri.seq (Tri.region ?_)
    refine TOps.assign rfl rfl ?_
    refine TOps.next ?_
    refine Tri.ret1 (H' := H) Try.results10 (fun _ _ h => h) (.tmp rfl) l1 ⟨by unfold Fm.light; rw [show decide (F.nodes.length ≤ 200) = false from by simp; omega]; rfl, rfl⟩
  try simp only [decide_eq_true_eq, decide_eq_false_iff_not, Bool.and_eq_true, Bool.or_eq_true, Bool.not_eq_true', Bool.and_eq_false_iff, Bool.or_eq_false_iff, Bool.not_eq_false', Int.not_lt, Int.not_le, ne_eq, Decidable.not_not, Option.isSome_iff_ne_none, Option.isNone_iff_eq_none] at hc1
  have hn : F.nodes.length ≤ 200 := by omega
  refine Tri.fin ?_
  refine Nrm.next ?_
  refine Tri.seq ?_
  refine Tri.seq (Tri.region ?_)
  first | refine TOps.fieldB 1 rfl Try.underlying24 rfl rfl ti22 rfl rfl rfl ?_ | refine TOps.fieldN 1 rfl Try.underlying24 rfl rfl ti22 rfl rfl rfl ?_
  refine TOps.load1 rfl ti22 (by first | exact Rd.lit (by repeat (first | exact List.Mem.head _ | apply List.Mem.tail)) rfl | (repeat (first | assumption | exact Rd.fld (by assumption) 1 rfl | apply Rd.up))) rfl ?_
  refine TOps.len rfl Try.underlying22 rfl ?_
  refine TOps.move rfl rfl ?_
  refine TOps.next ?_
  refine Tri.range (X := Unit) (fun x k => [(1, .pointer (some ⟨b1, 0, none⟩)), (10, slV na noff F.nodes.length ncap nsp)]) (fun x k => H1) (fun x k => ∀ d ∈ F.nodes.take k, d.args.length ≤ 40) (by omega) rfl rfl rfl (fun _ _ => ⟨rfl, rfl, rfl, rfl⟩) () (by simp) ⟨rfl, rfl, trivial⟩ (by repeat (first | exact Le.refl _ | assumption | apply Le.drop)) (fun k x hlt hp => ?_) (fun x ac wc hp hS hM => ?_)
  · skip
    obtain ⟨nb, aa, ao, acap, asp, rfl, rfl, hn⟩ := hN.at hlt
    have hcells := hn.cells
    refine Tri.seq (Tri.region ?_)
    refine TOps.indexAddr (off' := noff + k * 3) rfl rfl Try.underlying22 ti43 (by omega) (by omega) (by simp) rfl ?_
    refine TOps.loadN rfl ti43 (by first | exact Rd.all (by repeat (first | exact List.Mem.head _ | apply List.Mem.tail)) | (repeat (first | assumption | apply Rd.up))) rfl rfl ?_
    refine TOps.alloc ti43 rfl (fun b4 => ?_)
    refine TOps.storeN rfl rfl ti43 rfl rfl (by repeat (first | exact Upd.here | apply Upd.there)) (by first | decide | (simp; done) | (simp; omega)) ?_
    refine TOps.next ?_
    refine Tri.seq (Tri.region ?_)
    first | refine TOps.fieldB 2 rfl Try.underlying43 rfl rfl ti36 rfl rfl rfl ?_ | refine TOps.fieldN 2 rfl Try.underlying43 rfl rfl ti36 rfl rfl rfl ?_
    refine TOps.load1 rfl ti36 (by first | exact Rd.lit (by repeat (first | exact List.Mem.head _ | apply List.Mem.tail)) rfl | (repeat (first | assumption | exact Rd.fld (by assumption) 2 rfl | apply Rd.up))) rfl ?_
    refine TOps.len rfl Try.underlying36 rfl ?_
    refine TOps.gtr rfl rfl rfl ?_
    refine TOps.next ?_
    refine Tri.cond rfl (fun hc2 => ?_) (fun hc2 => ?_)
    · try simp only [decide_eq_true_eq, decide_eq_false_iff_not, Bool.and_eq_true, Bool.or_eq_true, Bool.not_eq_true', Bool.and_eq_false_iff, Bool.or_eq_false_iff, Bool.not_eq_false', Int.not_lt, Int.not_le, ne_eq, Decidable.not_not, Option.isSome_iff_ne_none, Option.isNone_iff_eq_none] at hc2
      refine Tri.seq (Tri.region ?_)
      refine TOps.assign rfl rfl ?_
      refine TOps.next ?_
      refine Tri.ret1 (H' := H) Try.results10 (fun _ _ h => h) (.tmp rfl) (Le.drop l1) ⟨by
        unfold Fm.light
        rw [show F.nodes.all (fun d => decide (d.args.length ≤ 40)) = false from by rw [List.all_eq_false]; exact ⟨F.nodes[k], List.getElem_mem hlt, by simp; omega⟩]
        simp, rfl⟩
    try simp only [decide_eq_true_eq, decide_eq_false_iff_not, Bool.and_eq_true, Bool.or_eq_true, Bool.not_eq_true', Bool.and_eq_false_iff, Bool.or_eq_false_iff, Bool.not_eq_false', Int.not_lt, Int.not_le, ne_eq, Decidable.not_not, Option.isSome_iff_ne_none, Option.isNone_iff_eq_none] at hc2
    refine Tri.fin ?_
    refine Nrm.body () (ball_take_succ hlt hp (by omega)) ⟨rfl, rfl, rfl, rfl, trivial⟩ (by repeat (first | exact Le.refl _ | assumption | apply Le.drop))
  have hall : F.nodes.all (fun d => decide (d.args.length ≤ 40)) = true := by
    rw [List.all_eq_true]; intro d hd; have := hp d (by simpa using hd); simpa using this
  refine Nrm.of hS hM ?_
  refine Nrm.next ?_
  refine Tri.seq (Tri.region ?_)
  refine TOps.assign rfl rfl ?_
  refine TOps.next ?_
  refine Tri.ret1 (H' := H) Try.results10 (fun _ _ h => h) (.tmp rfl) l1 ⟨by unfold Fm.light; rw [hall]; simp [hn], rfl⟩
end Go.Proofs
