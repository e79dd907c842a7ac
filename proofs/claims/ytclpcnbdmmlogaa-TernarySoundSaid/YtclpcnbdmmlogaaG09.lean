import Derived.Test.YtclpcnbdmmlogaaB09
import Derived.Test.YtclpcnbdmmlogaaGL30
namespace Go.Proofs
open Go.GL
set_option linter.unusedVariables false
set_option linter.unusedSimpArgs false
theorem cloneI_g {H : List Ent} {xs : List Nat} {a sp : Option Nat} {off cap m : Nat} (hr : RdS H a off (nats xs) sp) (hm : xs.length = m) (hl : xs.length ≤ 1000000) :
    Gives Try.prog 36 [slV a off m cap sp] H (NewS 3 (nats xs) m H) := by
  subst hm
  refine Gives.enter Try.func36 rfl (by exact Try.ntmps36) rfl ?_
  refine Tri.seq (Tri.region ?_)
  refine TOps.assign rfl rfl ?_
  refine TOps.next ?_
  refine Tri.seq ?_
  refine Tri.seq (Tri.region ?_)
  refine TOps.move rfl rfl ?_
  refine TOps.eqlSlNil rfl Try.underlying34 rfl ?_
  refine TOps.next ?_
  refine Tri.cond rfl (fun hc1 => ?_) (fun hc1 => ?_)
  · try simp only [decide_eq_true_eq, decide_eq_false_iff_not, Bool.and_eq_true, Bool.or_eq_true, Bool.not_eq_true', Bool.and_eq_false_iff, Bool.or_eq_false_iff, Bool.not_eq_false', Int.not_lt, Int.not_le, ne_eq, Decidable.not_not, Option.isSome_iff_ne_none, Option.isNone_iff_eq_none] at hc1
    subst hc1
    have hx := RdS.none hr
    obtain rfl : xs = [] := by simpa using hx
    refine Tri.seq (Tri.region ?_)
    refine TOps.assign rfl rfl ?_
    refine TOps.next ?_
    refine Tri.ret1 (H' := _) Try.results36 (fun _ _ h => h) (.tmp rfl) Le.addNil ⟨none, 0, rfl, by simp, rfl⟩
  try simp only [decide_eq_true_eq, decide_eq_false_iff_not, Bool.and_eq_true, Bool.or_eq_true, Bool.not_eq_true', Bool.and_eq_false_iff, Bool.or_eq_false_iff, Bool.not_eq_false', Int.not_lt, Int.not_le, ne_eq, Decidable.not_not, Option.isSome_iff_ne_none, Option.isNone_iff_eq_none] at hc1
  refine Tri.fin ?_
  refine Nrm.next ?_
  refine Tri.seq (Tri.region ?_)
  refine TOps.buildSlice0 Try.underlying34 ti3 rfl (fun b5 => ?_)
  replace hr := hr.up (e := row (some b5) 3 1 0 [])
  refine TOps.move rfl rfl ?_
  refine TOps.append (ys := nats xs) rfl rfl Try.underlying34 ti3 rfl (fun _ _ => Upd.here) hr (by simp) rfl (by intro u hu; obtain ⟨q, _, rfl⟩ := List.mem_map.1 hu; rfl) (by omega) (by omega) rfl (fun a' cap' h0 => ?_)
  refine TOps.assign rfl rfl ?_
  refine TOps.next ?_
  refine Tri.ret1 (H' := _) Try.results36 (fun _ _ h => h) (.tmp rfl) (Le.refl _) ⟨a', cap', by rw [Nat.zero_add], h0, rfl⟩
theorem tvaluesTop_g {H : List Ent} {fv : Value} {F : Fm} (hF : RF H fv F) (hk : F.ok) (y n : Int) :
    Gives Try.prog 16 [fv, .agg (List.toArray [.int .i64 y, .int .i64 n])] H (fun u H' => ∃ xs a cap, xs = (bif (F.cubeErr y n).isNone then F.tnodeVals y n else []) ∧ u = .tuple (List.toArray [slV a 0 xs.length cap, errV 62 (F.cubeErr y n)]) ∧ (nats xs ≠ [] → ∃ b, a = some b) ∧ row a 3 1 cap (nats xs) :: H = H') := by
  have hF0 := hF
  obtain ⟨a, off, cap, nsp, rfl, hN⟩ := hF
  refine Gives.enter Try.func16 rfl (by exact Try.ntmps16) rfl ?_
  refine Tri.seq (Tri.region ?_)
  refine TOps.boxN rfl ti24 rfl rfl (fun b2 => ?_)
  refine TOps.hide (fun H1 l1 s1 r1 => ?_)
  replace hF0 := hF0.le l1
  refine TOps.boxN rfl ti31 rfl rfl (fun b3 => ?_)
  refine TOps.hide (fun H2 l2 s2 r2 => ?_)
  replace hF0 := hF0.le l2; replace r1 := r1.le l2; have l3 := l2.trans l1; have s3 := s1.trans s2
  refine TOps.assign rfl rfl ?_
  refine TOps.assign rfl rfl ?_
  refine TOps.next ?_
  refine Tri.seq ?_
  refine Tri.seq (Tri.region ?_)
  refine TOps.loadN rfl ti24 (by first | exact Rd.all (by repeat (first | exact List.Mem.head _ | apply List.Mem.tail)) | (repeat (first | assumption | apply Rd.up))) rfl rfl ?_
  refine TOps.loadN rfl ti31 (by first | exact Rd.all (by repeat (first | exact List.Mem.head _ | apply List.Mem.tail)) | (repeat (first | assumption | apply Rd.up))) rfl rfl ?_
  refine TOps.call (vs := [_, _]) Try.call32 ⟨rfl, rfl, trivial⟩ (tcheck_g hF0 hk y n) rfl ?_
  rintro _ _ ⟨rfl, rfl⟩
  refine TOps.assign rfl rfl ?_
  refine TOps.next ?_
  refine Tri.seq (Tri.region ?_)
  refine TOps.move rfl rfl ?_
  refine TOps.neqNil rfl Try.underlying28 rfl ?_
  refine TOps.next ?_
  refine Tri.cond rfl (fun hc1 => ?_) (fun hc1 => ?_)
  · try simp only [decide_eq_true_eq, decide_eq_false_iff_not, Bool.and_eq_true, Bool.or_eq_true, Bool.not_eq_true', Bool.and_eq_false_iff, Bool.or_eq_false_iff, Bool.not_eq_false', Int.not_lt, Int.not_le, ne_eq, Decidable.not_not, Option.isSome_iff_ne_none, Option.isNone_iff_eq_none] at hc1
    obtain ⟨e, he⟩ := Option.ne_none_iff_exists'.1 hc1
    refine Tri.seq (Tri.region ?_)
    refine TOps.move rfl rfl ?_
    refine TOps.assign rfl rfl ?_
    refine TOps.assign rfl rfl ?_
    refine TOps.next ?_
    refine Tri.ret2 (H' := _) Try.results16 (fun _ _ h => h) (.tmp rfl) (.tmp rfl) (Le.trans Le.addNil (Le.consOf s3)) ⟨[], none, 0, by rw [he]; rfl, by rw [he]; rfl, by simp, rfl⟩
  try simp only [decide_eq_true_eq, decide_eq_false_iff_not, Bool.and_eq_true, Bool.or_eq_true, Bool.not_eq_true', Bool.and_eq_false_iff, Bool.or_eq_false_iff, Bool.not_eq_false', Int.not_lt, Int.not_le, ne_eq, Decidable.not_not, Option.isSome_iff_ne_none, Option.isNone_iff_eq_none] at hc1
  have he : F.cubeErr y n = none := by simpa using hc1
  have hg := (Fm.cubeErr_none he).1
  have g0 := hg.v0; have g1 := hg.v1; have g2 := hg.n1; have gt := hg.topLt
  have htl := F.tvals_length y n
  have hnl := F.tnodeVals_length y n
  obtain ⟨v, hv⟩ := Int.eq_ofNat_of_zero_le g0
  have hvn : F.vars.toNat = v := by omega
  rw [hv] at r1 hF0 ⊢
  refine Tri.fin ?_
  refine Nrm.next ?_
  refine Tri.seq ?_
  have hll : ∀ (x : Nat × Nat × { q : Option Nat // nats (F.tnodeVals y n) ≠ [] → ∃ b, q = some b } × Nat) (c : Nat), Le (match c with | 0 => H2 | 1 => row (some x.1) 3 1 x.2.1 (nats (F.tvals y n)) :: H2 | _ + 2 => row x.2.2.1.1 3 1 x.2.2.2 (nats (F.tnodeVals y n)) :: row (some x.1) 3 1 x.2.1 (nats (F.tvals y n)) :: H2) H2 := by
    intro x c
    match c with
    | 0 => exact Le.refl _
    | 1 => exact Le.drop (Le.refl _)
    | _ + 2 => exact Le.drop (Le.drop (Le.refl _))
  refine Tri.drawX (X := Nat × Nat × { q : Option Nat // nats (F.tnodeVals y n) ≠ [] → ∃ b, q = some b } × Nat) rfl [(2, .pointer (some ⟨b2, 0, none⟩)), (3, .pointer (some ⟨b3, 0, none⟩))] [] (fun x => [_, _, slV (some x.1) 0 (F.vars.toNat + F.nodes.length) x.2.1, _, _, slV (some x.1) (bif x.2.1 == v then 0 else 0 + v * 1) (F.vars.toNat + F.nodes.length - v) (x.2.1 - v), slV x.2.2.1.1 0 F.nodes.length x.2.2.2, slV x.2.2.1.1 0 F.nodes.length x.2.2.2, _]) (fun x c => match c with | 0 => H2 | 1 => row (some x.1) 3 1 x.2.1 (nats (F.tvals y n)) :: H2 | _ + 2 => row x.2.2.1.1 3 1 x.2.2.2 (nats (F.tnodeVals y n)) :: row (some x.1) 3 1 x.2.1 (nats (F.tvals y n)) :: H2) [2, 6] (0, 0, ⟨some 0, fun _ => ⟨0, rfl⟩⟩, 0) [7, 8] rfl rfl ⟨rfl, rfl, trivial⟩ trivial (by repeat (first | exact Le.refl _ | assumption | apply Le.drop)) (by
    refine ⟨?_, ?_, ?_, ?_, ?_, ?_, ?_, ?_, ?_, trivial⟩
    · refine ⟨fun x S c he hw hd hc hcu hm _ => ?_, trivial⟩
      refine TOps.loadN (he _ _ rfl) ti24 (Rd.le (by first | exact Rd.all (by repeat (first | exact List.Mem.head _ | apply List.Mem.tail)) | (repeat (first | assumption | apply Rd.up))) (hll x c)) rfl rfl ?_
      exact TOps.fin (Nrm.draw x (fun _ _ _ => rfl) rfl (by first | exact Le.refl _ | assumption | exact (by repeat (first | exact Le.refl _ | assumption | apply Le.drop))))
    · refine ⟨fun x S c he hw hd hc hcu hm _ => ?_, trivial⟩
      refine TOps.loadN (he _ _ rfl) ti31 (Rd.le (by first | exact Rd.all (by repeat (first | exact List.Mem.head _ | apply List.Mem.tail)) | (repeat (first | assumption | apply Rd.up))) (hll x c)) rfl rfl ?_
      exact TOps.fin (Nrm.draw x (fun _ _ _ => rfl) rfl (by first | exact Le.refl _ | assumption | exact (by repeat (first | exact Le.refl _ | assumption | apply Le.drop))))
    · refine ⟨fun x S c he hw hd hc hcu hm _ => ?_, trivial⟩
      obtain ⟨h0, h1, -⟩ := hd
      obtain rfl : c = 0 := hm rfl
      refine TOps.call (vs := [_, _]) Try.call33 ⟨h0, h1, trivial⟩ (tvalues_g hF0 hg y n) rfl ?_
      rintro _ _ ⟨b, cp, rfl, rfl⟩
      refine TOps.fin (Nrm.draw (b, cp, x.2.2) ?_ rfl (Le.refl _))
      intro j hj hcj; rcases j with _|_|_|_|_|_|_|_|_|j <;> first | rfl | exact absurd rfl hj | exact absurd hcj (by decide)
    · refine ⟨fun x S c he hw hd hc hcu hm _ => ?_, trivial⟩
      refine TOps.field0 (he _ _ rfl) Try.underlying24 rfl rfl ti3 rfl rfl rfl ?_
      exact TOps.fin (Nrm.draw x (fun _ _ _ => rfl) rfl (by first | exact Le.refl _ | assumption | exact (by repeat (first | exact Le.refl _ | assumption | apply Le.drop))))
    · refine ⟨fun x S c he hw hd hc hcu hm _ => ?_, trivial⟩
      obtain ⟨h3, -⟩ := hd
      refine TOps.load1 h3 ti3 (Rd.le (by first | exact Rd.lit (by repeat (first | exact List.Mem.head _ | apply List.Mem.tail)) rfl | (repeat (first | assumption | exact Rd.fld (by assumption) 0 rfl | apply Rd.up))) (hll x c)) rfl ?_
      exact TOps.fin (Nrm.draw x (fun _ _ _ => rfl) rfl (by first | exact Le.refl _ | assumption | exact (by repeat (first | exact Le.refl _ | assumption | apply Le.drop))))
    · refine ⟨fun x S c he hw hd hc hcu hm _ => ?_, trivial⟩
      obtain ⟨h2, h4, -⟩ := hd
      obtain ⟨c', rfl⟩ : ∃ c', c = c' + 1 := ⟨c - 1, by have : 1 ≤ c := hc; omega⟩
      refine TOps.rowCap (b := x.1) (E := 3) (sz := 1) (cap := x.2.1) (xs := nats (F.tvals y n)) (match c' with | 0 => List.Mem.head _ | _ + 1 => List.Mem.tail _ (List.Mem.head _)) (fun hcap => ?_)
      have hcap' : (F.tvals y n).length ≤ x.2.1 := by rw [List.length_map] at hcap; omega
      refine TOps.sliceLo h2 h4 Try.underlying34 ti3 (by omega) rfl ?_
      exact TOps.fin (Nrm.draw x (fun _ _ _ => rfl) rfl (by first | exact Le.refl _ | assumption | exact (by repeat (first | exact Le.refl _ | assumption | apply Le.drop))))
    · refine ⟨fun x S c he hw hd hc hcu hm _ => ?_, trivial⟩
      obtain ⟨h5, h2, -⟩ := hd
      obtain rfl : c = 1 := hm rfl
      rw [show F.vars.toNat + F.nodes.length - v = F.nodes.length by omega] at h5
      refine TOps.rowCap (b := x.1) (E := 3) (sz := 1) (cap := x.2.1) (xs := nats (F.tvals y n)) (List.Mem.head _) (fun hcap => ?_)
      have hcap' : (F.tvals y n).length ≤ x.2.1 := by rw [List.length_map] at hcap; omega
      have hrd : RdS (row (some x.1) 3 1 x.2.1 (nats (F.tvals y n)) :: H2) (some x.1) (bif x.2.1 == v then 0 else 0 + v * 1) (nats (F.tnodeVals y n)) := by
        by_cases hx : x.2.1 = v
        · refine .inl ?_; rw [List.map_eq_nil_iff, ← List.length_eq_zero_iff]; omega
        · rw [show (x.2.1 == v) = false from beq_eq_false_iff_ne.2 hx, cond_false, Nat.mul_one]
          have hq := RdS.drop (RdS.ofRowS (H := row (some x.1) 3 1 x.2.1 (nats (F.tvals y n)) :: H2) (List.Mem.head _)) v
          rw [← List.map_drop, ← hvn] at hq
          rw [← hvn]; exact hq
      refine TOps.call (vs := [_]) Try.call36 ⟨h5, trivial⟩ (cloneI_g (xs := F.tnodeVals y n) hrd (by omega) (by omega)) rfl ?_
      rintro _ _ ⟨a', cap', rfl, h0, rfl⟩
      refine TOps.fin (Nrm.draw (x.1, x.2.1, ⟨a', h0⟩, cap') ?_ rfl (Le.refl _))
      intro j hj hcj; rcases j with _|_|_|_|_|_|_|_|_|j <;> first | rfl | exact absurd rfl hj | exact absurd hcj (by decide)
    · refine ⟨fun x S c he hw hd hc hcu hm _ => ?_, trivial⟩
      obtain ⟨h6, _, h0, h1, h2, h3, h4, h5, _, -⟩ := hd
      refine TOps.assign h6 rfl ?_
      exact TOps.fin (Nrm.draw x (fun _ _ _ => rfl) rfl (by first | exact Le.refl _ | assumption | exact (by repeat (first | exact Le.refl _ | assumption | apply Le.drop))))
    · refine ⟨fun x S c he hw hd hc hcu hm _ => ?_, trivial⟩
      obtain ⟨h7, h0, h1, h2, h3, h4, h5, h6, _, -⟩ := hd
      refine TOps.assign rfl rfl ?_
      exact TOps.fin (Nrm.draw x (fun _ _ _ => rfl) rfl (by first | exact Le.refl _ | assumption | exact (by repeat (first | exact Le.refl _ | assumption | apply Le.drop))))
    ) (fun w => ?_)
  refine Nrm.next ?_
  refine Tri.ret2 (H' := _) Try.results16 (fun _ _ h => h) (.tmp rfl) (.tmp rfl) (Le.consOf (List.Sublist.cons _ s3)) ⟨F.tnodeVals y n, w.2.2.1.1, w.2.2.2, by rw [he]; rfl, by rw [he, hnl]; rfl, w.2.2.1.2, rfl⟩
theorem num_g {H : List Ent} (o : Option Int) : Gives Try.prog 20 [errV 62 o] H (R1 (.int .i64 (o.getD 0)) H) := by
  refine Gives.enter Try.func20 rfl (by exact Try.ntmps20) rfl ?_
  refine Tri.seq (Tri.region ?_)
  refine TOps.assign rfl rfl ?_
  refine TOps.next ?_
  refine Tri.seq ?_
  refine Tri.seq (Tri.region ?_)
  refine TOps.move rfl rfl ?_
  refine TOps.eqlNil rfl Try.underlying28 rfl ?_
  refine TOps.next ?_
  refine Tri.cond rfl (fun hc1 => ?_) (fun hc1 => ?_)
  · try simp only [decide_eq_true_eq, decide_eq_false_iff_not, Bool.and_eq_true, Bool.or_eq_true, Bool.not_eq_true', Bool.and_eq_false_iff, Bool.or_eq_false_iff, Bool.not_eq_false', Int.not_lt, Int.not_le, ne_eq, Decidable.not_not, Option.isSome_iff_ne_none, Option.isNone_iff_eq_none] at hc1
    refine Tri.seq (Tri.region ?_)
    refine TOps.assign rfl rfl ?_
    refine TOps.next ?_
    refine Tri.ret1 (H' := H) Try.results20 (fun _ _ h => h) (.tmp rfl) (Le.refl _) ⟨by rw [hc1]; rfl, rfl⟩
  try simp only [decide_eq_true_eq, decide_eq_false_iff_not, Bool.and_eq_true, Bool.or_eq_true, Bool.not_eq_true', Bool.and_eq_false_iff, Bool.or_eq_false_iff, Bool.not_eq_false', Int.not_lt, Int.not_le, ne_eq, Decidable.not_not, Option.isSome_iff_ne_none, Option.isNone_iff_eq_none] at hc1
  refine Tri.fin ?_
  refine Nrm.next ?_
  refine Tri.seq ?_
  refine Tri.seq (Tri.region ?_)
  refine TOps.move rfl rfl ?_
  refine TOps.typeAssertErr (zv := .nilIface) rfl Try.underlying62 rfl (zeroInt (by kernel_rfl)) rfl ?_
  refine TOps.move rfl rfl ?_
  refine TOps.extract rfl rfl rfl ?_
  refine TOps.extract rfl rfl rfl ?_
  refine TOps.assign rfl rfl ?_
  refine TOps.assign rfl rfl ?_
  refine TOps.next ?_
  refine Tri.seq (Tri.region ?_)
  refine TOps.move rfl rfl ?_
  refine TOps.next ?_
  refine Tri.cond rfl (fun hc2 => ?_) (fun hc2 => ?_)
  · try simp only [decide_eq_true_eq, decide_eq_false_iff_not, Bool.and_eq_true, Bool.or_eq_true, Bool.not_eq_true', Bool.and_eq_false_iff, Bool.or_eq_false_iff, Bool.not_eq_false', Int.not_lt, Int.not_le, ne_eq, Decidable.not_not, Option.isSome_iff_ne_none, Option.isNone_iff_eq_none] at hc2
    refine Tri.seq (Tri.region ?_)
    refine TOps.move rfl rfl ?_
    refine TOps.assign rfl rfl ?_
    refine TOps.next ?_
    refine Tri.ret1 (H' := H) Try.results20 (fun _ _ h => h) (.tmp rfl) (Le.refl _) ⟨rfl, rfl⟩
  try simp only [decide_eq_true_eq, decide_eq_false_iff_not, Bool.and_eq_true, Bool.or_eq_true, Bool.not_eq_true', Bool.and_eq_false_iff, Bool.or_eq_false_iff, Bool.not_eq_false', Int.not_lt, Int.not_le, ne_eq, Decidable.not_not, Option.isSome_iff_ne_none, Option.isNone_iff_eq_none] at hc2
  refine Tri.fin ?_
  refine Nrm.next ?_
  refine Tri.seq (Tri.region ?_)
  refine TOps.assign rfl rfl ?_
  refine TOps.next ?_
  refine Tri.ret1 (H' := H) Try.results20 (fun _ _ h => h) (.tmp rfl) (Le.refl _) ⟨by exfalso; cases o <;> simp_all, rfl⟩
theorem ternaryLearns_g {H : List Ent} {fv : Value} {F : Fm} (hF : RF H fv F) (hk : F.ok) (a0 a1 b0 b1 : Int) :
    Gives Try.prog 5 [fv, .agg (List.toArray [.int .i64 a0, .int .i64 a1]), .agg (List.toArray [.int .i64 b0, .int .i64 b1])] H (R1 (.bool true) H) := by
  have hF0 := hF
  obtain ⟨na, off, cap, nsp, rfl, hN⟩ := hF
  refine Gives.enter Try.func5 rfl (by exact Try.ntmps5) rfl ?_
  refine Tri.seq (Tri.region ?_)
  refine TOps.boxN rfl ti24 rfl rfl (fun b3 => ?_)
  refine TOps.hide (fun H1 l1 s1 r1 => ?_)
  replace hF0 := hF0.le l1
  refine TOps.boxN rfl ti43 rfl rfl (fun b4 => ?_)
  refine TOps.hide (fun H2 l2 s2 r2 => ?_)
  replace hF0 := hF0.le l2; replace r1 := r1.le l2; have l3 := l2.trans l1
  refine TOps.boxN rfl ti43 rfl rfl (fun b5 => ?_)
  refine TOps.hide (fun H3 l4 s4 r4 => ?_)
  replace hF0 := hF0.le l4; replace r1 := r1.le l4; replace r2 := r2.le l4; have l5 := l4.trans l3
  refine TOps.assign rfl rfl ?_
  refine TOps.next ?_
  refine Tri.seq ?_
  refine Tri.seq (Tri.region ?_)
  refine TOps.call (vs := []) Try.call9 trivial (awake09_g) rfl ?_
  rintro _ _ ⟨rfl, rfl⟩
  refine TOps.not rfl rfl ?_
  refine TOps.move rfl rfl ?_
  refine' TOps.orB 3 rfl rfl rfl rfl (fun hg1_2 => ?_) ?_; rotate_left
  · have hg1_2' := hg1_2
    try simp only [decide_eq_true_eq, decide_eq_false_iff_not, Bool.and_eq_true, Bool.or_eq_true, Bool.not_eq_true', Bool.and_eq_false_iff, Bool.or_eq_false_iff, Bool.not_eq_false', Int.not_lt, Int.not_le, ne_eq, Decidable.not_not] at hg1_2'
    refine TOps.strip 2 false rfl rfl hg1_2 rfl ?_
    refine TOps.loadN rfl ti24 (by first | exact Rd.all (by repeat (first | exact List.Mem.head _ | apply List.Mem.tail)) | (repeat (first | assumption | apply Rd.up))) rfl rfl ?_
    refine TOps.call (vs := [_]) Try.call10 ⟨rfl, trivial⟩ (light_g hF0 hk) rfl ?_
    rintro _ _ ⟨rfl, rfl⟩
    refine TOps.not rfl rfl ?_
    refine TOps.blk rfl (by repeat (first | exact Ext.refl _ | refine Ext.cons rfl ?_)) (by repeat (first | exact Le.refl _ | apply Le.drop))
  refine TOps.move rfl rfl ?_
  refine' TOps.orB 3 rfl rfl rfl rfl (fun hg1_7 => ?_) ?_; rotate_left
  · have hg1_7' := hg1_7
    try simp only [decide_eq_true_eq, decide_eq_false_iff_not, Bool.and_eq_true, Bool.or_eq_true, Bool.not_eq_true', Bool.and_eq_false_iff, Bool.or_eq_false_iff, Bool.not_eq_false', Int.not_lt, Int.not_le, ne_eq, Decidable.not_not] at hg1_7'
    refine TOps.strip 7 false rfl rfl hg1_7 rfl ?_
    refine TOps.loadN rfl ti24 (by first | exact Rd.all (by repeat (first | exact List.Mem.head _ | apply List.Mem.tail)) | (repeat (first | assumption | apply Rd.up))) rfl rfl ?_
    refine TOps.call (vs := [_]) Try.call11 ⟨rfl, trivial⟩ (check_g hF0 hk) rfl ?_
    rintro _ _ ⟨rfl, rfl⟩
    refine TOps.neqNil rfl Try.underlying28 rfl ?_
    refine TOps.blk rfl (by repeat (first | exact Ext.refl _ | refine Ext.cons rfl ?_)) (by repeat (first | exact Le.refl _ | apply Le.drop))
  refine TOps.next ?_
  refine Tri.cond rfl (fun hc1 => ?_) (fun hc1 => ?_)
  · try simp only [decide_eq_true_eq, decide_eq_false_iff_not, Bool.and_eq_true, Bool.or_eq_true, Bool.not_eq_true', Bool.and_eq_false_iff, Bool.or_eq_false_iff, Bool.not_eq_false', Int.not_lt, Int.not_le, ne_eq, Decidable.not_not, Option.isSome_iff_ne_none, Option.isNone_iff_eq_none] at hc1
    refine Tri.seq (Tri.region ?_)
    refine TOps.call (vs := []) Try.call9 trivial (awake09_g) rfl ?_
    rintro _ _ ⟨rfl, rfl⟩
    refine TOps.assign rfl rfl ?_
    refine TOps.next ?_
    refine Tri.ret1 (H' := H) Try.results5 (fun _ _ h => h) (.tmp rfl) l5 ⟨rfl, rfl⟩
  try simp only [decide_eq_true_eq, decide_eq_false_iff_not, Bool.and_eq_true, Bool.or_eq_true, Bool.not_eq_true', Bool.and_eq_false_iff, Bool.or_eq_false_iff, Bool.not_eq_false', Int.not_lt, Int.not_le, ne_eq, Decidable.not_not, Option.isSome_iff_ne_none, Option.isNone_iff_eq_none] at hc1
  have he : F.err = none := by simpa using hc1.2
  have hg := (Fm.good_iff F).1 he
  have g0 := hg.v0; have g1 := hg.v1; have g2 := hg.n1
  have hv24 : F.vars.toNat ≤ 24 := by omega
  have h24 := pow24 hv24
  have hpos := Nat.two_pow_pos F.vars.toNat
  have hA := lowBits_lt a0 F.vars.toNat
  have hN := noPart_lt (y := lowBits a0 F.vars.toNat) (lowBits_lt a1 F.vars.toNat)
  have hAN := noPart_and (lowBits a0 F.vars.toNat) (lowBits a1 F.vars.toNat)
  have hB0 := lowBits_lt b0 F.vars.toNat
  have hB1 := lowBits_lt b1 F.vars.toNat
  generalize hYe : lowBits a0 F.vars.toNat = Y at *
  generalize hNe : noPart Y (lowBits a1 F.vars.toNat) = N at *
  generalize hB0e : lowBits b0 F.vars.toNat = B0 at *
  generalize hB1e : lowBits b1 F.vars.toNat = B1 at *
  have hY' := moreYes_lt (n := N) hA hB0
  have hN' := moreNo_lt (y := Y) (b0 := B0) hN hB1
  have c0 := Fm.cubeErr_good hg hA hN hAN
  have c1 := Fm.cubeErr_good hg hY' hN' (more_and hAN)
  have hlaw := law_learns' hg hA hN hB0 hB1 hAN
  have hnl := F.tnodeVals_length Y N
  have hnl' := F.tnodeVals_length (moreYes Y N B0 : Nat) (moreNo Y N B0 B1 : Nat)
  refine Tri.fin ?_
  refine Nrm.next ?_
  refine Tri.seq (Tri.region ?_)
  refine TOps.loadN rfl ti24 (by first | exact Rd.all (by repeat (first | exact List.Mem.head _ | apply List.Mem.tail)) | (repeat (first | assumption | apply Rd.up))) rfl rfl ?_
  refine TOps.indexAddrA (off' := 0) rfl rfl Try.underlying43 ti3 (by omega) (by omega) rfl rfl ?_
  refine TOps.load1 rfl ti3 (Rd.fld r2 0 rfl) rfl ?_
  refine TOps.indexAddrA (off' := 1) rfl rfl Try.underlying43 ti3 (by omega) (by omega) rfl rfl ?_
  refine TOps.load1 rfl ti3 (Rd.fld r2 1 rfl) rfl ?_
  refine TOps.call (vs := [_, _, _]) Try.call12 ⟨rfl, rfl, rfl, trivial⟩ (cube_g hF0 hg a0 a1) rfl ?_
  rintro _ _ ⟨rfl, rfl⟩
  rw [hYe, hNe]
  refine TOps.move rfl rfl ?_
  refine TOps.extract rfl rfl rfl ?_
  refine TOps.extract rfl rfl rfl ?_
  refine TOps.alloc ti31 rfl (fun b7 => ?_)
  refine TOps.storeN rfl rfl ti31 rfl rfl (by repeat (first | exact Upd.here | apply Upd.there)) (by first | decide | (simp; done) | (simp; omega)) ?_
  refine TOps.hide (fun H4 l6 s6 r7 => ?_)
  replace r7 : Rd H4 b7 0 [.int .i64 Y, .int .i64 N] := r7
  replace hF0 := hF0.le l6; replace r1 := r1.le l6; replace r2 := r2.le l6; replace r4 := r4.le l6; have l7 := l6.trans l5
  refine TOps.assign rfl rfl ?_
  refine TOps.next ?_
  refine Tri.seq (Tri.region ?_)
  refine TOps.field0 rfl Try.underlying31 rfl rfl ti3 rfl rfl rfl ?_
  refine TOps.load1 rfl ti3 (by first | exact Rd.lit (by repeat (first | exact List.Mem.head _ | apply List.Mem.tail)) rfl | (repeat (first | assumption | exact Rd.fld (by assumption) 0 rfl | apply Rd.up))) rfl ?_
  refine TOps.indexAddrA (off' := 0) rfl rfl Try.underlying43 ti3 (by omega) (by omega) rfl rfl ?_
  refine TOps.load1 rfl ti3 (Rd.fld r4 0 rfl) rfl ?_
  refine TOps.move rfl rfl ?_
  refine TOps.and (r := (B0 : Int)) rfl rfl (by rw [iand_mask (by omega), hB0e]) rfl ?_
  first | refine TOps.fieldB 1 rfl Try.underlying31 rfl rfl ti3 rfl rfl rfl ?_ | refine TOps.fieldN 1 rfl Try.underlying31 rfl rfl ti3 rfl rfl rfl ?_
  refine TOps.load1 rfl ti3 (by first | exact Rd.lit (by repeat (first | exact List.Mem.head _ | apply List.Mem.tail)) rfl | (repeat (first | assumption | exact Rd.fld (by assumption) 1 rfl | apply Rd.up))) rfl ?_
  refine TOps.andNot (r := (noPart N B0 : Nat)) rfl rfl (iandn_nat (by omega) (by omega)) rfl ?_
  refine TOps.or (r := (moreYes Y N B0 : Nat)) rfl rfl (ior_nat (by omega) (Nat.lt_of_lt_of_le (noPart_lt hB0) (by omega))) rfl ?_
  first | refine TOps.fieldB 1 rfl Try.underlying31 rfl rfl ti3 rfl rfl rfl ?_ | refine TOps.fieldN 1 rfl Try.underlying31 rfl rfl ti3 rfl rfl rfl ?_
  refine TOps.load1 rfl ti3 (by first | exact Rd.lit (by repeat (first | exact List.Mem.head _ | apply List.Mem.tail)) rfl | (repeat (first | assumption | exact Rd.fld (by assumption) 1 rfl | apply Rd.up))) rfl ?_
  refine TOps.buildStruct (vs := [(0, _), (1, _)]) (xs := [_, _]) [(0, 1), (1, 1)] Try.underlying31 ti31 (fun w => by simp) ⟨rfl, rfl, rfl, rfl, trivial⟩ rfl rfl ?_
  refine TOps.alloc ti31 rfl (fun b9 => ?_)
  refine TOps.storeN rfl rfl ti31 rfl rfl (by repeat (first | exact Upd.here | apply Upd.there)) (by first | decide | (simp; done) | (simp; omega)) ?_
  refine TOps.next ?_
  refine Tri.seq (Tri.region ?_)
  first | refine TOps.fieldB 1 rfl Try.underlying31 rfl rfl ti3 rfl rfl rfl ?_ | refine TOps.fieldN 1 rfl Try.underlying31 rfl rfl ti3 rfl rfl rfl ?_
  refine TOps.load1 rfl ti3 (by first | exact Rd.lit (by repeat (first | exact List.Mem.head _ | apply List.Mem.tail)) rfl | (repeat (first | assumption | exact Rd.fld (by assumption) 1 rfl | apply Rd.up))) rfl ?_
  refine TOps.indexAddrA (off' := 1) rfl rfl Try.underlying43 ti3 (by omega) (by omega) rfl rfl ?_
  refine TOps.load1 rfl ti3 (Rd.up (Rd.fld r4 1 rfl)) rfl ?_
  refine TOps.move rfl rfl ?_
  refine TOps.and (r := (B1 : Int)) rfl rfl (by rw [iand_mask (by omega), hB1e]) rfl ?_
  refine TOps.field0 rfl Try.underlying31 rfl rfl ti3 rfl rfl rfl ?_
  refine TOps.load1 rfl ti3 (by first | exact Rd.lit (by repeat (first | exact List.Mem.head _ | apply List.Mem.tail)) rfl | (repeat (first | assumption | exact Rd.fld (by assumption) 0 rfl | apply Rd.up))) rfl ?_
  refine TOps.andNot (r := (noPart (moreYes Y N B0) B1 : Nat)) rfl rfl (iandn_nat (by omega) (by omega)) rfl ?_
  refine TOps.or (r := (moreNo Y N B0 B1 : Nat)) rfl rfl (ior_nat (by omega) (Nat.lt_of_lt_of_le (noPart_lt hB1) (by omega))) rfl ?_
  first | refine TOps.fieldB 1 rfl Try.underlying31 rfl rfl ti3 rfl rfl rfl ?_ | refine TOps.fieldN 1 rfl Try.underlying31 rfl rfl ti3 rfl rfl rfl ?_
  refine TOps.store1 rfl rfl ti3 rfl rfl (by repeat (first | exact Upd.here | apply Upd.there)) (by exact (show (1 : Nat) < 2 by decide)) ?_
  refine TOps.hide (fun H5 l8 s8 r9 => ?_)
  replace r9 : Rd H5 b9 0 [.int .i64 (moreYes Y N B0 : Nat), .int .i64 (moreNo Y N B0 B1 : Nat)] := r9
  replace hF0 := hF0.le l8; replace r1 := r1.le l8; replace r7 := r7.le l8; have l9 := l8.trans l7
  refine TOps.next ?_
  refine Tri.seq (Tri.region ?_)
  refine TOps.loadN rfl ti24 (by first | exact Rd.all (by repeat (first | exact List.Mem.head _ | apply List.Mem.tail)) | (repeat (first | assumption | apply Rd.up))) rfl rfl ?_
  refine TOps.loadN rfl ti31 (by first | exact Rd.all (by repeat (first | exact List.Mem.head _ | apply List.Mem.tail)) | (repeat (first | assumption | apply Rd.up))) rfl rfl ?_
  refine TOps.call (vs := [_, _]) Try.call16 ⟨rfl, rfl, trivial⟩ (tvaluesTop_g hF0 hk Y N) rfl ?_
  rintro _ _ ⟨xs, xa, xcap, hxs, rfl, hxa, rfl⟩
  obtain rfl : xs = F.tnodeVals Y N := by rw [hxs, c0]; rfl
  rw [c0]
  have hrx : RdS (row xa 3 1 xcap (nats (F.tnodeVals Y N)) :: H5) xa 0 (nats (F.tnodeVals Y N)) := RdS.ofRowA (List.Mem.head _) hxa
  replace r1 := r1.up (e := row xa 3 1 xcap (nats (F.tnodeVals Y N))); replace r9 := r9.up (e := row xa 3 1 xcap (nats (F.tnodeVals Y N))); replace hF0 := hF0.le (Le.drop (e := row xa 3 1 xcap (nats (F.tnodeVals Y N))) (Le.refl _))
  generalize hH6 : row xa 3 1 xcap (nats (F.tnodeVals Y N)) :: H5 = H6 at *
  have l10 : Le H6 H := by rw [← hH6]; exact Le.drop l9
  refine TOps.move rfl rfl ?_
  refine TOps.extract rfl rfl rfl ?_
  refine TOps.extract rfl rfl rfl ?_
  refine TOps.assign rfl rfl ?_
  refine TOps.assign rfl rfl ?_
  refine TOps.next ?_
  refine Tri.seq (Tri.region ?_)
  refine TOps.loadN rfl ti24 (by first | exact Rd.all (by repeat (first | exact List.Mem.head _ | apply List.Mem.tail)) | (repeat (first | assumption | apply Rd.up))) rfl rfl ?_
  refine TOps.loadN rfl ti31 (by first | exact Rd.all (by repeat (first | exact List.Mem.head _ | apply List.Mem.tail)) | (repeat (first | assumption | apply Rd.up))) rfl rfl ?_
  refine TOps.call (vs := [_, _]) Try.call16 ⟨rfl, rfl, trivial⟩ (tvaluesTop_g hF0 hk (moreYes Y N B0 : Nat) (moreNo Y N B0 B1 : Nat)) rfl ?_
  rintro _ _ ⟨ys, ya, ycap, hys, rfl, hya, rfl⟩
  obtain rfl : ys = F.tnodeVals (moreYes Y N B0 : Nat) (moreNo Y N B0 B1 : Nat) := by rw [hys, c1]; rfl
  rw [c1]
  have hry : RdS (row ya 3 1 ycap (nats (F.tnodeVals (moreYes Y N B0 : Nat) (moreNo Y N B0 B1 : Nat))) :: H6) ya 0 (nats (F.tnodeVals (moreYes Y N B0 : Nat) (moreNo Y N B0 B1 : Nat))) := RdS.ofRowA (List.Mem.head _) hya
  replace hrx := RdS.up (e := row ya 3 1 ycap (nats (F.tnodeVals (moreYes Y N B0 : Nat) (moreNo Y N B0 B1 : Nat)))) hrx
  generalize hH7 : row ya 3 1 ycap (nats (F.tnodeVals (moreYes Y N B0 : Nat) (moreNo Y N B0 B1 : Nat))) :: H6 = H7 at *
  have l11 : Le H7 H := by rw [← hH7]; exact Le.drop l10
  rw [hnl, hnl']
  refine TOps.move rfl rfl ?_
  refine TOps.extract rfl rfl rfl ?_
  refine TOps.extract rfl rfl rfl ?_
  refine TOps.assign rfl rfl ?_
  refine TOps.assign rfl rfl ?_
  refine TOps.next ?_
  refine Tri.seq ?_
  refine Tri.seq (Tri.region ?_)
  refine TOps.move rfl rfl ?_
  refine TOps.neqNil (T := 62) (o := none) rfl Try.underlying28 rfl ?_
  refine TOps.move rfl rfl ?_
  refine' TOps.orB 2 rfl rfl rfl rfl (fun hg8_2 => ?_) ?_; rotate_left
  · have hg8_2' := hg8_2
    try simp only [decide_eq_true_eq, decide_eq_false_iff_not, Bool.and_eq_true, Bool.or_eq_true, Bool.not_eq_true', Bool.and_eq_false_iff, Bool.or_eq_false_iff, Bool.not_eq_false', Int.not_lt, Int.not_le, ne_eq, Decidable.not_not] at hg8_2'
    refine TOps.strip 2 false rfl rfl hg8_2 rfl ?_
    refine TOps.move rfl rfl ?_
    refine TOps.neqNil (T := 62) (o := none) rfl Try.underlying28 rfl ?_
    refine TOps.blk rfl (by repeat (first | exact Ext.refl _ | refine Ext.cons rfl ?_)) (by repeat (first | exact Le.refl _ | apply Le.drop))
  refine TOps.move rfl rfl ?_
  refine' TOps.orB 5 rfl rfl rfl rfl (fun hg8_6 => ?_) ?_; rotate_left
  · have hg8_6' := hg8_6
    try simp only [decide_eq_true_eq, decide_eq_false_iff_not, Bool.and_eq_true, Bool.or_eq_true, Bool.not_eq_true', Bool.and_eq_false_iff, Bool.or_eq_false_iff, Bool.not_eq_false', Int.not_lt, Int.not_le, ne_eq, Decidable.not_not] at hg8_6'
    refine TOps.strip 6 false rfl rfl hg8_6 rfl ?_
    refine TOps.move rfl rfl ?_
    refine TOps.len rfl Try.underlying34 rfl ?_
    refine TOps.move rfl rfl ?_
    refine TOps.len rfl Try.underlying34 rfl ?_
    refine TOps.neqI rfl rfl rfl ?_
    refine TOps.blk rfl (by repeat (first | exact Ext.refl _ | refine Ext.cons rfl ?_)) (by repeat (first | exact Le.refl _ | apply Le.drop))
  refine TOps.next ?_
  refine Tri.cond rfl (fun hc2 => ?_) (fun hc2 => ?_)
  · try simp only [decide_eq_true_eq, decide_eq_false_iff_not, Bool.and_eq_true, Bool.or_eq_true, Bool.not_eq_true', Bool.and_eq_false_iff, Bool.or_eq_false_iff, Bool.not_eq_false', Int.not_lt, Int.not_le, ne_eq, Decidable.not_not, Option.isSome_iff_ne_none, Option.isNone_iff_eq_none] at hc2
    have hfalse : False := by simp at hc2
    refine Tri.seq (Tri.region ?_)
    refine TOps.assign rfl rfl ?_
    refine TOps.next ?_
    exact hfalse.elim
  try simp only [decide_eq_true_eq, decide_eq_false_iff_not, Bool.and_eq_true, Bool.or_eq_true, Bool.not_eq_true', Bool.and_eq_false_iff, Bool.or_eq_false_iff, Bool.not_eq_false', Int.not_lt, Int.not_le, ne_eq, Decidable.not_not, Option.isSome_iff_ne_none, Option.isNone_iff_eq_none] at hc2
  refine Tri.fin ?_
  refine Nrm.next ?_
  refine Tri.seq ?_
  refine Tri.seq (Tri.region ?_)
  refine TOps.move rfl rfl ?_
  refine TOps.len rfl Try.underlying34 rfl ?_
  refine TOps.move rfl rfl ?_
  refine TOps.next ?_
  refine Tri.range (X := Unit) (fun x k => [(10, slV xa 0 F.nodes.length xcap), (12, slV ya 0 F.nodes.length ycap)]) (fun x k => H7) (fun x k => True) (by omega) rfl rfl rfl (fun _ _ => ⟨rfl, rfl, rfl, rfl⟩) () trivial ⟨rfl, rfl, trivial⟩ (by repeat (first | exact Le.refl _ | assumption | apply Le.drop)) (fun k x hlt hp => ?_) (fun x ac wc hp hS hM => ?_)
  · skip
    obtain ⟨b6, rfl, -, h6⟩ := nats_at hrx (i := k) (by omega)
    obtain ⟨b8, rfl, -, h8⟩ := nats_at hry (i := k) (by omega)
    have q1 := F.tnodeVals_getD Y N k
    have q2 := F.tnodeVals_getD (moreYes Y N B0 : Nat) (moreNo Y N B0 B1 : Nat) k
    rw [List.getD_eq_getElem?_getD, List.getElem?_eq_getElem (show k < (F.tnodeVals Y N).length by omega), Option.getD_some] at q1
    rw [List.getD_eq_getElem?_getD, List.getElem?_eq_getElem (show k < (F.tnodeVals (moreYes Y N B0 : Nat) (moreNo Y N B0 B1 : Nat)).length by omega), Option.getD_some] at q2
    rw [q1, Nat.zero_add] at h6
    rw [q2, Nat.zero_add] at h8
    have hlk := hlaw (F.vars.toNat + k) (by omega)
    generalize F.tval Y N (F.vars.toNat + k) = t1 at *
    generalize F.tval (moreYes Y N B0 : Nat) (moreNo Y N B0 B1 : Nat) (F.vars.toNat + k) = t2 at *
    refine Tri.seq (Tri.region ?_)
    refine TOps.move rfl rfl ?_
    refine TOps.assign rfl rfl ?_
    refine TOps.next ?_
    refine Tri.seq ?_
    rcases (show decide ((t1 : Int) ≠ 2) = false ∨ decide ((t1 : Int) ≠ 2) = true from by cases decide ((t1 : Int) ≠ 2) <;> simp) with q4 | q4
    · skip
      refine Tri.drawC rfl [(10, slV (some b6) 0 F.nodes.length xcap), (12, slV (some b8) 0 F.nodes.length ycap), (14, .int .i64 k), (87, .int .i64 F.nodes.length), (88, .int .i64 k)] [] [_, _, _, _, _, _, _, _, _, _, _, _, _, _, _, _] (H7) [15] rfl ⟨rfl, rfl, rfl, rfl, rfl, trivial⟩ trivial (by repeat (first | exact Le.refl _ | assumption | apply Le.drop)) (by
        refine ⟨?_, ?_, ?_, ?_, ?_, ?_, ?_, ?_, ?_, ?_, ?_, ?_, ?_, ?_, ?_, ?_, trivial⟩
        · refine ⟨fun x S c he hw hd hc hcu hm _ => ?_, trivial⟩
          refine TOps.move (he _ _ rfl) rfl ?_
          exact TOps.fin (Nrm.draw x (fun _ _ _ => rfl) rfl (by first | exact Le.refl _ | assumption | exact (by repeat (first | exact Le.refl _ | assumption | apply Le.drop))))
        · refine ⟨fun x S c he hw hd hc hcu hm _ => ?_, trivial⟩
          refine TOps.move (he _ _ rfl) rfl ?_
          exact TOps.fin (Nrm.draw x (fun _ _ _ => rfl) rfl (by first | exact Le.refl _ | assumption | exact (by repeat (first | exact Le.refl _ | assumption | apply Le.drop))))
        · refine ⟨fun x S c he hw hd hc hcu hm _ => ?_, trivial⟩
          obtain ⟨h0, h1, -⟩ := hd
          refine TOps.indexAddr (off' := k) h0 h1 Try.underlying34 ti3 (by omega) (by omega) (by simp) rfl ?_
          exact TOps.fin (Nrm.draw x (fun _ _ _ => rfl) rfl (by first | exact Le.refl _ | assumption | exact (by repeat (first | exact Le.refl _ | assumption | apply Le.drop))))
        · refine ⟨fun x S c he hw hd hc hcu hm _ => ?_, trivial⟩
          obtain ⟨h2, -⟩ := hd
          refine TOps.load1 h2 ti3 (by first | exact Rd.lit (by repeat (first | exact List.Mem.head _ | apply List.Mem.tail)) rfl | (repeat (first | assumption | apply Rd.up))) rfl ?_
          exact TOps.fin (Nrm.draw x (fun _ _ _ => rfl) rfl (by first | exact Le.refl _ | assumption | exact (by repeat (first | exact Le.refl _ | assumption | apply Le.drop))))
        · refine ⟨fun x S c he hw hd hc hcu hm _ => ?_, trivial⟩
          obtain ⟨h3, -⟩ := hd
          refine TOps.neqIr h3 rfl q4 rfl ?_
          exact TOps.fin (Nrm.draw x (fun _ _ _ => rfl) rfl (by first | exact Le.refl _ | assumption | exact (by repeat (first | exact Le.refl _ | assumption | apply Le.drop))))
        · refine ⟨fun x S c he hw hd hc hcu hm _ => ?_, trivial⟩
          obtain ⟨h4, -⟩ := hd
          refine TOps.move h4 rfl ?_
          exact TOps.fin (Nrm.draw x (fun _ _ _ => rfl) rfl (by first | exact Le.refl _ | assumption | exact (by repeat (first | exact Le.refl _ | assumption | apply Le.drop))))
        · refine ⟨fun x S c he hw hd hc hcu hm hgd => ?_, ⟨_, rfl⟩, .inl ⟨rfl, fun x => .inr ⟨.inl rfl, rfl⟩⟩⟩
          exact absurd hgd (by first | (intro h; cases h; done) | simp_all)
        · refine ⟨fun x S c he hw hd hc hcu hm hgd => ?_, ⟨_, rfl⟩, .inl ⟨rfl, fun x => .inr ⟨.inl rfl, rfl⟩⟩⟩
          exact absurd hgd (by first | (intro h; cases h; done) | simp_all)
        · refine ⟨fun x S c he hw hd hc hcu hm hgd => ?_, ⟨_, rfl⟩, .inl ⟨rfl, fun x => .inr ⟨.inl rfl, rfl⟩⟩⟩
          exact absurd hgd (by first | (intro h; cases h; done) | simp_all)
        · refine ⟨fun x S c he hw hd hc hcu hm hgd => ?_, ⟨_, rfl⟩, .inl ⟨rfl, fun x => .inr ⟨.inl rfl, rfl⟩⟩⟩
          exact absurd hgd (by first | (intro h; cases h; done) | simp_all)
        · refine ⟨fun x S c he hw hd hc hcu hm hgd => ?_, ⟨_, rfl⟩, .inl ⟨rfl, fun x => .inr ⟨.inl rfl, rfl⟩⟩⟩
          exact absurd hgd (by first | (intro h; cases h; done) | simp_all)
        · refine ⟨fun x S c he hw hd hc hcu hm hgd => ?_, ⟨_, rfl⟩, .inl ⟨rfl, fun x => .inr ⟨.inl rfl, rfl⟩⟩⟩
          exact absurd hgd (by first | (intro h; cases h; done) | simp_all)
        · refine ⟨fun x S c he hw hd hc hcu hm hgd => ?_, ⟨_, rfl⟩, .inl ⟨rfl, fun x => .inr ⟨.inl rfl, rfl⟩⟩⟩
          exact absurd hgd (by first | (intro h; cases h; done) | simp_all)
        · refine ⟨fun x S c he hw hd hc hcu hm hgd => ?_, ⟨_, rfl⟩, .inl ⟨rfl, fun x => .inr ⟨.inl rfl, rfl⟩⟩⟩
          exact absurd hgd (by first | (intro h; cases h; done) | simp_all)
        · refine ⟨fun x S c he hw hd hc hcu hm hgd => ?_, ⟨_, rfl⟩, .inl ⟨rfl, fun x => .inr ⟨.inl rfl, rfl⟩⟩⟩
          exact absurd hgd (by first | (intro h; cases h; done) | simp_all)
        · refine ⟨fun x S c he hw hd hc hcu hm _ => ?_, trivial⟩
          obtain ⟨h5, h14, -⟩ := hd
          refine TOps.pickr (r := .bool false) h5 h14 rfl rfl rfl ?_
          exact TOps.fin (Nrm.draw x (fun _ _ _ => rfl) rfl (by first | exact Le.refl _ | assumption | exact (by repeat (first | exact Le.refl _ | assumption | apply Le.drop))))
        ) ?_
      refine Nrm.next ?_
      refine Tri.cond rfl (fun hc3 => ?_) (fun hc3 => ?_)
      · try simp only [decide_eq_true_eq, decide_eq_false_iff_not, Bool.and_eq_true, Bool.or_eq_true, Bool.not_eq_true', Bool.and_eq_false_iff, Bool.or_eq_false_iff, Bool.not_eq_false', Int.not_lt, Int.not_le, ne_eq, Decidable.not_not, Option.isSome_iff_ne_none, Option.isNone_iff_eq_none] at hc3
        have hfalse : False := by simp at hc3
        refine Tri.seq (Tri.region ?_)
        refine TOps.assign rfl rfl ?_
        refine TOps.next ?_
        exact hfalse.elim
      try simp only [decide_eq_true_eq, decide_eq_false_iff_not, Bool.and_eq_true, Bool.or_eq_true, Bool.not_eq_true', Bool.and_eq_false_iff, Bool.or_eq_false_iff, Bool.not_eq_false', Int.not_lt, Int.not_le, ne_eq, Decidable.not_not, Option.isSome_iff_ne_none, Option.isNone_iff_eq_none] at hc3
      refine Tri.fin ?_
      refine Nrm.body () trivial ⟨rfl, rfl, rfl, rfl, trivial⟩ (by repeat (first | exact Le.refl _ | assumption | apply Le.drop))
    · skip
      refine Tri.drawC rfl [(10, slV (some b6) 0 F.nodes.length xcap), (12, slV (some b8) 0 F.nodes.length ycap), (14, .int .i64 k), (87, .int .i64 F.nodes.length), (88, .int .i64 k)] [] [_, _, _, _, _, _, _, _, _, _, _, _, _, _, _, _] (H7) [15] rfl ⟨rfl, rfl, rfl, rfl, rfl, trivial⟩ trivial (by repeat (first | exact Le.refl _ | assumption | apply Le.drop)) (by
        refine ⟨?_, ?_, ?_, ?_, ?_, ?_, ?_, ?_, ?_, ?_, ?_, ?_, ?_, ?_, ?_, ?_, trivial⟩
        · refine ⟨fun x S c he hw hd hc hcu hm _ => ?_, trivial⟩
          refine TOps.move (he _ _ rfl) rfl ?_
          exact TOps.fin (Nrm.draw x (fun _ _ _ => rfl) rfl (by first | exact Le.refl _ | assumption | exact (by repeat (first | exact Le.refl _ | assumption | apply Le.drop))))
        · refine ⟨fun x S c he hw hd hc hcu hm _ => ?_, trivial⟩
          refine TOps.move (he _ _ rfl) rfl ?_
          exact TOps.fin (Nrm.draw x (fun _ _ _ => rfl) rfl (by first | exact Le.refl _ | assumption | exact (by repeat (first | exact Le.refl _ | assumption | apply Le.drop))))
        · refine ⟨fun x S c he hw hd hc hcu hm _ => ?_, trivial⟩
          obtain ⟨h0, h1, -⟩ := hd
          refine TOps.indexAddr (off' := k) h0 h1 Try.underlying34 ti3 (by omega) (by omega) (by simp) rfl ?_
          exact TOps.fin (Nrm.draw x (fun _ _ _ => rfl) rfl (by first | exact Le.refl _ | assumption | exact (by repeat (first | exact Le.refl _ | assumption | apply Le.drop))))
        · refine ⟨fun x S c he hw hd hc hcu hm _ => ?_, trivial⟩
          obtain ⟨h2, -⟩ := hd
          refine TOps.load1 h2 ti3 (by first | exact Rd.lit (by repeat (first | exact List.Mem.head _ | apply List.Mem.tail)) rfl | (repeat (first | assumption | apply Rd.up))) rfl ?_
          exact TOps.fin (Nrm.draw x (fun _ _ _ => rfl) rfl (by first | exact Le.refl _ | assumption | exact (by repeat (first | exact Le.refl _ | assumption | apply Le.drop))))
        · refine ⟨fun x S c he hw hd hc hcu hm _ => ?_, trivial⟩
          obtain ⟨h3, -⟩ := hd
          refine TOps.neqIr h3 rfl q4 rfl ?_
          exact TOps.fin (Nrm.draw x (fun _ _ _ => rfl) rfl (by first | exact Le.refl _ | assumption | exact (by repeat (first | exact Le.refl _ | assumption | apply Le.drop))))
        · refine ⟨fun x S c he hw hd hc hcu hm _ => ?_, trivial⟩
          obtain ⟨h4, -⟩ := hd
          refine TOps.move h4 rfl ?_
          exact TOps.fin (Nrm.draw x (fun _ _ _ => rfl) rfl (by first | exact Le.refl _ | assumption | exact (by repeat (first | exact Le.refl _ | assumption | apply Le.drop))))
        · refine ⟨fun x S c he hw hd hc hcu hm hgd => ?_, ⟨_, rfl⟩, .inl ⟨rfl, fun x => .inl rfl⟩⟩
          obtain ⟨h5, -⟩ := hd
          refine TOps.move (he _ _ rfl) rfl ?_
          exact TOps.fin (Nrm.draw x (fun _ _ _ => rfl) rfl (by first | exact Le.refl _ | assumption | exact (by repeat (first | exact Le.refl _ | assumption | apply Le.drop))))
        · refine ⟨fun x S c he hw hd hc hcu hm hgd => ?_, ⟨_, rfl⟩, .inl ⟨rfl, fun x => .inl rfl⟩⟩
          obtain ⟨h5, -⟩ := hd
          refine TOps.move (he _ _ rfl) rfl ?_
          exact TOps.fin (Nrm.draw x (fun _ _ _ => rfl) rfl (by first | exact Le.refl _ | assumption | exact (by repeat (first | exact Le.refl _ | assumption | apply Le.drop))))
        · refine ⟨fun x S c he hw hd hc hcu hm hgd => ?_, ⟨_, rfl⟩, .inl ⟨rfl, fun x => .inl rfl⟩⟩
          obtain ⟨h6, h7, h5, -⟩ := hd
          refine TOps.indexAddr (off' := k) h6 h7 Try.underlying34 ti3 (by omega) (by omega) (by simp) rfl ?_
          exact TOps.fin (Nrm.draw x (fun _ _ _ => rfl) rfl (by first | exact Le.refl _ | assumption | exact (by repeat (first | exact Le.refl _ | assumption | apply Le.drop))))
        · refine ⟨fun x S c he hw hd hc hcu hm hgd => ?_, ⟨_, rfl⟩, .inl ⟨rfl, fun x => .inl rfl⟩⟩
          obtain ⟨h8, h5, -⟩ := hd
          refine TOps.load1 h8 ti3 (by first | exact Rd.lit (by repeat (first | exact List.Mem.head _ | apply List.Mem.tail)) rfl | (repeat (first | assumption | apply Rd.up))) rfl ?_
          exact TOps.fin (Nrm.draw x (fun _ _ _ => rfl) rfl (by first | exact Le.refl _ | assumption | exact (by repeat (first | exact Le.refl _ | assumption | apply Le.drop))))
        · refine ⟨fun x S c he hw hd hc hcu hm hgd => ?_, ⟨_, rfl⟩, .inl ⟨rfl, fun x => .inl rfl⟩⟩
          obtain ⟨h5, -⟩ := hd
          refine TOps.move (he _ _ rfl) rfl ?_
          exact TOps.fin (Nrm.draw x (fun _ _ _ => rfl) rfl (by first | exact Le.refl _ | assumption | exact (by repeat (first | exact Le.refl _ | assumption | apply Le.drop))))
        · refine ⟨fun x S c he hw hd hc hcu hm hgd => ?_, ⟨_, rfl⟩, .inl ⟨rfl, fun x => .inl rfl⟩⟩
          obtain ⟨h5, -⟩ := hd
          refine TOps.move (he _ _ rfl) rfl ?_
          exact TOps.fin (Nrm.draw x (fun _ _ _ => rfl) rfl (by first | exact Le.refl _ | assumption | exact (by repeat (first | exact Le.refl _ | assumption | apply Le.drop))))
        · refine ⟨fun x S c he hw hd hc hcu hm hgd => ?_, ⟨_, rfl⟩, .inl ⟨rfl, fun x => .inl rfl⟩⟩
          obtain ⟨h10, h11, h5, -⟩ := hd
          refine TOps.indexAddr (off' := k) h10 h11 Try.underlying34 ti3 (by omega) (by omega) (by simp) rfl ?_
          exact TOps.fin (Nrm.draw x (fun _ _ _ => rfl) rfl (by first | exact Le.refl _ | assumption | exact (by repeat (first | exact Le.refl _ | assumption | apply Le.drop))))
        · refine ⟨fun x S c he hw hd hc hcu hm hgd => ?_, ⟨_, rfl⟩, .inl ⟨rfl, fun x => .inl rfl⟩⟩
          obtain ⟨h12, h5, -⟩ := hd
          refine TOps.load1 h12 ti3 (by first | exact Rd.lit (by repeat (first | exact List.Mem.head _ | apply List.Mem.tail)) rfl | (repeat (first | assumption | apply Rd.up))) rfl ?_
          exact TOps.fin (Nrm.draw x (fun _ _ _ => rfl) rfl (by first | exact Le.refl _ | assumption | exact (by repeat (first | exact Le.refl _ | assumption | apply Le.drop))))
        · refine ⟨fun x S c he hw hd hc hcu hm hgd => ?_, ⟨_, rfl⟩, .inl ⟨rfl, fun x => .inl rfl⟩⟩
          obtain ⟨h9, h13, h5, -⟩ := hd
          refine TOps.neqIr (r := false) h9 h13 (decide_eq_false (by have := hlk (by have := of_decide_eq_true q4; omega); omega)) rfl ?_
          exact TOps.fin (Nrm.draw x (fun _ _ _ => rfl) rfl (by first | exact Le.refl _ | assumption | exact (by repeat (first | exact Le.refl _ | assumption | apply Le.drop))))
        · refine ⟨fun x S c he hw hd hc hcu hm _ => ?_, trivial⟩
          obtain ⟨h5, h14, -⟩ := hd
          refine TOps.pickr (r := .bool false) h5 h14 rfl rfl rfl ?_
          exact TOps.fin (Nrm.draw x (fun _ _ _ => rfl) rfl (by first | exact Le.refl _ | assumption | exact (by repeat (first | exact Le.refl _ | assumption | apply Le.drop))))
        ) ?_
      refine Nrm.next ?_
      refine Tri.cond rfl (fun hc3 => ?_) (fun hc3 => ?_)
      · try simp only [decide_eq_true_eq, decide_eq_false_iff_not, Bool.and_eq_true, Bool.or_eq_true, Bool.not_eq_true', Bool.and_eq_false_iff, Bool.or_eq_false_iff, Bool.not_eq_false', Int.not_lt, Int.not_le, ne_eq, Decidable.not_not, Option.isSome_iff_ne_none, Option.isNone_iff_eq_none] at hc3
        have hfalse : False := by simp at hc3
        refine Tri.seq (Tri.region ?_)
        refine TOps.assign rfl rfl ?_
        refine TOps.next ?_
        exact hfalse.elim
      try simp only [decide_eq_true_eq, decide_eq_false_iff_not, Bool.and_eq_true, Bool.or_eq_true, Bool.not_eq_true', Bool.and_eq_false_iff, Bool.or_eq_false_iff, Bool.not_eq_false', Int.not_lt, Int.not_le, ne_eq, Decidable.not_not, Option.isSome_iff_ne_none, Option.isNone_iff_eq_none] at hc3
      refine Tri.fin ?_
      refine Nrm.body () trivial ⟨rfl, rfl, rfl, rfl, trivial⟩ (by repeat (first | exact Le.refl _ | assumption | apply Le.drop))
  refine Nrm.of hS hM ?_
  refine Nrm.next ?_
  refine Tri.seq (Tri.region ?_)
  refine TOps.assign rfl rfl ?_
  refine TOps.next ?_
  refine Tri.ret1 (H' := H) Try.results5 (fun _ _ h => h) (.tmp rfl) l11 ⟨rfl, rfl⟩
end Go.Proofs
