import Derived.Test.YthbmgpkocbabeaaE08
import Derived.Test.YthbmgpkocbabeaaGL16
namespace Go.Proofs
open Go.GL
set_option linter.unusedVariables false
set_option linter.unusedSimpArgs false
theorem cloneB_g {H : List Ent} {xs : List Bool} {a sp : Option Nat} {off cap : Nat} (hr : RdS H a off (bools xs) sp) (hl : xs.length ≤ 1000000) :
    Gives Try.prog 41 [slV a off xs.length cap sp] H (NewS 4 (bools xs) xs.length H) := by
  refine Gives.enter Try.func41 rfl (by exact Try.ntmps41) rfl ?_
  refine Tri.seq (Tri.region ?_)
  refine TOps.assign rfl rfl ?_
  refine TOps.next ?_
  refine Tri.seq ?_
  refine Tri.seq (Tri.region ?_)
  refine TOps.move rfl rfl ?_
  refine TOps.eqlSlNil rfl Try.underlying50 rfl ?_
  refine TOps.next ?_
  refine Tri.cond rfl (fun hc1 => ?_) (fun hc1 => ?_)
  · try simp only [decide_eq_true_eq, decide_eq_false_iff_not, Bool.and_eq_true, Bool.or_eq_true, Bool.not_eq_true', Bool.and_eq_false_iff, Bool.or_eq_false_iff, Bool.not_eq_false', Int.not_lt, Int.not_le, ne_eq, Decidable.not_not, Option.isSome_iff_ne_none, Option.isNone_iff_eq_none] at hc1
    subst hc1
    have hx := RdS.none hr
    obtain rfl : xs = [] := by simpa using hx
    refine Tri.seq (Tri.region ?_)
    refine TOps.assign rfl rfl ?_
    refine TOps.next ?_
    refine Tri.ret1 (H' := _) Try.results41 (fun _ _ h => h) (.tmp rfl) Le.addNil ⟨none, 0, rfl, by simp, rfl⟩
  try simp only [decide_eq_true_eq, decide_eq_false_iff_not, Bool.and_eq_true, Bool.or_eq_true, Bool.not_eq_true', Bool.and_eq_false_iff, Bool.or_eq_false_iff, Bool.not_eq_false', Int.not_lt, Int.not_le, ne_eq, Decidable.not_not, Option.isSome_iff_ne_none, Option.isNone_iff_eq_none] at hc1
  refine Tri.fin ?_
  refine Nrm.next ?_
  refine Tri.seq (Tri.region ?_)
  refine TOps.buildSlice0 Try.underlying50 ti4 rfl (fun b5 => ?_)
  replace hr := hr.up (e := row (some b5) 4 1 0 [])
  refine TOps.move rfl rfl ?_
  refine TOps.append (ys := bools xs) rfl rfl Try.underlying50 ti4 rfl (fun _ _ => Upd.here) hr (by simp) rfl (by intro u hu; obtain ⟨q, _, rfl⟩ := List.mem_map.1 hu; rfl) (by omega) (by omega) rfl (fun a' cap' h0 => ?_)
  refine TOps.assign rfl rfl ?_
  refine TOps.next ?_
  refine Tri.ret1 (H' := _) Try.results41 (fun _ _ h => h) (.tmp rfl) (Le.refl _) ⟨a', cap', by rw [Nat.zero_add], h0, rfl⟩
theorem fvalues_g {H : List Ent} {fv : Value} {F : Fm} (hF : RF H fv F) (hk : F.ok) (failed : Int) :
    Gives Try.prog 26 [fv, .int .i64 failed] H (fun u H' => ∃ xs a cap, xs = (bif (F.setErr failed).isNone then F.nodeVals failed else []) ∧ u = .tuple (List.toArray [slV a 0 xs.length cap, errV 43 (F.setErr failed)]) ∧ (bools xs ≠ [] → ∃ b, a = some b) ∧ row a 4 1 cap (bools xs) :: H = H') := by
  have hF0 := hF
  obtain ⟨a, off, cap, nsp, rfl, hN⟩ := hF
  refine Gives.enter Try.func26 rfl (by exact Try.ntmps26) rfl ?_
  refine Tri.seq (Tri.region ?_)
  refine TOps.boxN rfl ti24 rfl rfl (fun b2 => ?_)
  refine TOps.hide (fun H1 l1 s1 r1 => ?_)
  replace hF0 := hF0.le l1
  refine TOps.assign rfl rfl ?_
  refine TOps.assign rfl rfl ?_
  refine TOps.next ?_
  refine Tri.seq ?_
  refine Tri.seq (Tri.region ?_)
  refine TOps.loadN rfl ti24 (by first | exact Rd.all (by repeat (first | exact List.Mem.head _ | apply List.Mem.tail)) | (repeat (first | assumption | apply Rd.up))) rfl rfl ?_
  refine TOps.move rfl rfl ?_
  refine TOps.call (vs := [_, _]) Try.call40 ⟨rfl, rfl, trivial⟩ (fcheck_g hF0 hk _) rfl ?_
  rintro _ _ ⟨rfl, rfl⟩
  refine TOps.assign rfl rfl ?_
  refine TOps.next ?_
  refine Tri.seq (Tri.region ?_)
  refine TOps.move rfl rfl ?_
  refine TOps.neqNil rfl Try.underlying28 rfl ?_
  refine TOps.next ?_
  refine Tri.cond rfl (fun hc1 => ?_) (fun hc1 => ?_)
  · try simp only [decide_eq_true_eq, decide_eq_false_iff_not, Bool.and_eq_true, Bool.or_eq_true, Bool.not_eq_true', Bool.and_eq_false_iff, Bool.or_eq_false_iff, Bool.not_eq_false', Int.not_lt, Int.not_le, ne_eq, Decidable.not_not, Option.isSome_iff_ne_none, Option.isNone_iff_eq_none] at hc1
    obtain ⟨e, he⟩ := Option.ne_none_iff_exists'.1 hc1
    refine Tri.seq (Tri.region ?_)
    refine TOps.move rfl rfl ?_
    refine TOps.assign rfl rfl ?_
    refine TOps.assign rfl rfl ?_
    refine TOps.next ?_
    refine Tri.ret2 (H' := _) Try.results26 (fun _ _ h => h) (.tmp rfl) (.tmp rfl) (Le.trans Le.addNil (Le.consOf s1)) ⟨[], none, 0, by rw [he]; rfl, by rw [he]; rfl, by simp, rfl⟩
  try simp only [decide_eq_true_eq, decide_eq_false_iff_not, Bool.and_eq_true, Bool.or_eq_true, Bool.not_eq_true', Bool.and_eq_false_iff, Bool.or_eq_false_iff, Bool.not_eq_false', Int.not_lt, Int.not_le, ne_eq, Decidable.not_not, Option.isSome_iff_ne_none, Option.isNone_iff_eq_none] at hc1
  have he : F.setErr failed = none := by simpa using hc1
  have hg := (Fm.setErr_none he).1
  have g0 := hg.v0; have g1 := hg.v1; have gt := hg.topLt; have g2 := hg.n1
  have hvl := F.values_length failed
  have hnl := F.nodeVals_length failed
  obtain ⟨v, hv⟩ := Int.eq_ofNat_of_zero_le g0
  have hvn : F.vars.toNat = v := by omega
  rw [hv] at r1 hF0 ⊢
  refine Tri.fin ?_
  refine Nrm.next ?_
  refine Tri.seq ?_
  have hle : ∀ (x : Nat × Nat × { q : Option Nat // bools (F.nodeVals failed) ≠ [] → ∃ b, q = some b } × Nat) (c : Nat), Le (match c with | 0 => H1 | 1 => row (some x.1) 4 1 x.2.1 (bools (F.values failed)) :: H1 | _ + 2 => row x.2.2.1.1 4 1 x.2.2.2 (bools (F.nodeVals failed)) :: row (some x.1) 4 1 x.2.1 (bools (F.values failed)) :: H1) H1 := by
    intro x c
    match c with
    | 0 => exact Le.refl _
    | 1 => exact Le.drop (Le.refl _)
    | _ + 2 => exact Le.drop (Le.drop (Le.refl _))
  refine Tri.drawN (X := Nat × Nat × { q : Option Nat // bools (F.nodeVals failed) ≠ [] → ∃ b, q = some b } × Nat) rfl [(2, .pointer (some ⟨b2, 0, none⟩)), (1, .int .i64 failed)] [] (fun x i => ([.agg (List.toArray [.int .i64 v, slV a off F.nodes.length cap nsp, .int .i64 F.top]), .int .i64 failed, slV (some x.1) 0 (F.values failed).length x.2.1, .pointer (some ⟨b2, 0, none⟩), .int .i64 v, slV (some x.1) (bif x.2.1 == v then 0 else 0 + v * 1) ((F.values failed).length - v) (x.2.1 - v), slV x.2.2.1.1 0 (F.nodeVals failed).length x.2.2.2, slV x.2.2.1.1 0 (F.nodeVals failed).length x.2.2.2, .nilIface] : List Value).getD i undef) (fun x c => match c with | 0 => H1 | 1 => row (some x.1) 4 1 x.2.1 (bools (F.values failed)) :: H1 | _ + 2 => row x.2.2.1.1 4 1 x.2.2.2 (bools (F.nodeVals failed)) :: row (some x.1) 4 1 x.2.1 (bools (F.values failed)) :: H1) [2, 6] (0, 0, ⟨some 0, fun _ => ⟨0, rfl⟩⟩, 0) [7, 8] rfl rfl ⟨rfl, rfl, trivial⟩ trivial (by repeat (first | exact Le.refl _ | assumption | apply Le.drop)) ?_ (fun x => ?_)
  · refine ⟨?_, ?_, ?_, ?_, ?_, ?_, ?_, ?_, ?_, trivial⟩
    · refine ⟨fun x S c he hw hd hc hcu hm _ => ?_, trivial⟩
      refine TOps.loadN (he _ _ rfl) ti24 (Rd.le (by first | exact Rd.all (by repeat (first | exact List.Mem.head _ | apply List.Mem.tail)) | (repeat (first | assumption | apply Rd.up))) (hle x c)) rfl rfl ?_
      exact TOps.fin (Nrm.draw x (fun _ _ _ => rfl) rfl (by first | exact Le.refl _ | assumption | exact (by repeat (first | exact Le.refl _ | assumption | apply Le.drop))))
    · refine ⟨fun x S c he hw hd hc hcu hm _ => ?_, trivial⟩
      refine TOps.move (he _ _ rfl) rfl ?_
      exact TOps.fin (Nrm.draw x (fun _ _ _ => rfl) rfl (by first | exact Le.refl _ | assumption | exact (by repeat (first | exact Le.refl _ | assumption | apply Le.drop))))
    · refine ⟨fun x S c he hw hd hc hcu hm _ => ?_, trivial⟩
      obtain ⟨h0, h1, -⟩ := hd
      obtain rfl : c = 0 := hm rfl
      refine TOps.call (vs := [_, _]) Try.call42 ⟨h0, h1, trivial⟩ (values_g hF0 hk hg _) rfl ?_
      rintro _ _ ⟨b, cp, rfl, rfl⟩
      refine TOps.fin (Nrm.draw (b, cp, x.2.2) ?_ rfl (Le.refl _))
      intro j hj hcj
      rcases j with _|_|_|_|_|_|_|_|_|j <;> first | rfl | exact absurd rfl hj | exact absurd hcj (by decide)
    · refine ⟨fun x S c he hw hd hc hcu hm _ => ?_, trivial⟩
      refine TOps.field0 (he _ _ rfl) Try.underlying24 rfl rfl ti3 rfl rfl rfl ?_
      exact TOps.fin (Nrm.draw x (fun _ _ _ => rfl) rfl (by first | exact Le.refl _ | assumption | exact (by repeat (first | exact Le.refl _ | assumption | apply Le.drop))))
    · refine ⟨fun x S c he hw hd hc hcu hm _ => ?_, trivial⟩
      obtain ⟨h3, -⟩ := hd
      refine TOps.load1 h3 ti3 (Rd.le (by first | exact Rd.lit (by repeat (first | exact List.Mem.head _ | apply List.Mem.tail)) rfl | (repeat (first | assumption | exact Rd.fld (by assumption) 0 rfl | apply Rd.up))) (hle x c)) rfl ?_
      exact TOps.fin (Nrm.draw x (fun _ _ _ => rfl) rfl (by first | exact Le.refl _ | assumption | exact (by repeat (first | exact Le.refl _ | assumption | apply Le.drop))))
    · refine ⟨fun x S c he hw hd hc hcu hm _ => ?_, trivial⟩
      obtain ⟨h2, h4, -⟩ := hd
      obtain ⟨c', rfl⟩ : ∃ c', c = c' + 1 := ⟨c - 1, by have : 1 ≤ c := hc; omega⟩
      refine TOps.rowCap (b := x.1) (E := 4) (sz := 1) (cap := x.2.1) (xs := bools (F.values failed)) (match c' with | 0 => List.Mem.head _ | _ + 1 => List.Mem.tail _ (List.Mem.head _)) (fun hcap => ?_)
      have hcap' : (F.values failed).length ≤ x.2.1 := by rw [List.length_map] at hcap; omega
      refine TOps.sliceLo h2 h4 Try.underlying50 ti4 (by omega) rfl ?_
      exact TOps.fin (Nrm.draw x (fun _ _ _ => rfl) rfl (by first | exact Le.refl _ | assumption | exact (by repeat (first | exact Le.refl _ | assumption | apply Le.drop))))
    · refine ⟨fun x S c he hw hd hc hcu hm _ => ?_, trivial⟩
      obtain ⟨h5, h2, -⟩ := hd
      obtain rfl : c = 1 := hm rfl
      rw [show (F.values failed).length - v = (F.nodeVals failed).length by omega] at h5
      refine TOps.rowCap (b := x.1) (E := 4) (sz := 1) (cap := x.2.1) (xs := bools (F.values failed)) (List.Mem.head _) (fun hcap => ?_)
      have hcap' : (F.values failed).length ≤ x.2.1 := by rw [List.length_map] at hcap; omega
      have hrd : RdS (row (some x.1) 4 1 x.2.1 (bools (F.values failed)) :: H1) (some x.1) (bif x.2.1 == v then 0 else 0 + v * 1) (bools (F.nodeVals failed)) := by
        by_cases hx : x.2.1 = v
        · refine .inl ?_; rw [List.map_eq_nil_iff, ← List.length_eq_zero_iff]; omega
        · rw [show (x.2.1 == v) = false from beq_eq_false_iff_ne.2 hx, cond_false, Nat.mul_one]
          have hq := RdS.drop (RdS.ofRowS (H := row (some x.1) 4 1 x.2.1 (bools (F.values failed)) :: H1) (List.Mem.head _)) v
          rw [← List.map_drop, ← hvn] at hq
          rw [← hvn]; exact hq
      refine TOps.call (vs := [_]) Try.call41 ⟨h5, trivial⟩ (cloneB_g (xs := F.nodeVals failed) hrd (by omega)) rfl ?_
      rintro _ _ ⟨a', cap', rfl, h0, rfl⟩
      refine TOps.fin (Nrm.draw (x.1, x.2.1, ⟨a', h0⟩, cap') ?_ rfl (Le.refl _))
      intro j hj hcj
      rcases j with _|_|_|_|_|_|_|_|_|j <;> first | rfl | exact absurd rfl hj | exact absurd hcj (by decide)
    · refine ⟨fun x S c he hw hd hc hcu hm _ => ?_, trivial⟩
      obtain ⟨h6, _, h0, h1, h2, h3, h4, h5, _, -⟩ := hd
      refine TOps.assign h6 rfl ?_
      exact TOps.fin (Nrm.draw x (fun _ _ _ => rfl) rfl (by first | exact Le.refl _ | assumption | exact (by repeat (first | exact Le.refl _ | assumption | apply Le.drop))))
    · refine ⟨fun x S c he hw hd hc hcu hm _ => ?_, trivial⟩
      obtain ⟨h7, h0, h1, h2, h3, h4, h5, h6, _, -⟩ := hd
      refine TOps.assign rfl rfl ?_
      exact TOps.fin (Nrm.draw x (fun _ _ _ => rfl) rfl (by first | exact Le.refl _ | assumption | exact (by repeat (first | exact Le.refl _ | assumption | apply Le.drop))))
  refine Nrm.next ?_
  refine Tri.ret2 (H' := _) Try.results26 (fun _ _ h => h) (.tmp rfl) (.tmp rfl) (Le.consOf (List.Sublist.cons _ s1)) ⟨F.nodeVals failed, x.2.2.1.1, x.2.2.2, by rw [he]; rfl, by rw [he]; rfl, x.2.2.1.2, rfl⟩
end Go.Proofs
