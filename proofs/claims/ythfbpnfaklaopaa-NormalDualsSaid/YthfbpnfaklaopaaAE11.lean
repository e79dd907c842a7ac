import Derived.Test.YthfbpnfaklaopaaG11
import Derived.Test.YthfbpnfaklaopaaGL80
namespace Go.Proofs
open Go.GL
set_option linter.unusedVariables false
set_option linter.unusedSimpArgs false
theorem rtruth_g {H : List Ent} (b : Bool) : Gives Try.prog 57 [.bool b] H (R1 (.int .i64 (rcst b)) H) := by
  refine Gives.enter Try.func57 rfl (by exact Try.ntmps57) rfl ?_
  refine Tri.seq (Tri.region ?_)
  refine TOps.assign rfl rfl ?_
  refine TOps.next ?_
  refine Tri.seq ?_
  refine Tri.seq (Tri.region ?_)
  refine TOps.move rfl rfl ?_
  refine TOps.next ?_
  refine Tri.cond rfl (fun hc1 => ?_) (fun hc1 => ?_)
  · try simp only [decide_eq_true_eq, decide_eq_false_iff_not, Bool.and_eq_true, Bool.or_eq_true, Bool.not_eq_true', Bool.and_eq_false_iff, Bool.or_eq_false_iff, Bool.not_eq_false', Int.not_lt, Int.not_le, ne_eq, Decidable.not_not, Option.isSome_iff_ne_none, Option.isNone_iff_eq_none] at hc1
    refine Tri.seq (Tri.region ?_)
    refine TOps.assign rfl rfl ?_
    refine TOps.next ?_
    refine Tri.ret1 (H' := H) Try.results57 (fun _ _ h => h) (.tmp rfl) (Le.refl _) ⟨by rw [hc1]; rfl, rfl⟩
  try simp only [decide_eq_true_eq, decide_eq_false_iff_not, Bool.and_eq_true, Bool.or_eq_true, Bool.not_eq_true', Bool.and_eq_false_iff, Bool.or_eq_false_iff, Bool.not_eq_false', Int.not_lt, Int.not_le, ne_eq, Decidable.not_not, Option.isSome_iff_ne_none, Option.isNone_iff_eq_none] at hc1
  refine Tri.fin ?_
  refine Nrm.next ?_
  refine Tri.seq (Tri.region ?_)
  refine TOps.assign rfl rfl ?_
  refine TOps.next ?_
  refine Tri.ret1 (H' := H) Try.results57 (fun _ _ h => h) (.tmp rfl) (Le.refl _) ⟨by rw [hc1]; rfl, rfl⟩
set_option maxHeartbeats 4000000 in
theorem rfolded_g {HB : List Ent} {bo : Nat} {v t : Int} {hdr : List Value} {ns : List Nd} {s : BS} (hs : s.ok ns) (hv : 0 ≤ v ∧ v ≤ 24) (hn : ns.length ≤ 100000) {d : Nd} (hdk : 0 ≤ d.kind ∧ d.kind ≤ 5) (hdkk : I64 d.k) (hk4 : d.kind = 4 → 1 ≤ d.k ∧ d.k ≤ 16) {da dsp : Option Nat} {dn do_ dc : Nat}
    {A : List Int} {aa asp : Option Nat} {ao ac m : Nat} (hm : A.length = m) (hm16 : m ≤ 16) (hk1 : d.kind = 1 → m = 1) (ha : RInts HB aa ao A asp) {RR : List Nd × Int} (hRR : fold1 v d (restOf A) (cntC (-2) A) (cntC (-1) A) ns = RR) (hA0 : ∀ a ∈ A, -2 ≤ a) :
    Gives Try.prog 50 [.agg (List.toArray [.int .i64 v, slV s.oa 0 ns.length s.cap, .int .i64 t]), .agg (List.toArray [.int .i64 d.kind, .int .i64 d.k, slV da do_ dn dc dsp]), slV aa ao m ac asp] (bldH 24 54 bo hdr ns s HB)
      (fun u H' => ∃ s' : BS, u = .tuple (List.toArray [.agg (List.toArray [.int .i64 v, slV s'.oa 0 RR.1.length s'.cap, .int .i64 t]), .int .i64 (swapC RR.2)]) ∧ s'.ok RR.1 ∧ bldH 24 54 bo hdr RR.1 s' HB = H') := by
  subst hm
  obtain ⟨hk64a, hk64b⟩ := hdkk
  have hfin : ∀ r : List Nd × Int, fold1 v d (restOf A) (cntC (-2) A) (cntC (-1) A) ns = r → r = RR := fun r h => h.symm.trans hRR
  clear hRR
  refine Gives.enter Try.func50 rfl (by exact Try.ntmps50) rfl ?_
  refine Tri.seq (Tri.region ?_)
  refine TOps.boxN rfl ti24 rfl rfl (fun b3 => ?_)
  refine TOps.boxN rfl ti54 rfl rfl (fun b4 => ?_)
  refine TOps.alloc ti24 rfl (fun b6 => ?_)
  refine TOps.assign rfl rfl ?_
  obtain ⟨H4, hH4⟩ : ∃ H4, row (some b4) 54 3 1 [.int .i64 d.kind, .int .i64 d.k, slV da do_ dn dc dsp] :: row (some bo) 24 3 1 hdr :: HB = H4 := ⟨_, rfl⟩
  have r4 : Rd H4 b4 0 [.int .i64 d.kind, .int .i64 d.k, slV da do_ dn dc dsp] := by rw [← hH4]; exact Rd.all (by repeat (first | exact List.Mem.head _ | apply List.Mem.tail))
  have ha4 : RInts H4 aa ao A asp := by rw [← hH4]; exact RdS.le ha (Le.drop (Le.drop (Le.refl _)))
  refine TOps.le (H' := bld 24 54 b3 v ns t s (row (some b6) 24 3 1 [.int .i64 0, slV none 0 0 0, .int .i64 0] :: H4)) (by rw [← hH4]; exact bldH_fold) ?_
  refine TOps.next ?_
  refine Tri.seq (Tri.region ?_)
  refine TOps.assign rfl rfl ?_
  refine TOps.next ?_
  refine Tri.seq (Tri.region ?_)
  refine TOps.move rfl rfl ?_
  refine TOps.len rfl Try.underlying52 rfl ?_
  refine TOps.assign rfl rfl ?_
  refine TOps.assign rfl rfl ?_
  refine TOps.next ?_
  refine Tri.seq ?_
  refine Tri.seq (Tri.region ?_)
  refine TOps.move rfl rfl ?_
  refine TOps.len rfl Try.underlying52 rfl ?_
  refine TOps.move rfl rfl ?_
  refine TOps.next ?_
  refine Tri.range (X := Option Nat × Nat) (fun q k => [(3, .pointer (some ⟨b3, 0, none⟩)), (4, .pointer (some ⟨b4, 0, none⟩)), (6, .pointer (some ⟨b6, 0, none⟩)), (7, .int .i64 0), (8, slV q.1 0 (restOf (A.take k)).length q.2), (9, .int .i64 (cntC (-2) (A.take k) : Nat)), (10, .int .i64 A.length), (18, slV aa ao A.length ac asp)]) (fun q k => row q.1 3 1 q.2 (ints (restOf (A.take k))) :: bld 24 54 b3 v ns t s (row (some b6) 24 3 1 [.int .i64 0, slV none 0 0 0, .int .i64 0] :: H4)) (fun q k => restOf (A.take k) ≠ [] → ∃ b, q.1 = some b) (by omega) rfl rfl rfl (fun _ _ => ⟨rfl, rfl, rfl, rfl⟩) (none, 0) (fun h => absurd rfl h) ⟨rfl, rfl, rfl, rfl, rfl, rfl, rfl, rfl, trivial⟩ Le.addNil (fun k q hlt hp => ?_) (fun q ac wc hp hS hM => ?_)
  · skip
    have htk : A.take (k + 1) = A.take k ++ [A[k]] := List.take_succ_eq_append_getElem (by omega)
    obtain ⟨ab, rfl, rfl, hxa⟩ := ha4.at hlt
    have hrl : (restOf (A.take k)).length ≤ 16 := Nat.le_trans (restOf_le _) (by rw [List.length_take]; omega)
    obtain ⟨B, hB⟩ : ∃ B, A[k] = B := ⟨_, rfl⟩
    rw [hB] at htk hxa
    have hc3j := count3 (A.take k)
    have htl : (A.take k).length ≤ 16 := by rw [List.length_take]; omega
    refine Tri.seq (Tri.region ?_)
    refine TOps.indexAddr (off' := ao + k) rfl rfl Try.underlying52 ti3 (by omega) (by omega) (by simp) rfl ?_
    refine TOps.load1 rfl ti3 (Rd.le hxa (Le.drop (Le.trans bld_le (Le.drop (Le.refl _))))) rfl ?_
    refine TOps.assign rfl rfl ?_
    refine TOps.next ?_
    refine Tri.seq (Tri.region ?_)
    refine TOps.move rfl rfl ?_
    refine TOps.next ?_
    refine Tri.block ?_
    refine Tri.seq (Tri.region ?_)
    refine TOps.eqlI rfl rfl rfl ?_
    refine TOps.assign rfl rfl ?_
    refine TOps.next ?_
    refine Tri.cond rfl (fun hc1 => ?_) (fun hc1 => ?_)
    · try simp only [decide_eq_true_eq, decide_eq_false_iff_not, Bool.and_eq_true, Bool.or_eq_true, Bool.not_eq_true', Bool.and_eq_false_iff, Bool.or_eq_false_iff, Bool.not_eq_false', Int.not_lt, Int.not_le, ne_eq, Decidable.not_not, Option.isSome_iff_ne_none, Option.isNone_iff_eq_none] at hc1
      have a1 : restOf (A.take (k + 1)) = restOf (A.take k) := by rw [htk, hc1]; simp [restOf]
      have a2 : cntC (-2) (A.take (k + 1)) = cntC (-2) (A.take k) + 1 := by rw [htk, hc1]; simp [cntC]
      refine Tri.region ?_
      refine TOps.move rfl rfl ?_
      refine TOps.add (r := ((cntC (-2) (A.take k) + 1 : Nat) : Int)) rfl rfl (by rw [wrapI (by omega) (by omega)]; omega) rfl ?_
      refine TOps.assign rfl rfl ?_
      refine TOps.fin ?_
      refine Nrm.unB ?_
      first
       | refine Nrm.body (some b28, cap28) (fun _ => ⟨_, rfl⟩) (by rw [a1, a2, List.length_append, List.length_singleton]; exact ⟨rfl, rfl, rfl, rfl, rfl, rfl, rfl, rfl, rfl, rfl, trivial⟩) (by rw [a1, ints_snoc]; exact Le.refl _)
       | refine Nrm.body q (by rw [a1]; exact hp) (by rw [a1, a2]; exact ⟨rfl, rfl, rfl, rfl, rfl, rfl, rfl, rfl, rfl, rfl, trivial⟩) (by rw [a1]; exact Le.refl _)
    try simp only [decide_eq_true_eq, decide_eq_false_iff_not, Bool.and_eq_true, Bool.or_eq_true, Bool.not_eq_true', Bool.and_eq_false_iff, Bool.or_eq_false_iff, Bool.not_eq_false', Int.not_lt, Int.not_le, ne_eq, Decidable.not_not, Option.isSome_iff_ne_none, Option.isNone_iff_eq_none] at hc1
    refine Tri.seq (Tri.region ?_)
    refine TOps.eqlI rfl rfl rfl ?_
    refine TOps.assign rfl rfl ?_
    refine TOps.next ?_
    refine Tri.cond rfl (fun hc2 => ?_) (fun hc2 => ?_)
    · try simp only [decide_eq_true_eq, decide_eq_false_iff_not, Bool.and_eq_true, Bool.or_eq_true, Bool.not_eq_true', Bool.and_eq_false_iff, Bool.or_eq_false_iff, Bool.not_eq_false', Int.not_lt, Int.not_le, ne_eq, Decidable.not_not, Option.isSome_iff_ne_none, Option.isNone_iff_eq_none] at hc2
      have a1 : restOf (A.take (k + 1)) = restOf (A.take k) := by rw [htk, hc2]; simp [restOf]
      have a2 : cntC (-2) (A.take (k + 1)) = cntC (-2) (A.take k) := by rw [htk, hc2]; simp [cntC]
      refine Tri.fin ?_
      refine Nrm.unB ?_
      first
       | refine Nrm.body (some b28, cap28) (fun _ => ⟨_, rfl⟩) (by rw [a1, a2, List.length_append, List.length_singleton]; exact ⟨rfl, rfl, rfl, rfl, rfl, rfl, rfl, rfl, rfl, rfl, trivial⟩) (by rw [a1, ints_snoc]; exact Le.refl _)
       | refine Nrm.body q (by rw [a1]; exact hp) (by rw [a1, a2]; exact ⟨rfl, rfl, rfl, rfl, rfl, rfl, rfl, rfl, rfl, rfl, trivial⟩) (by rw [a1]; exact Le.refl _)
    try simp only [decide_eq_true_eq, decide_eq_false_iff_not, Bool.and_eq_true, Bool.or_eq_true, Bool.not_eq_true', Bool.and_eq_false_iff, Bool.or_eq_false_iff, Bool.not_eq_false', Int.not_lt, Int.not_le, ne_eq, Decidable.not_not, Option.isSome_iff_ne_none, Option.isNone_iff_eq_none] at hc2
    have a1 : restOf (A.take (k + 1)) = restOf (A.take k) ++ [B] := by rw [htk]; simp [restOf, hc1, hc2]
    have a2 : cntC (-2) (A.take (k + 1)) = cntC (-2) (A.take k) := by rw [htk]; simp [cntC, hc1]
    refine Tri.region ?_
    refine TOps.move rfl rfl ?_
    refine TOps.move rfl rfl ?_
    refine TOps.buildSlice (vs := [_]) (xs := [_]) Try.underlying52 ti3 ⟨rfl, rfl, trivial⟩ rfl rfl rfl rfl rfl rfl (by decide) rfl (fun b27 => ?_)
    refine TOps.appendLit rfl rfl Try.underlying52 ti3 rfl (fun _ _ => Upd.here) rfl (by rw [List.length_map, Nat.mul_one]) rfl (by omega) (by omega) (by simp) rfl (fun b28 cap28 => ?_)
    refine TOps.assign rfl rfl ?_
    refine TOps.fin ?_
    refine Nrm.unB ?_
    first
     | refine Nrm.body (some b28, cap28) (fun _ => ⟨_, rfl⟩) (by rw [a1, a2, List.length_append, List.length_singleton]; exact ⟨rfl, rfl, rfl, rfl, rfl, rfl, rfl, rfl, rfl, rfl, trivial⟩) (by rw [a1, ints_snoc]; exact Le.refl _)
     | refine Nrm.body q (by rw [a1]; exact hp) (by rw [a1, a2]; exact ⟨rfl, rfl, rfl, rfl, rfl, rfl, rfl, rfl, rfl, rfl, trivial⟩) (by rw [a1]; exact Le.refl _)
  rw [List.take_length] at hM hS hp
  have hc3a := count3 A
  have hrm : ∀ a ∈ restOf A, 0 ≤ a := fun a h => by obtain ⟨h1, h2, h3⟩ := restOf_mem h; have := hA0 a h1; omega
  obtain ⟨rest, hrest⟩ : ∃ rest, restOf A = rest := ⟨_, rfl⟩
  obtain ⟨yes, hyes⟩ : ∃ yes, cntC (-2) A = yes := ⟨_, rfl⟩
  obtain ⟨no, hno⟩ : ∃ no, cntC (-1) A = no := ⟨_, rfl⟩
  rw [hrest] at hM hS hp hc3a hrm hfin
  rw [hyes] at hS hc3a hfin
  rw [hno] at hc3a hfin
  obtain ⟨ra, rc⟩ := q
  dsimp only at hM hS hp
  have hra := hp
  have hr0 : rest.length ≠ 0 → 0 ≤ rest.getD 0 0 := fun h => hrm _ (by cases rest with | nil => simp at h | cons a r => simp)
  refine Nrm.of hS hM ?_
  refine Nrm.next ?_
  refine Tri.seq (Tri.region ?_)
  refine TOps.move rfl rfl ?_
  refine TOps.move rfl rfl ?_
  refine TOps.len rfl Try.underlying52 rfl ?_
  refine TOps.sub (r := (A.length : Int) - rest.length) rfl rfl (by rw [wrapI (by omega) (by omega)]) rfl ?_
  refine TOps.move rfl rfl ?_
  refine TOps.sub (r := (no : Int)) rfl rfl (by rw [wrapI (by omega) (by omega)]; omega) rfl ?_
  refine TOps.assign rfl rfl ?_
  refine TOps.next ?_
  refine Tri.seqMid (X := Unit) (fun y => [(3, .pointer (some ⟨b3, 0, none⟩)), (4, .pointer (some ⟨b4, 0, none⟩)), (6, .pointer (some ⟨b6, 0, none⟩)), (7, .int .i64 0), (8, slV ra 0 rest.length rc), (9, .int .i64 yes)]) (fun y => row ra 3 1 rc (ints rest) :: bld 24 54 b3 v ns t s (row (some b6) 24 3 1 [.int .i64 0, slV none 0 0 0, .int .i64 0] :: H4)) (fun y => d.kind ≠ 0 ∧ d.kind ≠ 1 ∧ rest.length ≠ 0 ∧ fold1 v d rest yes no ns = foldR v d rest yes ns) ?_ (fun y hmid => ?_)
  · skip
    refine Tri.seq (Tri.region ?_)
    refine TOps.field0 rfl Try.underlying54 rfl rfl ti3 rfl rfl rfl ?_
    refine TOps.load1 rfl ti3 (Rd.fld (r4.le (Le.drop (Le.trans bld_le (Le.drop (Le.refl _))))) 0 rfl) rfl ?_
    refine TOps.next ?_
    refine Tri.block ?_
    refine Tri.seq (Tri.region ?_)
    refine TOps.eqlI rfl rfl rfl ?_
    refine TOps.assign rfl rfl ?_
    refine TOps.next ?_
    refine Tri.cond rfl (fun hc3 => ?_) (fun hc3 => ?_)
    · try simp only [decide_eq_true_eq, decide_eq_false_iff_not, Bool.and_eq_true, Bool.or_eq_true, Bool.not_eq_true', Bool.and_eq_false_iff, Bool.or_eq_false_iff, Bool.not_eq_false', Int.not_lt, Int.not_le, ne_eq, Decidable.not_not, Option.isSome_iff_ne_none, Option.isNone_iff_eq_none] at hc3
      obtain rfl := hfin (ns, cst (decide (d.k = 1))) (by unfold fold1; rw [if_pos hc3])
      refine Tri.seq ?_
      refine Tri.le (Le.drop (Le.refl _)) ?_
      refine Tri.drawX (X := Unit) rfl [(3, .pointer (some ⟨b3, 0, none⟩)), (4, .pointer (some ⟨b4, 0, none⟩)), (6, .pointer (some ⟨b6, 0, none⟩)), (9, .int .i64 yes), (13, .int .i64 no)] [(7, .int .i64 0)] (fun x => [_, _, _, _, _, undef, _]) (fun x c => match c with | 0 => bld 24 54 b3 v ns t s (row (some b6) 24 3 1 [.int .i64 0, slV none 0 0 0, .int .i64 0] :: H4) | _ + 1 => bld 24 54 b3 v ns t s (row (some b6) 24 3 1 [.int .i64 v, slV s.oa 0 ns.length s.cap, .int .i64 t] :: H4)) [5] () [6] rfl rfl ⟨rfl, rfl, rfl, rfl, rfl, trivial⟩ ⟨rfl, trivial⟩ (Le.refl _) (by
        refine ⟨?_, ?_, ?_, ?_, ?_, ?_, ?_, trivial⟩
        · refine ⟨fun x S c he hw hd hc hcu hm _ => ?_, trivial⟩
          obtain rfl : c = 0 := by have : c ≤ 0 := hcu; omega
          refine TOps.loadN (vs := [.int .i64 v, slV s.oa 0 ns.length s.cap, .int .i64 t]) (he _ _ rfl) ti24 bld_rd rfl rfl ?_
          exact TOps.fin (Nrm.draw x (fun _ _ _ => rfl) rfl (by first | exact Le.refl _ | assumption | exact (by repeat (first | exact Le.refl _ | assumption | apply Le.drop))))
        · refine ⟨fun x S c he hw hd hc hcu hm _ => ?_, trivial⟩
          first | refine TOps.fieldB 1 (he _ _ rfl) Try.underlying54 rfl rfl ti3 rfl rfl rfl ?_ | refine TOps.fieldN 1 (he _ _ rfl) Try.underlying54 rfl rfl ti3 rfl rfl rfl ?_
          exact TOps.fin (Nrm.draw x (fun _ _ _ => rfl) rfl (by first | exact Le.refl _ | assumption | exact (by repeat (first | exact Le.refl _ | assumption | apply Le.drop))))
        · refine ⟨fun x S c he hw hd hc hcu hm _ => ?_, trivial⟩
          obtain ⟨h1, -⟩ := hd
          obtain rfl : c = 0 := by have : c ≤ 0 := hcu; omega
          refine TOps.load1 h1 ti3 (Rd.fld (r4.le (Le.trans bld_le (Le.drop (Le.refl _)))) 1 rfl) rfl ?_
          exact TOps.fin (Nrm.draw x (fun _ _ _ => rfl) rfl (by first | exact Le.refl _ | assumption | exact (by repeat (first | exact Le.refl _ | assumption | apply Le.drop))))
        · refine ⟨fun x S c he hw hd hc hcu hm _ => ?_, trivial⟩
          obtain ⟨h2, -⟩ := hd
          refine TOps.eqlI h2 rfl rfl ?_
          exact TOps.fin (Nrm.draw x (fun _ _ _ => rfl) rfl (by first | exact Le.refl _ | assumption | exact (by repeat (first | exact Le.refl _ | assumption | apply Le.drop))))
        · refine ⟨fun x S c he hw hd hc hcu hm _ => ?_, trivial⟩
          obtain ⟨h3, -⟩ := hd
          refine TOps.call (vs := [_]) Try.call57 ⟨h3, trivial⟩ (rtruth_g _) rfl ?_
          rintro _ _ ⟨rfl, rfl⟩
          exact TOps.fin (Nrm.draw x (fun _ _ _ => rfl) rfl (by first | exact Le.refl _ | assumption | exact (by repeat (first | exact Le.refl _ | assumption | apply Le.drop))))
        · refine ⟨fun x S c he hw hd hc hcu hm _ => ?_, trivial⟩
          obtain ⟨h0, h4, _, -⟩ := hd
          obtain rfl : c = 0 := hm rfl
          refine TOps.storeN (he _ _ rfl) h0 ti24 rfl rfl (Upd.bld Upd.here) (by simp) ?_
          exact TOps.fin (Nrm.draw x (fun _ _ _ => rfl) rfl (by first | exact Le.refl _ | assumption | exact (by repeat (first | exact Le.refl _ | assumption | apply Le.drop))))
        · refine ⟨fun x S c he hw hd hc hcu hm _ => ?_, trivial⟩
          obtain ⟨h4, h5, h0, h1, h2, h3, _, _, -⟩ := hd
          refine TOps.assign h4 rfl ?_
          exact TOps.fin (Nrm.draw x (fun _ _ _ => rfl) rfl (by first | exact Le.refl _ | assumption | exact (by repeat (first | exact Le.refl _ | assumption | apply Le.drop))))
        ) (fun u0 => ?_)
      refine Nrm.next ?_
      subst hH4
      refine Tri.ret2 (H' := bldH 24 54 bo hdr ns s HB) Try.results50 (fun _ _ h => h) (.cellN rfl rfl ti24 (Rd.all (bld_sub.subset (List.Mem.head _))) rfl) (.tmp rfl) bldH_unfold ⟨s, (by rw [swapC_cst]; exact congrArg (fun b => Value.tuple (List.toArray [.agg (List.toArray [.int .i64 v, slV s.oa 0 ns.length s.cap, .int .i64 t]), Value.int .i64 (rcst b)])) (decide_eq_decide.2 (by omega))), hs, rfl⟩
    try simp only [decide_eq_true_eq, decide_eq_false_iff_not, Bool.and_eq_true, Bool.or_eq_true, Bool.not_eq_true', Bool.and_eq_false_iff, Bool.or_eq_false_iff, Bool.not_eq_false', Int.not_lt, Int.not_le, ne_eq, Decidable.not_not, Option.isSome_iff_ne_none, Option.isNone_iff_eq_none] at hc3
    refine Tri.seq (Tri.region ?_)
    refine TOps.eqlI rfl rfl rfl ?_
    refine TOps.assign rfl rfl ?_
    refine TOps.next ?_
    refine Tri.cond rfl (fun hc4 => ?_) (fun hc4 => ?_)
    · try simp only [decide_eq_true_eq, decide_eq_false_iff_not, Bool.and_eq_true, Bool.or_eq_true, Bool.not_eq_true', Bool.and_eq_false_iff, Bool.or_eq_false_iff, Bool.not_eq_false', Int.not_lt, Int.not_le, ne_eq, Decidable.not_not, Option.isSome_iff_ne_none, Option.isNone_iff_eq_none] at hc4
      refine Tri.seq ?_
      refine Tri.seq (Tri.region ?_)
      refine TOps.move rfl rfl ?_
      refine TOps.len rfl Try.underlying52 rfl ?_
      refine TOps.eqlI rfl rfl rfl ?_
      refine TOps.next ?_
      refine Tri.cond rfl (fun hc5 => ?_) (fun hc5 => ?_)
      · try simp only [decide_eq_true_eq, decide_eq_false_iff_not, Bool.and_eq_true, Bool.or_eq_true, Bool.not_eq_true', Bool.and_eq_false_iff, Bool.or_eq_false_iff, Bool.not_eq_false', Int.not_lt, Int.not_le, ne_eq, Decidable.not_not, Option.isSome_iff_ne_none, Option.isNone_iff_eq_none] at hc5
        obtain rfl := hfin (ns, cst (decide (yes = 0))) (by unfold fold1; rw [if_neg hc3, if_pos hc4, if_pos (by omega)])
        refine Tri.seq ?_
        refine Tri.le (Le.drop (Le.refl _)) ?_
        refine Tri.drawX (X := Unit) rfl [(3, .pointer (some ⟨b3, 0, none⟩)), (4, .pointer (some ⟨b4, 0, none⟩)), (6, .pointer (some ⟨b6, 0, none⟩)), (9, .int .i64 yes), (13, .int .i64 no)] [(7, .int .i64 0)] (fun x => [_, _, _, _, undef, _]) (fun x c => match c with | 0 => bld 24 54 b3 v ns t s (row (some b6) 24 3 1 [.int .i64 0, slV none 0 0 0, .int .i64 0] :: H4) | _ + 1 => bld 24 54 b3 v ns t s (row (some b6) 24 3 1 [.int .i64 v, slV s.oa 0 ns.length s.cap, .int .i64 t] :: H4)) [4] () [5] rfl rfl ⟨rfl, rfl, rfl, rfl, rfl, trivial⟩ ⟨rfl, trivial⟩ (Le.refl _) (by
          refine ⟨?_, ?_, ?_, ?_, ?_, ?_, trivial⟩
          · refine ⟨fun x S c he hw hd hc hcu hm _ => ?_, trivial⟩
            obtain rfl : c = 0 := by have : c ≤ 0 := hcu; omega
            refine TOps.loadN (vs := [.int .i64 v, slV s.oa 0 ns.length s.cap, .int .i64 t]) (he _ _ rfl) ti24 bld_rd rfl rfl ?_
            exact TOps.fin (Nrm.draw x (fun _ _ _ => rfl) rfl (by first | exact Le.refl _ | assumption | exact (by repeat (first | exact Le.refl _ | assumption | apply Le.drop))))
          · refine ⟨fun x S c he hw hd hc hcu hm _ => ?_, trivial⟩
            refine TOps.move (he _ _ rfl) rfl ?_
            exact TOps.fin (Nrm.draw x (fun _ _ _ => rfl) rfl (by first | exact Le.refl _ | assumption | exact (by repeat (first | exact Le.refl _ | assumption | apply Le.drop))))
          · refine ⟨fun x S c he hw hd hc hcu hm _ => ?_, trivial⟩
            obtain ⟨h1, -⟩ := hd
            refine TOps.eqlI h1 rfl rfl ?_
            exact TOps.fin (Nrm.draw x (fun _ _ _ => rfl) rfl (by first | exact Le.refl _ | assumption | exact (by repeat (first | exact Le.refl _ | assumption | apply Le.drop))))
          · refine ⟨fun x S c he hw hd hc hcu hm _ => ?_, trivial⟩
            obtain ⟨h2, -⟩ := hd
            refine TOps.call (vs := [_]) Try.call57 ⟨h2, trivial⟩ (rtruth_g _) rfl ?_
            rintro _ _ ⟨rfl, rfl⟩
            exact TOps.fin (Nrm.draw x (fun _ _ _ => rfl) rfl (by first | exact Le.refl _ | assumption | exact (by repeat (first | exact Le.refl _ | assumption | apply Le.drop))))
          · refine ⟨fun x S c he hw hd hc hcu hm _ => ?_, trivial⟩
            obtain ⟨h0, h3, _, -⟩ := hd
            obtain rfl : c = 0 := hm rfl
            refine TOps.storeN (he _ _ rfl) h0 ti24 rfl rfl (Upd.bld Upd.here) (by simp) ?_
            exact TOps.fin (Nrm.draw x (fun _ _ _ => rfl) rfl (by first | exact Le.refl _ | assumption | exact (by repeat (first | exact Le.refl _ | assumption | apply Le.drop))))
          · refine ⟨fun x S c he hw hd hc hcu hm _ => ?_, trivial⟩
            obtain ⟨h3, h4, h0, h1, h2, _, _, -⟩ := hd
            refine TOps.assign h3 rfl ?_
            exact TOps.fin (Nrm.draw x (fun _ _ _ => rfl) rfl (by first | exact Le.refl _ | assumption | exact (by repeat (first | exact Le.refl _ | assumption | apply Le.drop))))
          ) (fun u0 => ?_)
        refine Nrm.next ?_
        subst hH4
        refine Tri.ret2 (H' := bldH 24 54 bo hdr ns s HB) Try.results50 (fun _ _ h => h) (.cellN rfl rfl ti24 (Rd.all (bld_sub.subset (List.Mem.head _))) rfl) (.tmp rfl) bldH_unfold ⟨s, (by rw [swapC_cst]; exact congrArg (fun b => Value.tuple (List.toArray [.agg (List.toArray [.int .i64 v, slV s.oa 0 ns.length s.cap, .int .i64 t]), Value.int .i64 (rcst b)])) (decide_eq_decide.2 (by omega))), hs, rfl⟩
      try simp only [decide_eq_true_eq, decide_eq_false_iff_not, Bool.and_eq_true, Bool.or_eq_true, Bool.not_eq_true', Bool.and_eq_false_iff, Bool.or_eq_false_iff, Bool.not_eq_false', Int.not_lt, Int.not_le, ne_eq, Decidable.not_not, Option.isSome_iff_ne_none, Option.isNone_iff_eq_none] at hc5
      obtain rfl := hfin (ns ++ [⟨1, 0, rest⟩], v + ns.length) (by unfold fold1; rw [if_neg hc3, if_pos hc4, if_neg (by omega)])
      have hm1 := hk1 hc4
      obtain ⟨a0, hre⟩ : ∃ a0, rest = [a0] := List.length_eq_one_iff.1 (by omega)
      have hre2 : [rest.getD 0 0] = rest := by rw [hre]; rfl
      obtain ⟨rb, rfl⟩ := hra (by rw [hre]; simp)
      have hx0 := ints_get (l := rest) (i := 0) (by omega)
      refine Tri.fin ?_
      refine Nrm.next ?_
      refine Tri.seq ?_
      refine Tri.le bld_in ?_
      refine Tri.drawX (X := Nat × BS) rfl [(3, .pointer (some ⟨b3, 0, none⟩)), (4, .pointer (some ⟨b4, 0, none⟩)), (6, .pointer (some ⟨b6, 0, none⟩)), (8, slV (some rb) 0 rest.length rc)] [(7, .int .i64 0)] (fun x => [_, _, _, _, slV (some x.1) 0 1 1, .tuple (List.toArray [.agg (List.toArray [.int .i64 v, slV x.2.oa 0 (ns.length + 1) x.2.cap, .int .i64 t]), .int .i64 (v + (ns.length : Nat))]), .agg (List.toArray [.int .i64 v, slV x.2.oa 0 (ns.length + 1) x.2.cap, .int .i64 t]), .int .i64 (v + (ns.length : Nat)), undef, .int .i64 (v + (ns.length : Nat))]) (fun x c => match c with | 0 => bld 24 54 b3 v ns t s (row (some rb) 3 1 rc (ints rest) :: row (some b6) 24 3 1 [.int .i64 0, slV none 0 0 0, .int .i64 0] :: H4) | 1 => row (some x.1) 3 1 1 [.int .i64 (rest.getD 0 0)] :: bld 24 54 b3 v ns t s (row (some rb) 3 1 rc (ints rest) :: row (some b6) 24 3 1 [.int .i64 0, slV none 0 0 0, .int .i64 0] :: H4) | 2 => fact (x.2.ok (ns ++ [⟨1, 0, [rest.getD 0 0]⟩])) :: bldH 24 54 b3 [.int .i64 v, slV s.oa 0 ns.length s.cap, .int .i64 t] (ns ++ [⟨1, 0, [rest.getD 0 0]⟩]) x.2 (row (some rb) 3 1 rc (ints rest) :: row (some b6) 24 3 1 [.int .i64 0, slV none 0 0 0, .int .i64 0] :: H4) | _ + 3 => fact (x.2.ok (ns ++ [⟨1, 0, [rest.getD 0 0]⟩])) :: bldH 24 54 b3 [.int .i64 v, slV s.oa 0 ns.length s.cap, .int .i64 t] (ns ++ [⟨1, 0, [rest.getD 0 0]⟩]) x.2 (row (some rb) 3 1 rc (ints rest) :: row (some b6) 24 3 1 [.int .i64 v, slV x.2.oa 0 (ns.length + 1) x.2.cap, .int .i64 t] :: H4)) [4, 5, 8] (0, BS.new) [9] rfl rfl ⟨rfl, rfl, rfl, rfl, trivial⟩ ⟨rfl, trivial⟩ (Le.refl _) (by
        refine ⟨?_, ?_, ?_, ?_, ?_, ?_, ?_, ?_, ?_, ?_, trivial⟩
        · refine ⟨fun x S c he hw hd hc hcu hm _ => ?_, trivial⟩
          rcases (show c = 0 ∨ c = 1 by have : c ≤ 1 := hcu; omega) with rfl | rfl <;> refine TOps.loadN (vs := [.int .i64 v, slV s.oa 0 ns.length s.cap, .int .i64 t]) (he _ _ rfl) ti24 (by first | exact bld_rd | exact Rd.up bld_rd) rfl rfl ?_
          all_goals exact TOps.fin (Nrm.draw x (fun _ _ _ => rfl) rfl (Le.refl _))
        · refine ⟨fun x S c he hw hd hc hcu hm _ => ?_, trivial⟩
          refine TOps.move (he _ _ rfl) rfl ?_
          exact TOps.fin (Nrm.draw x (fun _ _ _ => rfl) rfl (by first | exact Le.refl _ | assumption | exact (by repeat (first | exact Le.refl _ | assumption | apply Le.drop))))
        · refine ⟨fun x S c he hw hd hc hcu hm _ => ?_, trivial⟩
          obtain ⟨h1, -⟩ := hd
          refine TOps.indexAddr (off' := 0) h1 rfl Try.underlying52 ti3 (by omega) (by omega) (by simp) rfl ?_
          exact TOps.fin (Nrm.draw x (fun _ _ _ => rfl) rfl (by first | exact Le.refl _ | assumption | exact (by repeat (first | exact Le.refl _ | assumption | apply Le.drop))))
        · refine ⟨fun x S c he hw hd hc hcu hm _ => ?_, trivial⟩
          obtain ⟨h2, -⟩ := hd
          obtain rfl : c = 0 := by have : c ≤ 0 := hcu; omega
          refine TOps.load1 h2 ti3 (Rd.le (Rd.lit (List.Mem.head _) hx0) bld_le) rfl ?_
          exact TOps.fin (Nrm.draw x (fun _ _ _ => rfl) rfl (by first | exact Le.refl _ | assumption | exact (by repeat (first | exact Le.refl _ | assumption | apply Le.drop))))
        · refine ⟨fun x S c he hw hd hc hcu hm _ => ?_, trivial⟩
          obtain ⟨h3, -⟩ := hd
          obtain rfl : c = 0 := hm rfl
          refine TOps.buildSlice (vs := [_]) (xs := [_]) Try.underlying52 ti3 ⟨rfl, h3, trivial⟩ rfl rfl rfl rfl rfl rfl (by decide) rfl (fun b72 => ?_)
          refine TOps.fin (Nrm.draw (b72, x.2) ?_ rfl (Le.refl _))
          intro j hj hcj; rcases j with _|_|_|_|_|_|_|_|_|_|j <;> first | rfl | exact absurd rfl hj | exact absurd hcj (by decide)
        · refine ⟨fun x S c he hw hd hc hcu hm _ => ?_, trivial⟩
          obtain ⟨h0, h4, -⟩ := hd
          obtain rfl : c = 1 := hm rfl
          refine TOps.call (vs := [_, _, _, _]) Try.call38 ⟨h0, rfl, rfl, h4, trivial⟩ (radd1_g (args := [rest.getD 0 0]) (L := ns.length) hs rfl hv (by omega) rfl (by simp) (fun _ => ⟨_, rfl⟩) 1 0) rfl ?_
          rintro _ _ ⟨s', rfl, hs', rfl⟩
          refine TOps.fin (Nrm.draw (x.1, s') ?_ rfl (Le.addFact hs'))
          intro j hj hcj; rcases j with _|_|_|_|_|_|_|_|_|_|j <;> first | rfl | exact absurd rfl hj | exact absurd hcj (by decide)
        · refine ⟨fun x S c he hw hd hc hcu hm _ => ?_, trivial⟩
          obtain ⟨h5, -⟩ := hd
          refine TOps.extract h5 rfl rfl ?_
          exact TOps.fin (Nrm.draw x (fun _ _ _ => rfl) rfl (by first | exact Le.refl _ | assumption | exact (by repeat (first | exact Le.refl _ | assumption | apply Le.drop))))
        · refine ⟨fun x S c he hw hd hc hcu hm _ => ?_, trivial⟩
          obtain ⟨h5, -⟩ := hd
          refine TOps.extract h5 rfl rfl ?_
          exact TOps.fin (Nrm.draw x (fun _ _ _ => rfl) rfl (by first | exact Le.refl _ | assumption | exact (by repeat (first | exact Le.refl _ | assumption | apply Le.drop))))
        · refine ⟨fun x S c he hw hd hc hcu hm _ => ?_, trivial⟩
          obtain ⟨h6, h5, h0, h1, h2, h3, h4, _, _, h7, -⟩ := hd
          obtain rfl : c = 2 := hm rfl
          refine TOps.fact (List.Mem.head _) (fun hs' => ?_)
          refine TOps.le (Le.drop (Le.refl _)) ?_
          refine TOps.storeN (he _ _ rfl) h6 ti24 rfl rfl (Upd.there (Upd.there (Upd.app (Upd.there Upd.here) _))) (by simp) ?_
          refine TOps.fin (Nrm.draw x (fun _ _ _ => rfl) rfl (Le.addFact hs'))
        · refine ⟨fun x S c he hw hd hc hcu hm _ => ?_, trivial⟩
          obtain ⟨h7, h8, h0, h1, h2, h3, h4, h5, h6, _, _, -⟩ := hd
          refine TOps.assign h7 rfl ?_
          exact TOps.fin (Nrm.draw x (fun _ _ _ => rfl) rfl (by first | exact Le.refl _ | assumption | exact (by repeat (first | exact Le.refl _ | assumption | apply Le.drop))))
        ) (fun w => ?_)
      refine Nrm.fact (List.Mem.head _) (fun hw2 => ?_)
      refine Nrm.le (Le.drop (Le.refl _)) ?_
      refine Nrm.le bldH_drop ?_
      rw [hre2] at hw2 ⊢
      refine Nrm.next ?_
      subst hH4
      refine Tri.ret2 (H' := bldH 24 54 bo hdr (ns ++ [⟨1, 0, rest⟩]) w.2 HB) Try.results50 (fun _ _ h => h) (.cellN rfl rfl ti24 (Rd.all (List.Mem.tail _ (List.Mem.tail _ (List.mem_append_right _ (List.Mem.head _))))) rfl) (.tmp rfl) bldH_unfold ⟨w.2, by rw [swapC_pos (show 0 ≤ v + (ns.length : Int) by omega)]; simp, hw2, rfl⟩
    try simp only [decide_eq_true_eq, decide_eq_false_iff_not, Bool.and_eq_true, Bool.or_eq_true, Bool.not_eq_true', Bool.and_eq_false_iff, Bool.or_eq_false_iff, Bool.not_eq_false', Int.not_lt, Int.not_le, ne_eq, Decidable.not_not, Option.isSome_iff_ne_none, Option.isNone_iff_eq_none] at hc4
    refine Tri.seq (Tri.region ?_)
    refine TOps.eqlI rfl rfl rfl ?_
    refine TOps.assign rfl rfl ?_
    refine TOps.next ?_
    refine Tri.cond rfl (fun hc6 => ?_) (fun hc6 => ?_)
    · try simp only [decide_eq_true_eq, decide_eq_false_iff_not, Bool.and_eq_true, Bool.or_eq_true, Bool.not_eq_true', Bool.and_eq_false_iff, Bool.or_eq_false_iff, Bool.not_eq_false', Int.not_lt, Int.not_le, ne_eq, Decidable.not_not, Option.isSome_iff_ne_none, Option.isNone_iff_eq_none] at hc6
      refine Tri.seq (Tri.region ?_)
      refine TOps.move rfl rfl ?_
      refine TOps.gtr rfl rfl rfl ?_
      refine TOps.move rfl rfl ?_
      refine' TOps.orB 3 rfl rfl rfl rfl (fun hg23_2 => ?_) ?_; rotate_left
      · have hg23_2' := hg23_2
        try simp only [decide_eq_true_eq, decide_eq_false_iff_not, Bool.and_eq_true, Bool.or_eq_true, Bool.not_eq_true', Bool.and_eq_false_iff, Bool.or_eq_false_iff, Bool.not_eq_false', Int.not_lt, Int.not_le, ne_eq, Decidable.not_not] at hg23_2'
        refine TOps.strip 2 false rfl rfl hg23_2 rfl ?_
        refine TOps.move rfl rfl ?_
        refine TOps.len rfl Try.underlying52 rfl ?_
        refine TOps.eqlI rfl rfl rfl ?_
        refine TOps.blk rfl (by repeat (first | exact Ext.refl _ | refine Ext.cons rfl ?_)) (by repeat (first | exact Le.refl _ | apply Le.drop))
      refine TOps.next ?_
      refine Tri.cond rfl (fun hc7 => ?_) (fun hc7 => ?_)
      · try simp only [decide_eq_true_eq, decide_eq_false_iff_not, Bool.and_eq_true, Bool.or_eq_true, Bool.not_eq_true', Bool.and_eq_false_iff, Bool.or_eq_false_iff, Bool.not_eq_false', Int.not_lt, Int.not_le, ne_eq, Decidable.not_not, Option.isSome_iff_ne_none, Option.isNone_iff_eq_none] at hc7
        obtain rfl := hfin (ns, cst (decide (no = 0))) (by unfold fold1; rw [if_neg hc3, if_neg hc4, if_pos hc6, if_pos (by omega)])
        refine Tri.seq ?_
        refine Tri.le (Le.drop (Le.refl _)) ?_
        refine Tri.drawX (X := Unit) rfl [(3, .pointer (some ⟨b3, 0, none⟩)), (4, .pointer (some ⟨b4, 0, none⟩)), (6, .pointer (some ⟨b6, 0, none⟩)), (9, .int .i64 yes), (13, .int .i64 no)] [(7, .int .i64 0)] (fun x => [_, _, _, _, undef, _]) (fun x c => match c with | 0 => bld 24 54 b3 v ns t s (row (some b6) 24 3 1 [.int .i64 0, slV none 0 0 0, .int .i64 0] :: H4) | _ + 1 => bld 24 54 b3 v ns t s (row (some b6) 24 3 1 [.int .i64 v, slV s.oa 0 ns.length s.cap, .int .i64 t] :: H4)) [4] () [5] rfl rfl ⟨rfl, rfl, rfl, rfl, rfl, trivial⟩ ⟨rfl, trivial⟩ (Le.refl _) (by
          refine ⟨?_, ?_, ?_, ?_, ?_, ?_, trivial⟩
          · refine ⟨fun x S c he hw hd hc hcu hm _ => ?_, trivial⟩
            obtain rfl : c = 0 := by have : c ≤ 0 := hcu; omega
            refine TOps.loadN (vs := [.int .i64 v, slV s.oa 0 ns.length s.cap, .int .i64 t]) (he _ _ rfl) ti24 bld_rd rfl rfl ?_
            exact TOps.fin (Nrm.draw x (fun _ _ _ => rfl) rfl (by first | exact Le.refl _ | assumption | exact (by repeat (first | exact Le.refl _ | assumption | apply Le.drop))))
          · refine ⟨fun x S c he hw hd hc hcu hm _ => ?_, trivial⟩
            refine TOps.move (he _ _ rfl) rfl ?_
            exact TOps.fin (Nrm.draw x (fun _ _ _ => rfl) rfl (by first | exact Le.refl _ | assumption | exact (by repeat (first | exact Le.refl _ | assumption | apply Le.drop))))
          · refine ⟨fun x S c he hw hd hc hcu hm _ => ?_, trivial⟩
            obtain ⟨h1, -⟩ := hd
            refine TOps.eqlI h1 rfl rfl ?_
            exact TOps.fin (Nrm.draw x (fun _ _ _ => rfl) rfl (by first | exact Le.refl _ | assumption | exact (by repeat (first | exact Le.refl _ | assumption | apply Le.drop))))
          · refine ⟨fun x S c he hw hd hc hcu hm _ => ?_, trivial⟩
            obtain ⟨h2, -⟩ := hd
            refine TOps.call (vs := [_]) Try.call57 ⟨h2, trivial⟩ (rtruth_g _) rfl ?_
            rintro _ _ ⟨rfl, rfl⟩
            exact TOps.fin (Nrm.draw x (fun _ _ _ => rfl) rfl (by first | exact Le.refl _ | assumption | exact (by repeat (first | exact Le.refl _ | assumption | apply Le.drop))))
          · refine ⟨fun x S c he hw hd hc hcu hm _ => ?_, trivial⟩
            obtain ⟨h0, h3, _, -⟩ := hd
            obtain rfl : c = 0 := hm rfl
            refine TOps.storeN (he _ _ rfl) h0 ti24 rfl rfl (Upd.bld Upd.here) (by simp) ?_
            exact TOps.fin (Nrm.draw x (fun _ _ _ => rfl) rfl (by first | exact Le.refl _ | assumption | exact (by repeat (first | exact Le.refl _ | assumption | apply Le.drop))))
          · refine ⟨fun x S c he hw hd hc hcu hm _ => ?_, trivial⟩
            obtain ⟨h3, h4, h0, h1, h2, _, _, -⟩ := hd
            refine TOps.assign h3 rfl ?_
            exact TOps.fin (Nrm.draw x (fun _ _ _ => rfl) rfl (by first | exact Le.refl _ | assumption | exact (by repeat (first | exact Le.refl _ | assumption | apply Le.drop))))
          ) (fun u0 => ?_)
        refine Nrm.next ?_
        subst hH4
        refine Tri.ret2 (H' := bldH 24 54 bo hdr ns s HB) Try.results50 (fun _ _ h => h) (.cellN rfl rfl ti24 (Rd.all (bld_sub.subset (List.Mem.head _))) rfl) (.tmp rfl) bldH_unfold ⟨s, (by rw [swapC_cst]; exact congrArg (fun b => Value.tuple (List.toArray [.agg (List.toArray [.int .i64 v, slV s.oa 0 ns.length s.cap, .int .i64 t]), Value.int .i64 (rcst b)])) (decide_eq_decide.2 (by omega))), hs, rfl⟩
      try simp only [decide_eq_true_eq, decide_eq_false_iff_not, Bool.and_eq_true, Bool.or_eq_true, Bool.not_eq_true', Bool.and_eq_false_iff, Bool.or_eq_false_iff, Bool.not_eq_false', Int.not_lt, Int.not_le, ne_eq, Decidable.not_not, Option.isSome_iff_ne_none, Option.isNone_iff_eq_none] at hc7
      have hmp : d.kind ≠ 0 ∧ d.kind ≠ 1 ∧ rest.length ≠ 0 ∧ fold1 v d rest yes no ns = foldR v d rest yes ns := ⟨hc3, hc4, by omega, by unfold fold1; rw [if_neg hc3, if_neg hc4, if_pos hc6, if_neg (by omega)]; exact foldG_R (by omega) (by omega)⟩
      refine Tri.fin ?_
      refine Nrm.unB ?_
      refine Nrm.mid () hmp (by exact ⟨rfl, rfl, rfl, rfl, rfl, rfl, trivial⟩) (by repeat (first | exact Le.refl _ | assumption | apply Le.drop))
    try simp only [decide_eq_true_eq, decide_eq_false_iff_not, Bool.and_eq_true, Bool.or_eq_true, Bool.not_eq_true', Bool.and_eq_false_iff, Bool.or_eq_false_iff, Bool.not_eq_false', Int.not_lt, Int.not_le, ne_eq, Decidable.not_not, Option.isSome_iff_ne_none, Option.isNone_iff_eq_none] at hc6
    refine Tri.seq (Tri.region ?_)
    refine TOps.eqlI rfl rfl rfl ?_
    refine TOps.assign rfl rfl ?_
    refine TOps.next ?_
    refine Tri.cond rfl (fun hc8 => ?_) (fun hc8 => ?_)
    · try simp only [decide_eq_true_eq, decide_eq_false_iff_not, Bool.and_eq_true, Bool.or_eq_true, Bool.not_eq_true', Bool.and_eq_false_iff, Bool.or_eq_false_iff, Bool.not_eq_false', Int.not_lt, Int.not_le, ne_eq, Decidable.not_not, Option.isSome_iff_ne_none, Option.isNone_iff_eq_none] at hc8
      refine Tri.seq (Tri.region ?_)
      refine TOps.move rfl rfl ?_
      refine TOps.gtr rfl rfl rfl ?_
      refine TOps.move rfl rfl ?_
      refine' TOps.orB 3 rfl rfl rfl rfl (fun hg26_2 => ?_) ?_; rotate_left
      · have hg26_2' := hg26_2
        try simp only [decide_eq_true_eq, decide_eq_false_iff_not, Bool.and_eq_true, Bool.or_eq_true, Bool.not_eq_true', Bool.and_eq_false_iff, Bool.or_eq_false_iff, Bool.not_eq_false', Int.not_lt, Int.not_le, ne_eq, Decidable.not_not] at hg26_2'
        refine TOps.strip 2 false rfl rfl hg26_2 rfl ?_
        refine TOps.move rfl rfl ?_
        refine TOps.len rfl Try.underlying52 rfl ?_
        refine TOps.eqlI rfl rfl rfl ?_
        refine TOps.blk rfl (by repeat (first | exact Ext.refl _ | refine Ext.cons rfl ?_)) (by repeat (first | exact Le.refl _ | apply Le.drop))
      refine TOps.next ?_
      refine Tri.cond rfl (fun hc9 => ?_) (fun hc9 => ?_)
      · try simp only [decide_eq_true_eq, decide_eq_false_iff_not, Bool.and_eq_true, Bool.or_eq_true, Bool.not_eq_true', Bool.and_eq_false_iff, Bool.or_eq_false_iff, Bool.not_eq_false', Int.not_lt, Int.not_le, ne_eq, Decidable.not_not, Option.isSome_iff_ne_none, Option.isNone_iff_eq_none] at hc9
        obtain rfl := hfin (ns, cst (decide (0 < yes))) (by unfold fold1; rw [if_neg hc3, if_neg hc4, if_neg hc6, if_pos hc8, if_pos (by omega)])
        refine Tri.seq ?_
        refine Tri.le (Le.drop (Le.refl _)) ?_
        refine Tri.drawX (X := Unit) rfl [(3, .pointer (some ⟨b3, 0, none⟩)), (4, .pointer (some ⟨b4, 0, none⟩)), (6, .pointer (some ⟨b6, 0, none⟩)), (9, .int .i64 yes), (13, .int .i64 no)] [(7, .int .i64 0)] (fun x => [_, _, _, _, undef, _]) (fun x c => match c with | 0 => bld 24 54 b3 v ns t s (row (some b6) 24 3 1 [.int .i64 0, slV none 0 0 0, .int .i64 0] :: H4) | _ + 1 => bld 24 54 b3 v ns t s (row (some b6) 24 3 1 [.int .i64 v, slV s.oa 0 ns.length s.cap, .int .i64 t] :: H4)) [4] () [5] rfl rfl ⟨rfl, rfl, rfl, rfl, rfl, trivial⟩ ⟨rfl, trivial⟩ (Le.refl _) (by
          refine ⟨?_, ?_, ?_, ?_, ?_, ?_, trivial⟩
          · refine ⟨fun x S c he hw hd hc hcu hm _ => ?_, trivial⟩
            obtain rfl : c = 0 := by have : c ≤ 0 := hcu; omega
            refine TOps.loadN (vs := [.int .i64 v, slV s.oa 0 ns.length s.cap, .int .i64 t]) (he _ _ rfl) ti24 bld_rd rfl rfl ?_
            exact TOps.fin (Nrm.draw x (fun _ _ _ => rfl) rfl (by first | exact Le.refl _ | assumption | exact (by repeat (first | exact Le.refl _ | assumption | apply Le.drop))))
          · refine ⟨fun x S c he hw hd hc hcu hm _ => ?_, trivial⟩
            refine TOps.move (he _ _ rfl) rfl ?_
            exact TOps.fin (Nrm.draw x (fun _ _ _ => rfl) rfl (by first | exact Le.refl _ | assumption | exact (by repeat (first | exact Le.refl _ | assumption | apply Le.drop))))
          · refine ⟨fun x S c he hw hd hc hcu hm _ => ?_, trivial⟩
            obtain ⟨h1, -⟩ := hd
            refine TOps.gtr h1 rfl rfl ?_
            exact TOps.fin (Nrm.draw x (fun _ _ _ => rfl) rfl (by first | exact Le.refl _ | assumption | exact (by repeat (first | exact Le.refl _ | assumption | apply Le.drop))))
          · refine ⟨fun x S c he hw hd hc hcu hm _ => ?_, trivial⟩
            obtain ⟨h2, -⟩ := hd
            refine TOps.call (vs := [_]) Try.call57 ⟨h2, trivial⟩ (rtruth_g _) rfl ?_
            rintro _ _ ⟨rfl, rfl⟩
            exact TOps.fin (Nrm.draw x (fun _ _ _ => rfl) rfl (by first | exact Le.refl _ | assumption | exact (by repeat (first | exact Le.refl _ | assumption | apply Le.drop))))
          · refine ⟨fun x S c he hw hd hc hcu hm _ => ?_, trivial⟩
            obtain ⟨h0, h3, _, -⟩ := hd
            obtain rfl : c = 0 := hm rfl
            refine TOps.storeN (he _ _ rfl) h0 ti24 rfl rfl (Upd.bld Upd.here) (by simp) ?_
            exact TOps.fin (Nrm.draw x (fun _ _ _ => rfl) rfl (by first | exact Le.refl _ | assumption | exact (by repeat (first | exact Le.refl _ | assumption | apply Le.drop))))
          · refine ⟨fun x S c he hw hd hc hcu hm _ => ?_, trivial⟩
            obtain ⟨h3, h4, h0, h1, h2, _, _, -⟩ := hd
            refine TOps.assign h3 rfl ?_
            exact TOps.fin (Nrm.draw x (fun _ _ _ => rfl) rfl (by first | exact Le.refl _ | assumption | exact (by repeat (first | exact Le.refl _ | assumption | apply Le.drop))))
          ) (fun u0 => ?_)
        refine Nrm.next ?_
        subst hH4
        refine Tri.ret2 (H' := bldH 24 54 bo hdr ns s HB) Try.results50 (fun _ _ h => h) (.cellN rfl rfl ti24 (Rd.all (bld_sub.subset (List.Mem.head _))) rfl) (.tmp rfl) bldH_unfold ⟨s, (by rw [swapC_cst]; exact congrArg (fun b => Value.tuple (List.toArray [.agg (List.toArray [.int .i64 v, slV s.oa 0 ns.length s.cap, .int .i64 t]), Value.int .i64 (rcst b)])) (decide_eq_decide.2 (by omega))), hs, rfl⟩
      try simp only [decide_eq_true_eq, decide_eq_false_iff_not, Bool.and_eq_true, Bool.or_eq_true, Bool.not_eq_true', Bool.and_eq_false_iff, Bool.or_eq_false_iff, Bool.not_eq_false', Int.not_lt, Int.not_le, ne_eq, Decidable.not_not, Option.isSome_iff_ne_none, Option.isNone_iff_eq_none] at hc9
      have hmp : d.kind ≠ 0 ∧ d.kind ≠ 1 ∧ rest.length ≠ 0 ∧ fold1 v d rest yes no ns = foldR v d rest yes ns := ⟨hc3, hc4, by omega, by unfold fold1; rw [if_neg hc3, if_neg hc4, if_neg hc6, if_pos hc8, if_neg (by omega)]; exact foldG_R (by omega) (by omega)⟩
      refine Tri.fin ?_
      refine Nrm.unB ?_
      refine Nrm.mid () hmp (by exact ⟨rfl, rfl, rfl, rfl, rfl, rfl, trivial⟩) (by repeat (first | exact Le.refl _ | assumption | apply Le.drop))
    try simp only [decide_eq_true_eq, decide_eq_false_iff_not, Bool.and_eq_true, Bool.or_eq_true, Bool.not_eq_true', Bool.and_eq_false_iff, Bool.or_eq_false_iff, Bool.not_eq_false', Int.not_lt, Int.not_le, ne_eq, Decidable.not_not, Option.isSome_iff_ne_none, Option.isNone_iff_eq_none] at hc8
    refine Tri.seq (Tri.region ?_)
    refine TOps.eqlI rfl rfl rfl ?_
    refine TOps.assign rfl rfl ?_
    refine TOps.next ?_
    refine Tri.cond rfl (fun hc10 => ?_) (fun hc10 => ?_)
    · try simp only [decide_eq_true_eq, decide_eq_false_iff_not, Bool.and_eq_true, Bool.or_eq_true, Bool.not_eq_true', Bool.and_eq_false_iff, Bool.or_eq_false_iff, Bool.not_eq_false', Int.not_lt, Int.not_le, ne_eq, Decidable.not_not, Option.isSome_iff_ne_none, Option.isNone_iff_eq_none] at hc10
      have hk4' := hk4 hc10
      refine Tri.seq (Tri.region ?_)
      first | refine TOps.fieldB 1 rfl Try.underlying54 rfl rfl ti3 rfl rfl rfl ?_ | refine TOps.fieldN 1 rfl Try.underlying54 rfl rfl ti3 rfl rfl rfl ?_
      refine TOps.load1 rfl ti3 (Rd.fld (r4.le (Le.drop (Le.trans bld_le (Le.drop (Le.refl _))))) 1 rfl) rfl ?_
      refine TOps.move rfl rfl ?_
      refine TOps.sub rfl rfl (wrapI (by omega) (by omega)) rfl ?_
      refine TOps.leq rfl rfl rfl ?_
      refine TOps.move rfl rfl ?_
      refine' TOps.orB 7 rfl rfl rfl rfl (fun hg29_5 => ?_) ?_; rotate_left
      · have hg29_5' := hg29_5
        try simp only [decide_eq_true_eq, decide_eq_false_iff_not, Bool.and_eq_true, Bool.or_eq_true, Bool.not_eq_true', Bool.and_eq_false_iff, Bool.or_eq_false_iff, Bool.not_eq_false', Int.not_lt, Int.not_le, ne_eq, Decidable.not_not] at hg29_5'
        refine TOps.strip 5 false rfl rfl hg29_5 rfl ?_
        first | refine TOps.fieldB 1 rfl Try.underlying54 rfl rfl ti3 rfl rfl rfl ?_ | refine TOps.fieldN 1 rfl Try.underlying54 rfl rfl ti3 rfl rfl rfl ?_
        refine TOps.load1 rfl ti3 (Rd.fld (r4.le (Le.drop (Le.trans bld_le (Le.drop (Le.refl _))))) 1 rfl) rfl ?_
        refine TOps.move rfl rfl ?_
        refine TOps.sub rfl rfl (wrapI (by omega) (by omega)) rfl ?_
        refine TOps.move rfl rfl ?_
        refine TOps.len rfl Try.underlying52 rfl ?_
        refine TOps.gtr rfl rfl rfl ?_
        refine TOps.blk rfl (by repeat (first | exact Ext.refl _ | refine Ext.cons rfl ?_)) (by repeat (first | exact Le.refl _ | apply Le.drop))
      refine TOps.next ?_
      refine Tri.cond rfl (fun hc11 => ?_) (fun hc11 => ?_)
      · try simp only [decide_eq_true_eq, decide_eq_false_iff_not, Bool.and_eq_true, Bool.or_eq_true, Bool.not_eq_true', Bool.and_eq_false_iff, Bool.or_eq_false_iff, Bool.not_eq_false', Int.not_lt, Int.not_le, ne_eq, Decidable.not_not, Option.isSome_iff_ne_none, Option.isNone_iff_eq_none] at hc11
        obtain rfl := hfin (ns, cst (decide (d.k - yes ≤ 0))) (by unfold fold1; rw [if_neg hc3, if_neg hc4, if_neg hc6, if_neg hc8, if_pos hc10, if_pos (by omega)])
        refine Tri.seq ?_
        refine Tri.le (Le.drop (Le.refl _)) ?_
        refine Tri.drawX (X := Unit) rfl [(3, .pointer (some ⟨b3, 0, none⟩)), (4, .pointer (some ⟨b4, 0, none⟩)), (6, .pointer (some ⟨b6, 0, none⟩)), (9, .int .i64 yes), (13, .int .i64 no)] [(7, .int .i64 0)] (fun x => [_, _, _, _, _, _, _, undef, _]) (fun x c => match c with | 0 => bld 24 54 b3 v ns t s (row (some b6) 24 3 1 [.int .i64 0, slV none 0 0 0, .int .i64 0] :: H4) | _ + 1 => bld 24 54 b3 v ns t s (row (some b6) 24 3 1 [.int .i64 v, slV s.oa 0 ns.length s.cap, .int .i64 t] :: H4)) [7] () [8] rfl rfl ⟨rfl, rfl, rfl, rfl, rfl, trivial⟩ ⟨rfl, trivial⟩ (Le.refl _) (by
          refine ⟨?_, ?_, ?_, ?_, ?_, ?_, ?_, ?_, ?_, trivial⟩
          · refine ⟨fun x S c he hw hd hc hcu hm _ => ?_, trivial⟩
            obtain rfl : c = 0 := by have : c ≤ 0 := hcu; omega
            refine TOps.loadN (vs := [.int .i64 v, slV s.oa 0 ns.length s.cap, .int .i64 t]) (he _ _ rfl) ti24 bld_rd rfl rfl ?_
            exact TOps.fin (Nrm.draw x (fun _ _ _ => rfl) rfl (by first | exact Le.refl _ | assumption | exact (by repeat (first | exact Le.refl _ | assumption | apply Le.drop))))
          · refine ⟨fun x S c he hw hd hc hcu hm _ => ?_, trivial⟩
            first | refine TOps.fieldB 1 (he _ _ rfl) Try.underlying54 rfl rfl ti3 rfl rfl rfl ?_ | refine TOps.fieldN 1 (he _ _ rfl) Try.underlying54 rfl rfl ti3 rfl rfl rfl ?_
            exact TOps.fin (Nrm.draw x (fun _ _ _ => rfl) rfl (by first | exact Le.refl _ | assumption | exact (by repeat (first | exact Le.refl _ | assumption | apply Le.drop))))
          · refine ⟨fun x S c he hw hd hc hcu hm _ => ?_, trivial⟩
            obtain ⟨h1, -⟩ := hd
            obtain rfl : c = 0 := by have : c ≤ 0 := hcu; omega
            refine TOps.load1 h1 ti3 (Rd.fld (r4.le (Le.trans bld_le (Le.drop (Le.refl _)))) 1 rfl) rfl ?_
            exact TOps.fin (Nrm.draw x (fun _ _ _ => rfl) rfl (by first | exact Le.refl _ | assumption | exact (by repeat (first | exact Le.refl _ | assumption | apply Le.drop))))
          · refine ⟨fun x S c he hw hd hc hcu hm _ => ?_, trivial⟩
            refine TOps.move (he _ _ rfl) rfl ?_
            exact TOps.fin (Nrm.draw x (fun _ _ _ => rfl) rfl (by first | exact Le.refl _ | assumption | exact (by repeat (first | exact Le.refl _ | assumption | apply Le.drop))))
          · refine ⟨fun x S c he hw hd hc hcu hm _ => ?_, trivial⟩
            obtain ⟨h2, h3, -⟩ := hd
            refine TOps.sub h2 h3 (wrapI (by omega) (by omega)) rfl ?_
            exact TOps.fin (Nrm.draw x (fun _ _ _ => rfl) rfl (by first | exact Le.refl _ | assumption | exact (by repeat (first | exact Le.refl _ | assumption | apply Le.drop))))
          · refine ⟨fun x S c he hw hd hc hcu hm _ => ?_, trivial⟩
            obtain ⟨h4, -⟩ := hd
            refine TOps.leq h4 rfl rfl ?_
            exact TOps.fin (Nrm.draw x (fun _ _ _ => rfl) rfl (by first | exact Le.refl _ | assumption | exact (by repeat (first | exact Le.refl _ | assumption | apply Le.drop))))
          · refine ⟨fun x S c he hw hd hc hcu hm _ => ?_, trivial⟩
            obtain ⟨h5, -⟩ := hd
            refine TOps.call (vs := [_]) Try.call57 ⟨h5, trivial⟩ (rtruth_g _) rfl ?_
            rintro _ _ ⟨rfl, rfl⟩
            exact TOps.fin (Nrm.draw x (fun _ _ _ => rfl) rfl (by first | exact Le.refl _ | assumption | exact (by repeat (first | exact Le.refl _ | assumption | apply Le.drop))))
          · refine ⟨fun x S c he hw hd hc hcu hm _ => ?_, trivial⟩
            obtain ⟨h0, h6, _, -⟩ := hd
            obtain rfl : c = 0 := hm rfl
            refine TOps.storeN (he _ _ rfl) h0 ti24 rfl rfl (Upd.bld Upd.here) (by simp) ?_
            exact TOps.fin (Nrm.draw x (fun _ _ _ => rfl) rfl (by first | exact Le.refl _ | assumption | exact (by repeat (first | exact Le.refl _ | assumption | apply Le.drop))))
          · refine ⟨fun x S c he hw hd hc hcu hm _ => ?_, trivial⟩
            obtain ⟨h6, h7, h0, h1, h2, h3, h4, h5, _, _, -⟩ := hd
            refine TOps.assign h6 rfl ?_
            exact TOps.fin (Nrm.draw x (fun _ _ _ => rfl) rfl (by first | exact Le.refl _ | assumption | exact (by repeat (first | exact Le.refl _ | assumption | apply Le.drop))))
          ) (fun u0 => ?_)
        refine Nrm.next ?_
        subst hH4
        refine Tri.ret2 (H' := bldH 24 54 bo hdr ns s HB) Try.results50 (fun _ _ h => h) (.cellN rfl rfl ti24 (Rd.all (bld_sub.subset (List.Mem.head _))) rfl) (.tmp rfl) bldH_unfold ⟨s, (by rw [swapC_cst]; exact congrArg (fun b => Value.tuple (List.toArray [.agg (List.toArray [.int .i64 v, slV s.oa 0 ns.length s.cap, .int .i64 t]), Value.int .i64 (rcst b)])) (decide_eq_decide.2 (by omega))), hs, rfl⟩
      try simp only [decide_eq_true_eq, decide_eq_false_iff_not, Bool.and_eq_true, Bool.or_eq_true, Bool.not_eq_true', Bool.and_eq_false_iff, Bool.or_eq_false_iff, Bool.not_eq_false', Int.not_lt, Int.not_le, ne_eq, Decidable.not_not, Option.isSome_iff_ne_none, Option.isNone_iff_eq_none] at hc11
      have hmp : d.kind ≠ 0 ∧ d.kind ≠ 1 ∧ rest.length ≠ 0 ∧ fold1 v d rest yes no ns = foldR v d rest yes ns := ⟨hc3, hc4, by omega, by unfold fold1; rw [if_neg hc3, if_neg hc4, if_neg hc6, if_neg hc8, if_pos hc10, if_neg (by omega)]; exact foldG_R (by omega) (by omega)⟩
      refine Tri.fin ?_
      refine Nrm.unB ?_
      refine Nrm.mid () hmp (by exact ⟨rfl, rfl, rfl, rfl, rfl, rfl, trivial⟩) (by repeat (first | exact Le.refl _ | assumption | apply Le.drop))
    try simp only [decide_eq_true_eq, decide_eq_false_iff_not, Bool.and_eq_true, Bool.or_eq_true, Bool.not_eq_true', Bool.and_eq_false_iff, Bool.or_eq_false_iff, Bool.not_eq_false', Int.not_lt, Int.not_le, ne_eq, Decidable.not_not, Option.isSome_iff_ne_none, Option.isNone_iff_eq_none] at hc10
    refine Tri.seq (Tri.region ?_)
    refine TOps.move rfl rfl ?_
    refine TOps.len rfl Try.underlying52 rfl ?_
    refine TOps.eqlI rfl rfl rfl ?_
    refine TOps.next ?_
    refine Tri.cond rfl (fun hc12 => ?_) (fun hc12 => ?_)
    · try simp only [decide_eq_true_eq, decide_eq_false_iff_not, Bool.and_eq_true, Bool.or_eq_true, Bool.not_eq_true', Bool.and_eq_false_iff, Bool.or_eq_false_iff, Bool.not_eq_false', Int.not_lt, Int.not_le, ne_eq, Decidable.not_not, Option.isSome_iff_ne_none, Option.isNone_iff_eq_none] at hc12
      obtain rfl := hfin (ns, cst (decide (yes % 2 = 1))) (by unfold fold1; rw [if_neg hc3, if_neg hc4, if_neg hc6, if_neg hc8, if_neg hc10, if_pos (by omega)])
      refine Tri.seq ?_
      refine Tri.le (Le.drop (Le.refl _)) ?_
      refine Tri.drawX (X := Unit) rfl [(3, .pointer (some ⟨b3, 0, none⟩)), (4, .pointer (some ⟨b4, 0, none⟩)), (6, .pointer (some ⟨b6, 0, none⟩)), (9, .int .i64 yes), (13, .int .i64 no)] [(7, .int .i64 0)] (fun x => [_, _, _, _, _, undef, _]) (fun x c => match c with | 0 => bld 24 54 b3 v ns t s (row (some b6) 24 3 1 [.int .i64 0, slV none 0 0 0, .int .i64 0] :: H4) | _ + 1 => bld 24 54 b3 v ns t s (row (some b6) 24 3 1 [.int .i64 v, slV s.oa 0 ns.length s.cap, .int .i64 t] :: H4)) [5] () [6] rfl rfl ⟨rfl, rfl, rfl, rfl, rfl, trivial⟩ ⟨rfl, trivial⟩ (Le.refl _) (by
        refine ⟨?_, ?_, ?_, ?_, ?_, ?_, ?_, trivial⟩
        · refine ⟨fun x S c he hw hd hc hcu hm _ => ?_, trivial⟩
          obtain rfl : c = 0 := by have : c ≤ 0 := hcu; omega
          refine TOps.loadN (vs := [.int .i64 v, slV s.oa 0 ns.length s.cap, .int .i64 t]) (he _ _ rfl) ti24 bld_rd rfl rfl ?_
          exact TOps.fin (Nrm.draw x (fun _ _ _ => rfl) rfl (by first | exact Le.refl _ | assumption | exact (by repeat (first | exact Le.refl _ | assumption | apply Le.drop))))
        · refine ⟨fun x S c he hw hd hc hcu hm _ => ?_, trivial⟩
          refine TOps.move (he _ _ rfl) rfl ?_
          exact TOps.fin (Nrm.draw x (fun _ _ _ => rfl) rfl (by first | exact Le.refl _ | assumption | exact (by repeat (first | exact Le.refl _ | assumption | apply Le.drop))))
        · refine ⟨fun x S c he hw hd hc hcu hm _ => ?_, trivial⟩
          obtain ⟨h1, -⟩ := hd
          refine TOps.rem (r := ((yes % 2 : Nat) : Int)) h1 rfl (by omega) rfl rfl ?_
          exact TOps.fin (Nrm.draw x (fun _ _ _ => rfl) rfl (by first | exact Le.refl _ | assumption | exact (by repeat (first | exact Le.refl _ | assumption | apply Le.drop))))
        · refine ⟨fun x S c he hw hd hc hcu hm _ => ?_, trivial⟩
          obtain ⟨h2, -⟩ := hd
          refine TOps.eqlI h2 rfl rfl ?_
          exact TOps.fin (Nrm.draw x (fun _ _ _ => rfl) rfl (by first | exact Le.refl _ | assumption | exact (by repeat (first | exact Le.refl _ | assumption | apply Le.drop))))
        · refine ⟨fun x S c he hw hd hc hcu hm _ => ?_, trivial⟩
          obtain ⟨h3, -⟩ := hd
          refine TOps.call (vs := [_]) Try.call57 ⟨h3, trivial⟩ (rtruth_g _) rfl ?_
          rintro _ _ ⟨rfl, rfl⟩
          exact TOps.fin (Nrm.draw x (fun _ _ _ => rfl) rfl (by first | exact Le.refl _ | assumption | exact (by repeat (first | exact Le.refl _ | assumption | apply Le.drop))))
        · refine ⟨fun x S c he hw hd hc hcu hm _ => ?_, trivial⟩
          obtain ⟨h0, h4, _, -⟩ := hd
          obtain rfl : c = 0 := hm rfl
          refine TOps.storeN (he _ _ rfl) h0 ti24 rfl rfl (Upd.bld Upd.here) (by simp) ?_
          exact TOps.fin (Nrm.draw x (fun _ _ _ => rfl) rfl (by first | exact Le.refl _ | assumption | exact (by repeat (first | exact Le.refl _ | assumption | apply Le.drop))))
        · refine ⟨fun x S c he hw hd hc hcu hm _ => ?_, trivial⟩
          obtain ⟨h4, h5, h0, h1, h2, h3, _, _, -⟩ := hd
          refine TOps.assign h4 rfl ?_
          exact TOps.fin (Nrm.draw x (fun _ _ _ => rfl) rfl (by first | exact Le.refl _ | assumption | exact (by repeat (first | exact Le.refl _ | assumption | apply Le.drop))))
        ) (fun u0 => ?_)
      refine Nrm.next ?_
      subst hH4
      refine Tri.ret2 (H' := bldH 24 54 bo hdr ns s HB) Try.results50 (fun _ _ h => h) (.cellN rfl rfl ti24 (Rd.all (bld_sub.subset (List.Mem.head _))) rfl) (.tmp rfl) bldH_unfold ⟨s, (by rw [swapC_cst]; exact congrArg (fun b => Value.tuple (List.toArray [.agg (List.toArray [.int .i64 v, slV s.oa 0 ns.length s.cap, .int .i64 t]), Value.int .i64 (rcst b)])) (decide_eq_decide.2 (by omega))), hs, rfl⟩
    try simp only [decide_eq_true_eq, decide_eq_false_iff_not, Bool.and_eq_true, Bool.or_eq_true, Bool.not_eq_true', Bool.and_eq_false_iff, Bool.or_eq_false_iff, Bool.not_eq_false', Int.not_lt, Int.not_le, ne_eq, Decidable.not_not, Option.isSome_iff_ne_none, Option.isNone_iff_eq_none] at hc12
    have hmp : d.kind ≠ 0 ∧ d.kind ≠ 1 ∧ rest.length ≠ 0 ∧ fold1 v d rest yes no ns = foldR v d rest yes ns := ⟨hc3, hc4, by omega, by unfold fold1; rw [if_neg hc3, if_neg hc4, if_neg hc6, if_neg hc8, if_neg hc10, if_neg (by omega)]; exact foldX_R (by omega)⟩
    refine Tri.fin ?_
    refine Nrm.unB ?_
    refine Nrm.mid () hmp (by exact ⟨rfl, rfl, rfl, rfl, rfl, rfl, trivial⟩) (by repeat (first | exact Le.refl _ | assumption | apply Le.drop))
  refine Tri.seq (Tri.region ?_)
  obtain ⟨m0, m1, mr, hfr⟩ := hmid
  have hR := hfin _ hfr
  obtain ⟨rb, rfl⟩ := hra (by intro h0; rw [h0] at mr; simp at mr)
  have hx0 := ints_get (l := rest) (i := 0) (by omega)
  obtain ⟨KK, hKK⟩ : ∃ KK : Int, (if d.kind = 4 then d.k - yes else 0) = KK := ⟨_, rfl⟩
  obtain ⟨SS, hSS⟩ : ∃ SS : List Nd × Int, (if 1 < rest.length then (ns ++ [⟨d.kind, KK, rest⟩], v + (ns.length : Int)) else (ns, rest.getD 0 0)) = SS := ⟨_, rfl⟩
  have hR2 : (if d.kind = 5 ∧ yes % 2 = 1 then (SS.1 ++ [⟨1, 0, [SS.2]⟩], v + (SS.1.length : Int)) else SS) = RR := by rw [← hR]; unfold foldR; dsimp only; rw [hKK, hSS]
  clear hR hfr hfin
  have hSSl : SS.1.length ≤ ns.length + 1 := by rw [← hSS]; split <;> simp
  have hSS0 : 0 ≤ SS.2 := by rw [← hSS]; split; (show 0 ≤ v + (ns.length : Int); omega); exact hr0 mr
  have hRR0 : 0 ≤ RR.2 := by rw [← hR2]; split; (show 0 ≤ v + (SS.1.length : Int); omega); exact hSS0
  refine TOps.move rfl rfl ?_
  refine TOps.indexAddr (off' := 0) rfl rfl Try.underlying52 ti3 (by omega) (by omega) (by simp) rfl ?_
  refine TOps.load1 rfl ti3 (Rd.lit (List.Mem.head _) hx0) rfl ?_
  refine TOps.assign rfl rfl ?_
  refine TOps.assign rfl rfl ?_
  refine TOps.next ?_
  refine Tri.seqMid (X := Unit) (fun y => [(3, .pointer (some ⟨b3, 0, none⟩)), (4, .pointer (some ⟨b4, 0, none⟩)), (6, .pointer (some ⟨b6, 0, none⟩)), (7, .int .i64 0), (8, slV (some rb) 0 rest.length rc), (9, .int .i64 yes), (14, .int .i64 (rest.getD 0 0)), (15, .int .i64 KK)]) (fun y => row (some rb) 3 1 rc (ints rest) :: bld 24 54 b3 v ns t s (row (some b6) 24 3 1 [.int .i64 0, slV none 0 0 0, .int .i64 0] :: H4)) (fun y => True) ?_ (fun y hmid => ?_)
  · skip
    refine Tri.seq (Tri.region ?_)
    refine TOps.field0 rfl Try.underlying54 rfl rfl ti3 rfl rfl rfl ?_
    refine TOps.load1 rfl ti3 (Rd.fld (r4.le (Le.drop (Le.trans bld_le (Le.drop (Le.refl _))))) 0 rfl) rfl ?_
    refine TOps.eqlI rfl rfl rfl ?_
    refine TOps.next ?_
    refine Tri.cond rfl (fun hc13 => ?_) (fun hc13 => ?_)
    · try simp only [decide_eq_true_eq, decide_eq_false_iff_not, Bool.and_eq_true, Bool.or_eq_true, Bool.not_eq_true', Bool.and_eq_false_iff, Bool.or_eq_false_iff, Bool.not_eq_false', Int.not_lt, Int.not_le, ne_eq, Decidable.not_not, Option.isSome_iff_ne_none, Option.isNone_iff_eq_none] at hc13
      obtain rfl : d.k - (yes : Int) = KK := by rw [← hKK, if_pos hc13]
      have hk4' := hk4 hc13
      refine Tri.region ?_
      first | refine TOps.fieldB 1 rfl Try.underlying54 rfl rfl ti3 rfl rfl rfl ?_ | refine TOps.fieldN 1 rfl Try.underlying54 rfl rfl ti3 rfl rfl rfl ?_
      refine TOps.load1 rfl ti3 (Rd.fld (r4.le (Le.drop (Le.trans bld_le (Le.drop (Le.refl _))))) 1 rfl) rfl ?_
      refine TOps.move rfl rfl ?_
      refine TOps.sub rfl rfl (wrapI (by omega) (by omega)) rfl ?_
      refine TOps.assign rfl rfl ?_
      refine TOps.fin ?_
      refine Nrm.mid () trivial (by exact ⟨rfl, rfl, rfl, rfl, rfl, rfl, rfl, rfl, trivial⟩) (by repeat (first | exact Le.refl _ | assumption | apply Le.drop))
    try simp only [decide_eq_true_eq, decide_eq_false_iff_not, Bool.and_eq_true, Bool.or_eq_true, Bool.not_eq_true', Bool.and_eq_false_iff, Bool.or_eq_false_iff, Bool.not_eq_false', Int.not_lt, Int.not_le, ne_eq, Decidable.not_not, Option.isSome_iff_ne_none, Option.isNone_iff_eq_none] at hc13
    obtain rfl : (0 : Int) = KK := by rw [← hKK, if_neg hc13]
    refine Tri.fin ?_
    refine Nrm.mid () trivial (by exact ⟨rfl, rfl, rfl, rfl, rfl, rfl, rfl, rfl, trivial⟩) (by repeat (first | exact Le.refl _ | assumption | apply Le.drop))
  refine Tri.seqMid (X := BS) (fun y => [(3, .pointer (some ⟨b3, 0, none⟩)), (4, .pointer (some ⟨b4, 0, none⟩)), (6, .pointer (some ⟨b6, 0, none⟩)), (7, .int .i64 0), (9, .int .i64 yes), (14, .int .i64 SS.2)]) (fun y => bld 24 54 b3 v SS.1 t y (row (some b6) 24 3 1 [.int .i64 0, slV none 0 0 0, .int .i64 0] :: H4)) (fun y => y.ok SS.1) ?_ (fun y hmid => ?_)
  · skip
    refine Tri.seq (Tri.region ?_)
    refine TOps.move rfl rfl ?_
    refine TOps.len rfl Try.underlying52 rfl ?_
    refine TOps.gtr rfl rfl rfl ?_
    refine TOps.next ?_
    refine Tri.cond rfl (fun hc14 => ?_) (fun hc14 => ?_)
    · try simp only [decide_eq_true_eq, decide_eq_false_iff_not, Bool.and_eq_true, Bool.or_eq_true, Bool.not_eq_true', Bool.and_eq_false_iff, Bool.or_eq_false_iff, Bool.not_eq_false', Int.not_lt, Int.not_le, ne_eq, Decidable.not_not, Option.isSome_iff_ne_none, Option.isNone_iff_eq_none] at hc14
      obtain rfl : (ns ++ [⟨d.kind, KK, rest⟩], v + (ns.length : Int)) = SS := by rw [← hSS, if_pos (by omega)]
      refine Tri.region ?_
      refine TOps.loadN rfl ti24 (Rd.up bld_rd) rfl rfl ?_
      refine TOps.field0 rfl Try.underlying54 rfl rfl ti3 rfl rfl rfl ?_
      refine TOps.load1 rfl ti3 (Rd.fld (r4.le (Le.drop (Le.trans bld_le (Le.drop (Le.refl _))))) 0 rfl) rfl ?_
      refine TOps.move rfl rfl ?_
      refine TOps.move rfl rfl ?_
      refine TOps.call (vs := [_, _, _, _]) Try.call38 ⟨rfl, rfl, rfl, rfl, trivial⟩ (radd1_g hs rfl hv (by omega) rfl (by omega) (fun _ => ⟨rb, rfl⟩) d.kind KK) rfl ?_
      rintro _ _ ⟨s1, rfl, hs1, rfl⟩
      refine TOps.move rfl rfl ?_
      refine TOps.extract rfl rfl rfl ?_
      refine TOps.extract rfl rfl rfl ?_
      refine TOps.storeBld rfl rfl ti24 (by simp) rfl ?_
      refine TOps.assign rfl rfl ?_
      refine TOps.fin ?_
      refine Nrm.mid s1 hs1 (by exact ⟨rfl, rfl, rfl, rfl, rfl, rfl, trivial⟩) (by first | exact Le.refl _ | exact Le.drop (Le.refl _))
    try simp only [decide_eq_true_eq, decide_eq_false_iff_not, Bool.and_eq_true, Bool.or_eq_true, Bool.not_eq_true', Bool.and_eq_false_iff, Bool.or_eq_false_iff, Bool.not_eq_false', Int.not_lt, Int.not_le, ne_eq, Decidable.not_not, Option.isSome_iff_ne_none, Option.isNone_iff_eq_none] at hc14
    obtain rfl : (ns, rest.getD 0 0) = SS := by rw [← hSS, if_neg (by omega)]
    obtain ⟨s1, hs1e⟩ : ∃ s1, s = s1 := ⟨_, rfl⟩
    rw [hs1e] at hs ⊢
    have hs1 := hs
    refine Tri.fin ?_
    refine Nrm.mid s1 hs1 (by exact ⟨rfl, rfl, rfl, rfl, rfl, rfl, trivial⟩) (by first | exact Le.refl _ | exact Le.drop (Le.refl _))
  refine Tri.seqMid (X := BS) (fun y => [(3, .pointer (some ⟨b3, 0, none⟩)), (4, .pointer (some ⟨b4, 0, none⟩)), (6, .pointer (some ⟨b6, 0, none⟩)), (7, .int .i64 0), (14, .int .i64 RR.2)]) (fun y => bld 24 54 b3 v RR.1 t y (row (some b6) 24 3 1 [.int .i64 0, slV none 0 0 0, .int .i64 0] :: H4)) (fun y => y.ok RR.1) ?_ (fun y hmid => ?_)
  · skip
    refine Tri.seq (Tri.region ?_)
    obtain ⟨z2, hz2⟩ : ∃ z2, y = z2 := ⟨_, rfl⟩
    rw [hz2] at hmid ⊢
    have hz2o := hmid
    refine TOps.field0 rfl Try.underlying54 rfl rfl ti3 rfl rfl rfl ?_
    refine TOps.load1 rfl ti3 (Rd.fld (r4.le (Le.trans bld_le (Le.drop (Le.refl _)))) 0 rfl) rfl ?_
    refine TOps.eqlI rfl rfl rfl ?_
    refine TOps.move rfl rfl ?_
    refine' TOps.andB 3 rfl rfl rfl rfl (fun hg36_3 => ?_) ?_; rotate_left
    · have hg36_3' := hg36_3
      try simp only [decide_eq_true_eq, decide_eq_false_iff_not, Bool.and_eq_true, Bool.or_eq_true, Bool.not_eq_true', Bool.and_eq_false_iff, Bool.or_eq_false_iff, Bool.not_eq_false', Int.not_lt, Int.not_le, ne_eq, Decidable.not_not] at hg36_3'
      refine TOps.strip 3 true rfl rfl hg36_3 rfl ?_
      refine TOps.move rfl rfl ?_
      refine TOps.rem (r := ((yes % 2 : Nat) : Int)) rfl rfl (by omega) rfl rfl ?_
      refine TOps.eqlI rfl rfl rfl ?_
      refine TOps.blk rfl (by repeat (first | exact Ext.refl _ | refine Ext.cons rfl ?_)) (by repeat (first | exact Le.refl _ | apply Le.drop))
    refine TOps.next ?_
    refine Tri.cond rfl (fun hc15 => ?_) (fun hc15 => ?_)
    · try simp only [decide_eq_true_eq, decide_eq_false_iff_not, Bool.and_eq_true, Bool.or_eq_true, Bool.not_eq_true', Bool.and_eq_false_iff, Bool.or_eq_false_iff, Bool.not_eq_false', Int.not_lt, Int.not_le, ne_eq, Decidable.not_not, Option.isSome_iff_ne_none, Option.isNone_iff_eq_none] at hc15
      obtain rfl : (SS.1 ++ [⟨1, 0, [SS.2]⟩], v + (SS.1.length : Int)) = RR := by rw [← hR2, if_pos ⟨hc15.1, by have := hc15.2; omega⟩]
      refine Tri.region ?_
      refine TOps.loadN rfl ti24 bld_rd rfl rfl ?_
      refine TOps.move rfl rfl ?_
      refine TOps.buildSlice (vs := [_]) (xs := [_]) Try.underlying52 ti3 ⟨rfl, rfl, trivial⟩ rfl rfl rfl rfl rfl rfl (by decide) rfl (fun b158 => ?_)
      refine TOps.call (vs := [_, _, _, _]) Try.call38 ⟨rfl, rfl, rfl, rfl, trivial⟩ (radd1_g (args := [SS.2]) (L := SS.1.length) hz2o rfl hv (by omega) rfl (by simp) (fun _ => ⟨_, rfl⟩) 1 0) rfl ?_
      rintro _ _ ⟨s2, rfl, hs2, rfl⟩
      refine TOps.move rfl rfl ?_
      refine TOps.extract rfl rfl rfl ?_
      refine TOps.extract rfl rfl rfl ?_
      refine TOps.storeBld rfl rfl ti24 (by simp) rfl ?_
      refine TOps.assign rfl rfl ?_
      refine TOps.fin ?_
      refine Nrm.mid s2 hs2 (by exact ⟨rfl, rfl, rfl, rfl, rfl, trivial⟩) (Le.refl _)
    try simp only [decide_eq_true_eq, decide_eq_false_iff_not, Bool.and_eq_true, Bool.or_eq_true, Bool.not_eq_true', Bool.and_eq_false_iff, Bool.or_eq_false_iff, Bool.not_eq_false', Int.not_lt, Int.not_le, ne_eq, Decidable.not_not, Option.isSome_iff_ne_none, Option.isNone_iff_eq_none] at hc15
    obtain rfl : SS = RR := by rw [← hR2, if_neg (fun h => by rcases hc15 with e | e; exact e h.1; have := h.2; omega)]
    obtain ⟨s2, hs2e⟩ : ∃ s2, z2 = s2 := ⟨_, rfl⟩
    rw [hs2e] at hz2o ⊢
    have hs2 := hz2o
    refine Tri.fin ?_
    refine Nrm.mid s2 hs2 (by exact ⟨rfl, rfl, rfl, rfl, rfl, trivial⟩) (Le.refl _)
  refine Tri.seq (Tri.region ?_)
  refine TOps.loadN rfl ti24 bld_rd rfl rfl ?_
  refine TOps.move rfl rfl ?_
  refine TOps.storeN rfl rfl ti24 rfl rfl (Upd.bld Upd.here) (by simp) ?_
  refine TOps.assign rfl rfl ?_
  refine TOps.next ?_
  subst hH4
  refine Tri.ret2 (H' := bldH 24 54 bo hdr RR.1 y HB) Try.results50 (fun _ _ h => h) (.cellN rfl rfl ti24 (Rd.all (bld_sub.subset (List.Mem.head _))) rfl) (.tmp rfl) bldH_unfold ⟨y, by rw [swapC_pos hRR0]; rfl, hmid, rfl⟩
theorem rfolded0_g {HB : List Ent} {bo : Nat} {v t : Int} {ns : List Nd} {s : BS} (hs : s.ok ns) (hv : 0 ≤ v ∧ v ≤ 24) (hn : ns.length ≤ 100000) {d : Nd} (hdk : 0 ≤ d.kind ∧ d.kind ≤ 5) (hdkk : I64 d.k) (hk4 : d.kind = 4 → 1 ≤ d.k ∧ d.k ≤ 16) {da dsp : Option Nat} {dn do_ dc : Nat}
    {A : List Int} {aa asp : Option Nat} {ao ac m : Nat} (hm : A.length = m) (hm16 : m ≤ 16) (hk1 : d.kind = 1 → m = 1) (ha : RInts HB aa ao A asp) {RR : List Nd × Int} (hRR : fold1 v d (restOf A) (cntC (-2) A) (cntC (-1) A) ns = RR) (hA0 : ∀ a ∈ A, -2 ≤ a) :
    Gives Try.prog 50 [.agg (List.toArray [.int .i64 v, slV s.oa 0 ns.length s.cap, .int .i64 t]), .agg (List.toArray [.int .i64 d.kind, .int .i64 d.k, slV da do_ dn dc dsp]), slV aa ao m ac asp] (bld 24 54 bo v ns t s HB)
      (fun u H' => ∃ s' : BS, u = .tuple (List.toArray [.agg (List.toArray [.int .i64 v, slV s'.oa 0 RR.1.length s'.cap, .int .i64 t]), .int .i64 (swapC RR.2)]) ∧ s'.ok RR.1 ∧ bldH 24 54 bo [.int .i64 v, slV s.oa 0 ns.length s.cap, .int .i64 t] RR.1 s' HB = H') :=
  rfolded_g hs hv hn hdk hdkk hk4 hm hm16 hk1 ha hRR hA0
end Go.Proofs
