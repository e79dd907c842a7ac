import Derived.Test.YthfbpnfaklaopaaE11
import Derived.Test.YthfbpnfaklaopaaGL76
namespace Go.Proofs
open Go.GL
set_option linter.unusedVariables false
set_option linter.unusedSimpArgs false
theorem constant_g {H : List Ent} (b : Bool) : Gives Try.prog 56 [.bool b] H (R1 (.int .i64 (cst b)) H) := by
  refine Gives.enter Try.func56 rfl (by exact Try.ntmps56) rfl ?_
  refine Tri.seq (Tri.region ?_)
  refine TOps.assign rfl rfl ?_
  refine TOps.next ?_
  refine Tri.seq ?_
  refine Tri.seq (Tri.region ?_)
  refine TOps.move rfl rfl ?_
  refine TOps.next ?_
  refine Tri.cond rfl (fun hc1 => ?_) (fun hc1 => ?_)
  · try simp only [decide_eq_true_eq, decide_eq_false_iff_not, Bool.and_eq_true, Bool.or_eq_true, Bool.not_eq_true', Bool.and_eq_false_iff, Bool.or_eq_false_iff, Bool.not_eq_false', Int.not_lt, Int.not_le, ne_eq, Decidable.not_not, Option.isSome_iff_ne_none, Option.isNone_iff_eq_none] at hc1
    refine Tri.seq (Tri.region ?_)
    refine TOps.assign rfl rfl ?_
    refine TOps.next ?_
    refine Tri.ret1 (H' := H) Try.results56 (fun _ _ h => h) (.tmp rfl) (Le.refl _) ⟨by rw [hc1]; rfl, rfl⟩
  try simp only [decide_eq_true_eq, decide_eq_false_iff_not, Bool.and_eq_true, Bool.or_eq_true, Bool.not_eq_true', Bool.and_eq_false_iff, Bool.or_eq_false_iff, Bool.not_eq_false', Int.not_lt, Int.not_le, ne_eq, Decidable.not_not, Option.isSome_iff_ne_none, Option.isNone_iff_eq_none] at hc1
  refine Tri.fin ?_
  refine Nrm.next ?_
  refine Tri.seq (Tri.region ?_)
  refine TOps.assign rfl rfl ?_
  refine TOps.next ?_
  refine Tri.ret1 (H' := H) Try.results56 (fun _ _ h => h) (.tmp rfl) (Le.refl _) ⟨by rw [hc1]; rfl, rfl⟩
set_option maxHeartbeats 2000000 in
theorem folded_g {HB : List Ent} {bb : Nat} {v t : Int} {ns : List Nd} {s : BS} (hs : s.ok ns) (hv : 0 ≤ v ∧ v ≤ 24) (hn : ns.length ≤ 100000) {d : Nd} (hdk : 0 ≤ d.kind ∧ d.kind ≤ 5) (hdkk : I64 d.k) (hk4 : d.kind = 4 → 1 ≤ d.k ∧ d.k ≤ 16) {da dsp : Option Nat} {dn do_ dc : Nat}
    {rest : List Int} {ra : Option Nat} {rc rc2 : Nat} (hra : rest ≠ [] → ∃ b, ra = some b) (hrl : rest.length ≤ 16) (yes no : Nat) (hy : yes ≤ 16) (hno : no ≤ 16) {L : Nat} (hL : rest.length = L) :
    Gives Try.prog 49 [.pointer (some ⟨bb, 0, none⟩), .agg (List.toArray [.int .i64 d.kind, .int .i64 d.k, slV da do_ dn dc dsp]), slV ra 0 L rc, .int .i64 yes, .int .i64 no] (row ra 3 1 rc2 (ints rest) :: bld 61 54 bb v ns t s HB)
      (fun u H' => ∃ s' : BS, u = .int .i64 (fold1 v d rest yes no ns).2 ∧ s'.ok (fold1 v d rest yes no ns).1 ∧ bld 61 54 bb v (fold1 v d rest yes no ns).1 t s' HB = H') := by
  subst hL
  obtain ⟨hk64a, hk64b⟩ := hdkk
  obtain ⟨RR, hRR⟩ : ∃ RR, fold1 v d rest yes no ns = RR := ⟨_, rfl⟩
  rw [hRR]
  have hfin : ∀ r : List Nd × Int, fold1 v d rest yes no ns = r → r = RR := fun r h => h.symm.trans hRR
  refine Gives.enter Try.func49 rfl (by exact Try.ntmps49) rfl ?_
  refine Tri.seq (Tri.region ?_)
  refine TOps.boxN rfl ti54 rfl rfl (fun b6 => ?_)
  have r6 : Rd (row (some b6) 54 3 1 [.int .i64 d.kind, .int .i64 d.k, slV da do_ dn dc dsp] :: HB) b6 0 [.int .i64 d.kind, .int .i64 d.k, slV da do_ dn dc dsp] := Rd.all (by repeat (first | exact List.Mem.head _ | apply List.Mem.tail))
  refine TOps.le bld_in3 ?_
  refine TOps.assign rfl rfl ?_
  refine TOps.next ?_
  refine Tri.seqMid (X := Unit) (fun y => [(0, .pointer (some ⟨bb, 0, none⟩)), (2, slV ra 0 rest.length rc), (3, .int .i64 yes), (6, .pointer (some ⟨b6, 0, none⟩))]) (fun y => row ra 3 1 rc2 (ints rest) :: bld 61 54 bb v ns t s (row (some b6) 54 3 1 [.int .i64 d.kind, .int .i64 d.k, slV da do_ dn dc dsp] :: HB)) (fun y => d.kind ≠ 0 ∧ d.kind ≠ 1 ∧ d.kind ≠ 5 ∧ rest.length ≠ 0 ∧ fold1 v d rest yes no ns = foldG v d rest yes ns) ?_ (fun y hmid => ?_)
  · skip
    refine Tri.seq (Tri.region ?_)
    refine TOps.field0 rfl Try.underlying54 rfl rfl ti3 rfl rfl rfl ?_
    refine TOps.load1 rfl ti3 (Rd.fld (r6.le (Le.drop bld_le)) 0 rfl) rfl ?_
    refine TOps.next ?_
    refine Tri.block ?_
    refine Tri.seq (Tri.region ?_)
    refine TOps.eqlI rfl rfl rfl ?_
    refine TOps.assign rfl rfl ?_
    refine TOps.next ?_
    refine Tri.cond rfl (fun hc1 => ?_) (fun hc1 => ?_)
    · try simp only [decide_eq_true_eq, decide_eq_false_iff_not, Bool.and_eq_true, Bool.or_eq_true, Bool.not_eq_true', Bool.and_eq_false_iff, Bool.or_eq_false_iff, Bool.not_eq_false', Int.not_lt, Int.not_le, ne_eq, Decidable.not_not, Option.isSome_iff_ne_none, Option.isNone_iff_eq_none] at hc1
      obtain rfl := hfin (ns, cst (decide (d.k = 1))) (by unfold fold1; rw [if_pos hc1])
      refine Tri.seq (Tri.region ?_)
      first | refine TOps.fieldB 1 rfl Try.underlying54 rfl rfl ti3 rfl rfl rfl ?_ | refine TOps.fieldN 1 rfl Try.underlying54 rfl rfl ti3 rfl rfl rfl ?_
      refine TOps.load1 rfl ti3 (Rd.fld (r6.le (Le.drop bld_le)) 1 rfl) rfl ?_
      refine TOps.eqlI rfl rfl rfl ?_
      refine TOps.call (vs := [_]) Try.call56 ⟨rfl, trivial⟩ (constant_g _) rfl ?_
      rintro _ _ ⟨rfl, rfl⟩
      refine TOps.assign rfl rfl ?_
      refine TOps.next ?_
      refine Tri.ret1 (H' := bld 61 54 bb v ns t s HB) Try.results49 (fun _ _ h => h) (.tmp rfl) (Le.drop (bld_mono (List.sublist_cons_self _ _))) ⟨s, rfl, hs, rfl⟩
    try simp only [decide_eq_true_eq, decide_eq_false_iff_not, Bool.and_eq_true, Bool.or_eq_true, Bool.not_eq_true', Bool.and_eq_false_iff, Bool.or_eq_false_iff, Bool.not_eq_false', Int.not_lt, Int.not_le, ne_eq, Decidable.not_not, Option.isSome_iff_ne_none, Option.isNone_iff_eq_none] at hc1
    refine Tri.seq (Tri.region ?_)
    refine TOps.eqlI rfl rfl rfl ?_
    refine TOps.assign rfl rfl ?_
    refine TOps.next ?_
    refine Tri.cond rfl (fun hc2 => ?_) (fun hc2 => ?_)
    · try simp only [decide_eq_true_eq, decide_eq_false_iff_not, Bool.and_eq_true, Bool.or_eq_true, Bool.not_eq_true', Bool.and_eq_false_iff, Bool.or_eq_false_iff, Bool.not_eq_false', Int.not_lt, Int.not_le, ne_eq, Decidable.not_not, Option.isSome_iff_ne_none, Option.isNone_iff_eq_none] at hc2
      refine Tri.seq ?_
      refine Tri.seq (Tri.region ?_)
      refine TOps.move rfl rfl ?_
      refine TOps.len rfl Try.underlying52 rfl ?_
      refine TOps.eqlI rfl rfl rfl ?_
      refine TOps.next ?_
      refine Tri.cond rfl (fun hc3 => ?_) (fun hc3 => ?_)
      · try simp only [decide_eq_true_eq, decide_eq_false_iff_not, Bool.and_eq_true, Bool.or_eq_true, Bool.not_eq_true', Bool.and_eq_false_iff, Bool.or_eq_false_iff, Bool.not_eq_false', Int.not_lt, Int.not_le, ne_eq, Decidable.not_not, Option.isSome_iff_ne_none, Option.isNone_iff_eq_none] at hc3
        obtain rfl := hfin (ns, cst (decide (yes = 0))) (by unfold fold1; rw [if_neg hc1, if_pos hc2, if_pos (by omega)])
        refine Tri.seq (Tri.region ?_)
        refine TOps.move rfl rfl ?_
        refine TOps.eqlI rfl rfl rfl ?_
        refine TOps.call (vs := [_]) Try.call56 ⟨rfl, trivial⟩ (constant_g _) rfl ?_
        rintro _ _ ⟨rfl, rfl⟩
        refine TOps.assign rfl rfl ?_
        refine TOps.next ?_
        refine Tri.ret1 (H' := bld 61 54 bb v ns t s HB) Try.results49 (fun _ _ h => h) (.tmp rfl) (Le.drop (bld_mono (List.sublist_cons_self _ _))) ⟨s, by simp, hs, rfl⟩
      try simp only [decide_eq_true_eq, decide_eq_false_iff_not, Bool.and_eq_true, Bool.or_eq_true, Bool.not_eq_true', Bool.and_eq_false_iff, Bool.or_eq_false_iff, Bool.not_eq_false', Int.not_lt, Int.not_le, ne_eq, Decidable.not_not, Option.isSome_iff_ne_none, Option.isNone_iff_eq_none] at hc3
      obtain rfl := hfin (ns ++ [⟨1, 0, rest⟩], v + ns.length) (by unfold fold1; rw [if_neg hc1, if_pos hc2, if_neg (by omega)])
      refine Tri.fin ?_
      refine Nrm.next ?_
      refine Tri.seq (Tri.region ?_)
      refine TOps.move rfl rfl ?_
      refine TOps.move rfl rfl ?_
      refine TOps.call (vs := [_, _, _, _]) Try.call30 ⟨rfl, rfl, rfl, rfl, trivial⟩ (add1_g hs rfl hv (by omega) rfl hra 1 0) rfl ?_
      rintro _ _ ⟨s', rfl, hs', rfl⟩
      refine TOps.assign rfl rfl ?_
      refine TOps.next ?_
      refine Tri.ret1 (H' := bld 61 54 bb v _ t s' HB) Try.results49 (fun _ _ h => h) (.tmp rfl) (bld_mono (List.sublist_cons_self _ _)) ⟨s', rfl, hs', rfl⟩
    try simp only [decide_eq_true_eq, decide_eq_false_iff_not, Bool.and_eq_true, Bool.or_eq_true, Bool.not_eq_true', Bool.and_eq_false_iff, Bool.or_eq_false_iff, Bool.not_eq_false', Int.not_lt, Int.not_le, ne_eq, Decidable.not_not, Option.isSome_iff_ne_none, Option.isNone_iff_eq_none] at hc2
    refine Tri.seq (Tri.region ?_)
    refine TOps.eqlI rfl rfl rfl ?_
    refine TOps.assign rfl rfl ?_
    refine TOps.next ?_
    refine Tri.cond rfl (fun hc4 => ?_) (fun hc4 => ?_)
    · try simp only [decide_eq_true_eq, decide_eq_false_iff_not, Bool.and_eq_true, Bool.or_eq_true, Bool.not_eq_true', Bool.and_eq_false_iff, Bool.or_eq_false_iff, Bool.not_eq_false', Int.not_lt, Int.not_le, ne_eq, Decidable.not_not, Option.isSome_iff_ne_none, Option.isNone_iff_eq_none] at hc4
      refine Tri.seq (Tri.region ?_)
      refine TOps.move rfl rfl ?_
      refine TOps.gtr rfl rfl rfl ?_
      refine TOps.move rfl rfl ?_
      refine' TOps.orB 3 rfl rfl rfl rfl (fun hg9_2 => ?_) ?_; rotate_left
      · have hg9_2' := hg9_2
        try simp only [decide_eq_true_eq, decide_eq_false_iff_not, Bool.and_eq_true, Bool.or_eq_true, Bool.not_eq_true', Bool.and_eq_false_iff, Bool.or_eq_false_iff, Bool.not_eq_false', Int.not_lt, Int.not_le, ne_eq, Decidable.not_not] at hg9_2'
        refine TOps.strip 2 false rfl rfl hg9_2 rfl ?_
        refine TOps.move rfl rfl ?_
        refine TOps.len rfl Try.underlying52 rfl ?_
        refine TOps.eqlI rfl rfl rfl ?_
        refine TOps.blk rfl (by repeat (first | exact Ext.refl _ | refine Ext.cons rfl ?_)) (by repeat (first | exact Le.refl _ | apply Le.drop))
      refine TOps.next ?_
      refine Tri.cond rfl (fun hc5 => ?_) (fun hc5 => ?_)
      · try simp only [decide_eq_true_eq, decide_eq_false_iff_not, Bool.and_eq_true, Bool.or_eq_true, Bool.not_eq_true', Bool.and_eq_false_iff, Bool.or_eq_false_iff, Bool.not_eq_false', Int.not_lt, Int.not_le, ne_eq, Decidable.not_not, Option.isSome_iff_ne_none, Option.isNone_iff_eq_none] at hc5
        obtain rfl := hfin (ns, cst (decide (no = 0))) (by unfold fold1; rw [if_neg hc1, if_neg hc2, if_pos hc4, if_pos (by omega)])
        refine Tri.seq (Tri.region ?_)
        refine TOps.move rfl rfl ?_
        refine TOps.eqlI rfl rfl rfl ?_
        refine TOps.call (vs := [_]) Try.call56 ⟨rfl, trivial⟩ (constant_g _) rfl ?_
        rintro _ _ ⟨rfl, rfl⟩
        refine TOps.assign rfl rfl ?_
        refine TOps.next ?_
        refine Tri.ret1 (H' := bld 61 54 bb v ns t s HB) Try.results49 (fun _ _ h => h) (.tmp rfl) (Le.drop (bld_mono (List.sublist_cons_self _ _))) ⟨s, by simp, hs, rfl⟩
      try simp only [decide_eq_true_eq, decide_eq_false_iff_not, Bool.and_eq_true, Bool.or_eq_true, Bool.not_eq_true', Bool.and_eq_false_iff, Bool.or_eq_false_iff, Bool.not_eq_false', Int.not_lt, Int.not_le, ne_eq, Decidable.not_not, Option.isSome_iff_ne_none, Option.isNone_iff_eq_none] at hc5
      have hmp : d.kind ≠ 0 ∧ d.kind ≠ 1 ∧ d.kind ≠ 5 ∧ rest.length ≠ 0 ∧ fold1 v d rest yes no ns = foldG v d rest yes ns := ⟨hc1, hc2, by omega, by omega, by unfold fold1; rw [if_neg hc1, if_neg hc2, if_pos hc4, if_neg (by omega)]⟩
      refine Tri.fin ?_
      refine Nrm.unB ?_
      refine Nrm.mid () hmp (by exact ⟨rfl, rfl, rfl, rfl, trivial⟩) (by repeat (first | exact Le.refl _ | assumption | apply Le.drop))
    try simp only [decide_eq_true_eq, decide_eq_false_iff_not, Bool.and_eq_true, Bool.or_eq_true, Bool.not_eq_true', Bool.and_eq_false_iff, Bool.or_eq_false_iff, Bool.not_eq_false', Int.not_lt, Int.not_le, ne_eq, Decidable.not_not, Option.isSome_iff_ne_none, Option.isNone_iff_eq_none] at hc4
    refine Tri.seq (Tri.region ?_)
    refine TOps.eqlI rfl rfl rfl ?_
    refine TOps.assign rfl rfl ?_
    refine TOps.next ?_
    refine Tri.cond rfl (fun hc6 => ?_) (fun hc6 => ?_)
    · try simp only [decide_eq_true_eq, decide_eq_false_iff_not, Bool.and_eq_true, Bool.or_eq_true, Bool.not_eq_true', Bool.and_eq_false_iff, Bool.or_eq_false_iff, Bool.not_eq_false', Int.not_lt, Int.not_le, ne_eq, Decidable.not_not, Option.isSome_iff_ne_none, Option.isNone_iff_eq_none] at hc6
      refine Tri.seq (Tri.region ?_)
      refine TOps.move rfl rfl ?_
      refine TOps.gtr rfl rfl rfl ?_
      refine TOps.move rfl rfl ?_
      refine' TOps.orB 3 rfl rfl rfl rfl (fun hg12_2 => ?_) ?_; rotate_left
      · have hg12_2' := hg12_2
        try simp only [decide_eq_true_eq, decide_eq_false_iff_not, Bool.and_eq_true, Bool.or_eq_true, Bool.not_eq_true', Bool.and_eq_false_iff, Bool.or_eq_false_iff, Bool.not_eq_false', Int.not_lt, Int.not_le, ne_eq, Decidable.not_not] at hg12_2'
        refine TOps.strip 2 false rfl rfl hg12_2 rfl ?_
        refine TOps.move rfl rfl ?_
        refine TOps.len rfl Try.underlying52 rfl ?_
        refine TOps.eqlI rfl rfl rfl ?_
        refine TOps.blk rfl (by repeat (first | exact Ext.refl _ | refine Ext.cons rfl ?_)) (by repeat (first | exact Le.refl _ | apply Le.drop))
      refine TOps.next ?_
      refine Tri.cond rfl (fun hc7 => ?_) (fun hc7 => ?_)
      · try simp only [decide_eq_true_eq, decide_eq_false_iff_not, Bool.and_eq_true, Bool.or_eq_true, Bool.not_eq_true', Bool.and_eq_false_iff, Bool.or_eq_false_iff, Bool.not_eq_false', Int.not_lt, Int.not_le, ne_eq, Decidable.not_not, Option.isSome_iff_ne_none, Option.isNone_iff_eq_none] at hc7
        obtain rfl := hfin (ns, cst (decide (0 < yes))) (by unfold fold1; rw [if_neg hc1, if_neg hc2, if_neg hc4, if_pos hc6, if_pos (by omega)])
        refine Tri.seq (Tri.region ?_)
        refine TOps.move rfl rfl ?_
        refine TOps.gtr rfl rfl rfl ?_
        refine TOps.call (vs := [_]) Try.call56 ⟨rfl, trivial⟩ (constant_g _) rfl ?_
        rintro _ _ ⟨rfl, rfl⟩
        refine TOps.assign rfl rfl ?_
        refine TOps.next ?_
        refine Tri.ret1 (H' := bld 61 54 bb v ns t s HB) Try.results49 (fun _ _ h => h) (.tmp rfl) (Le.drop (bld_mono (List.sublist_cons_self _ _))) ⟨s, by simp, hs, rfl⟩
      try simp only [decide_eq_true_eq, decide_eq_false_iff_not, Bool.and_eq_true, Bool.or_eq_true, Bool.not_eq_true', Bool.and_eq_false_iff, Bool.or_eq_false_iff, Bool.not_eq_false', Int.not_lt, Int.not_le, ne_eq, Decidable.not_not, Option.isSome_iff_ne_none, Option.isNone_iff_eq_none] at hc7
      have hmp : d.kind ≠ 0 ∧ d.kind ≠ 1 ∧ d.kind ≠ 5 ∧ rest.length ≠ 0 ∧ fold1 v d rest yes no ns = foldG v d rest yes ns := ⟨hc1, hc2, by omega, by omega, by unfold fold1; rw [if_neg hc1, if_neg hc2, if_neg hc4, if_pos hc6, if_neg (by omega)]⟩
      refine Tri.fin ?_
      refine Nrm.unB ?_
      refine Nrm.mid () hmp (by exact ⟨rfl, rfl, rfl, rfl, trivial⟩) (by repeat (first | exact Le.refl _ | assumption | apply Le.drop))
    try simp only [decide_eq_true_eq, decide_eq_false_iff_not, Bool.and_eq_true, Bool.or_eq_true, Bool.not_eq_true', Bool.and_eq_false_iff, Bool.or_eq_false_iff, Bool.not_eq_false', Int.not_lt, Int.not_le, ne_eq, Decidable.not_not, Option.isSome_iff_ne_none, Option.isNone_iff_eq_none] at hc6
    refine Tri.seq (Tri.region ?_)
    refine TOps.eqlI rfl rfl rfl ?_
    refine TOps.assign rfl rfl ?_
    refine TOps.next ?_
    refine Tri.cond rfl (fun hc8 => ?_) (fun hc8 => ?_)
    · try simp only [decide_eq_true_eq, decide_eq_false_iff_not, Bool.and_eq_true, Bool.or_eq_true, Bool.not_eq_true', Bool.and_eq_false_iff, Bool.or_eq_false_iff, Bool.not_eq_false', Int.not_lt, Int.not_le, ne_eq, Decidable.not_not, Option.isSome_iff_ne_none, Option.isNone_iff_eq_none] at hc8
      have hk4' := hk4 hc8
      refine Tri.seq (Tri.region ?_)
      first | refine TOps.fieldB 1 rfl Try.underlying54 rfl rfl ti3 rfl rfl rfl ?_ | refine TOps.fieldN 1 rfl Try.underlying54 rfl rfl ti3 rfl rfl rfl ?_
      refine TOps.load1 rfl ti3 (Rd.fld (r6.le (Le.drop bld_le)) 1 rfl) rfl ?_
      refine TOps.move rfl rfl ?_
      refine TOps.sub rfl rfl (wrapI (by omega) (by omega)) rfl ?_
      refine TOps.assign rfl rfl ?_
      refine TOps.next ?_
      refine Tri.seq (Tri.region ?_)
      refine TOps.move rfl rfl ?_
      refine TOps.leq rfl rfl rfl ?_
      refine TOps.move rfl rfl ?_
      refine' TOps.orB 4 rfl rfl rfl rfl (fun hg16_2 => ?_) ?_; rotate_left
      · have hg16_2' := hg16_2
        try simp only [decide_eq_true_eq, decide_eq_false_iff_not, Bool.and_eq_true, Bool.or_eq_true, Bool.not_eq_true', Bool.and_eq_false_iff, Bool.or_eq_false_iff, Bool.not_eq_false', Int.not_lt, Int.not_le, ne_eq, Decidable.not_not] at hg16_2'
        refine TOps.strip 2 false rfl rfl hg16_2 rfl ?_
        refine TOps.move rfl rfl ?_
        refine TOps.move rfl rfl ?_
        refine TOps.len rfl Try.underlying52 rfl ?_
        refine TOps.gtr rfl rfl rfl ?_
        refine TOps.blk rfl (by repeat (first | exact Ext.refl _ | refine Ext.cons rfl ?_)) (by repeat (first | exact Le.refl _ | apply Le.drop))
      refine TOps.next ?_
      refine Tri.cond rfl (fun hc9 => ?_) (fun hc9 => ?_)
      · try simp only [decide_eq_true_eq, decide_eq_false_iff_not, Bool.and_eq_true, Bool.or_eq_true, Bool.not_eq_true', Bool.and_eq_false_iff, Bool.or_eq_false_iff, Bool.not_eq_false', Int.not_lt, Int.not_le, ne_eq, Decidable.not_not, Option.isSome_iff_ne_none, Option.isNone_iff_eq_none] at hc9
        obtain rfl := hfin (ns, cst (decide (d.k - yes ≤ 0))) (by unfold fold1; rw [if_neg hc1, if_neg hc2, if_neg hc4, if_neg hc6, if_pos hc8, if_pos (by omega)])
        refine Tri.seq (Tri.region ?_)
        refine TOps.move rfl rfl ?_
        refine TOps.leq rfl rfl rfl ?_
        refine TOps.call (vs := [_]) Try.call56 ⟨rfl, trivial⟩ (constant_g _) rfl ?_
        rintro _ _ ⟨rfl, rfl⟩
        refine TOps.assign rfl rfl ?_
        refine TOps.next ?_
        refine Tri.ret1 (H' := bld 61 54 bb v ns t s HB) Try.results49 (fun _ _ h => h) (.tmp rfl) (Le.drop (bld_mono (List.sublist_cons_self _ _))) ⟨s, by simp, hs, rfl⟩
      try simp only [decide_eq_true_eq, decide_eq_false_iff_not, Bool.and_eq_true, Bool.or_eq_true, Bool.not_eq_true', Bool.and_eq_false_iff, Bool.or_eq_false_iff, Bool.not_eq_false', Int.not_lt, Int.not_le, ne_eq, Decidable.not_not, Option.isSome_iff_ne_none, Option.isNone_iff_eq_none] at hc9
      have hmp : d.kind ≠ 0 ∧ d.kind ≠ 1 ∧ d.kind ≠ 5 ∧ rest.length ≠ 0 ∧ fold1 v d rest yes no ns = foldG v d rest yes ns := ⟨hc1, hc2, by omega, by omega, by unfold fold1; rw [if_neg hc1, if_neg hc2, if_neg hc4, if_neg hc6, if_pos hc8, if_neg (by omega)]⟩
      refine Tri.fin ?_
      refine Nrm.unB ?_
      refine Nrm.mid () hmp (by exact ⟨rfl, rfl, rfl, rfl, trivial⟩) (by repeat (first | exact Le.refl _ | assumption | apply Le.drop))
    try simp only [decide_eq_true_eq, decide_eq_false_iff_not, Bool.and_eq_true, Bool.or_eq_true, Bool.not_eq_true', Bool.and_eq_false_iff, Bool.or_eq_false_iff, Bool.not_eq_false', Int.not_lt, Int.not_le, ne_eq, Decidable.not_not, Option.isSome_iff_ne_none, Option.isNone_iff_eq_none] at hc8
    refine Tri.seq (Tri.region ?_)
    refine TOps.eqlI rfl rfl rfl ?_
    refine TOps.assign rfl rfl ?_
    refine TOps.next ?_
    refine Tri.cond rfl (fun hc10 => ?_) (fun hc10 => ?_)
    · try simp only [decide_eq_true_eq, decide_eq_false_iff_not, Bool.and_eq_true, Bool.or_eq_true, Bool.not_eq_true', Bool.and_eq_false_iff, Bool.or_eq_false_iff, Bool.not_eq_false', Int.not_lt, Int.not_le, ne_eq, Decidable.not_not, Option.isSome_iff_ne_none, Option.isNone_iff_eq_none] at hc10
      have hF5 : fold1 v d rest yes no ns = if rest.length = 0 then (ns, cst (decide (yes % 2 = 1))) else foldX v rest yes ns := by unfold fold1; rw [if_neg hc1, if_neg hc2, if_neg hc4, if_neg hc6, if_neg hc8]
      refine Tri.seq ?_
      refine Tri.seq (Tri.region ?_)
      refine TOps.move rfl rfl ?_
      refine TOps.len rfl Try.underlying52 rfl ?_
      refine TOps.eqlI rfl rfl rfl ?_
      refine TOps.next ?_
      refine Tri.cond rfl (fun hc11 => ?_) (fun hc11 => ?_)
      · try simp only [decide_eq_true_eq, decide_eq_false_iff_not, Bool.and_eq_true, Bool.or_eq_true, Bool.not_eq_true', Bool.and_eq_false_iff, Bool.or_eq_false_iff, Bool.not_eq_false', Int.not_lt, Int.not_le, ne_eq, Decidable.not_not, Option.isSome_iff_ne_none, Option.isNone_iff_eq_none] at hc11
        obtain rfl := hfin (ns, cst (decide (yes % 2 = 1))) (by rw [hF5, if_pos (by omega)])
        refine Tri.seq (Tri.region ?_)
        refine TOps.move rfl rfl ?_
        refine TOps.rem (r := ((yes % 2 : Nat) : Int)) rfl rfl (by omega) rfl rfl ?_
        refine TOps.eqlI rfl rfl rfl ?_
        refine TOps.call (vs := [_]) Try.call56 ⟨rfl, trivial⟩ (constant_g _) rfl ?_
        rintro _ _ ⟨rfl, rfl⟩
        refine TOps.assign rfl rfl ?_
        refine TOps.next ?_
        refine Tri.ret1 (H' := bld 61 54 bb v ns t s HB) Try.results49 (fun _ _ h => h) (.tmp rfl) (Le.drop (bld_mono (List.sublist_cons_self _ _))) ⟨s, by refine congrArg (fun b => Value.int .i64 (cst b)) ?_; exact decide_eq_decide.2 (by omega), hs, rfl⟩
      try simp only [decide_eq_true_eq, decide_eq_false_iff_not, Bool.and_eq_true, Bool.or_eq_true, Bool.not_eq_true', Bool.and_eq_false_iff, Bool.or_eq_false_iff, Bool.not_eq_false', Int.not_lt, Int.not_le, ne_eq, Decidable.not_not, Option.isSome_iff_ne_none, Option.isNone_iff_eq_none] at hc11
      rw [if_neg (by omega)] at hF5
      obtain ⟨rb, rfl⟩ := hra (by intro h0; rw [h0] at hc11; simp at hc11)
      have hx0 := ints_get (l := rest) (i := 0) (by omega)
      refine Tri.fin ?_
      refine Nrm.next ?_
      refine Tri.seq (Tri.region ?_)
      refine TOps.move rfl rfl ?_
      refine TOps.indexAddr (off' := 0) rfl rfl Try.underlying52 ti3 (by omega) (by omega) (by simp) rfl ?_
      refine TOps.load1 rfl ti3 (Rd.lit (List.Mem.head _) hx0) rfl ?_
      refine TOps.assign rfl rfl ?_
      obtain ⟨SS, hSS⟩ : ∃ SS : List Nd × Int, SS = if 1 < rest.length then (ns ++ [⟨5, 0, rest⟩], v + (ns.length : Int)) else (ns, rest.getD 0 0) := ⟨_, rfl⟩
      have hfx : foldX v rest yes ns = if yes % 2 = 1 then (SS.1 ++ [⟨1, 0, [SS.2]⟩], v + SS.1.length) else SS := by unfold foldX; rw [← hSS]
      have hSSl : SS.1.length ≤ ns.length + 1 := by rw [hSS]; split <;> simp
      refine TOps.next ?_
      refine Tri.seqMid (X := BS) (fun y => [(0, .pointer (some ⟨bb, 0, none⟩)), (3, .int .i64 yes), (12, .int .i64 SS.2)]) (fun y => bld 61 54 bb v SS.1 t y (row (some b6) 54 3 1 [.int .i64 d.kind, .int .i64 d.k, slV da do_ dn dc dsp] :: HB)) (fun y => y.ok SS.1) ?_ (fun y hmid => ?_)
      · skip
        refine Tri.seq (Tri.region ?_)
        refine TOps.move rfl rfl ?_
        refine TOps.len rfl Try.underlying52 rfl ?_
        refine TOps.gtr rfl rfl rfl ?_
        refine TOps.next ?_
        refine Tri.cond rfl (fun hc12 => ?_) (fun hc12 => ?_)
        · try simp only [decide_eq_true_eq, decide_eq_false_iff_not, Bool.and_eq_true, Bool.or_eq_true, Bool.not_eq_true', Bool.and_eq_false_iff, Bool.or_eq_false_iff, Bool.not_eq_false', Int.not_lt, Int.not_le, ne_eq, Decidable.not_not, Option.isSome_iff_ne_none, Option.isNone_iff_eq_none] at hc12
          obtain rfl : SS = (ns ++ [⟨5, 0, rest⟩], v + (ns.length : Int)) := by rw [hSS, if_pos (by omega)]
          refine Tri.region ?_
          refine TOps.move rfl rfl ?_
          refine TOps.move rfl rfl ?_
          refine TOps.call (vs := [_, _, _, _]) Try.call30 ⟨rfl, rfl, rfl, rfl, trivial⟩ (add1_g hs rfl hv (by omega) rfl (fun _ => ⟨rb, rfl⟩) 5 0) rfl ?_
          rintro _ _ ⟨s1, rfl, hs1, rfl⟩
          refine TOps.assign rfl rfl ?_
          refine TOps.fin ?_
          refine Nrm.mid s1 hs1 (by exact ⟨rfl, rfl, rfl, trivial⟩) (by first | exact Le.refl _ | exact Le.drop (Le.refl _))
        try simp only [decide_eq_true_eq, decide_eq_false_iff_not, Bool.and_eq_true, Bool.or_eq_true, Bool.not_eq_true', Bool.and_eq_false_iff, Bool.or_eq_false_iff, Bool.not_eq_false', Int.not_lt, Int.not_le, ne_eq, Decidable.not_not, Option.isSome_iff_ne_none, Option.isNone_iff_eq_none] at hc12
        obtain rfl : SS = (ns, rest.getD 0 0) := by rw [hSS, if_neg (by omega)]
        obtain ⟨s1, hs1e⟩ : ∃ s1, s = s1 := ⟨_, rfl⟩
        rw [hs1e] at hs ⊢
        have hs1 := hs
        refine Tri.fin ?_
        refine Nrm.mid s1 hs1 (by exact ⟨rfl, rfl, rfl, trivial⟩) (by first | exact Le.refl _ | exact Le.drop (Le.refl _))
      refine Tri.seq ?_
      refine Tri.seq (Tri.region ?_)
      refine TOps.move rfl rfl ?_
      refine TOps.rem (r := ((yes % 2 : Nat) : Int)) rfl rfl (by omega) rfl rfl ?_
      refine TOps.eqlI rfl rfl rfl ?_
      refine TOps.next ?_
      refine Tri.cond rfl (fun hc13 => ?_) (fun hc13 => ?_)
      · try simp only [decide_eq_true_eq, decide_eq_false_iff_not, Bool.and_eq_true, Bool.or_eq_true, Bool.not_eq_true', Bool.and_eq_false_iff, Bool.or_eq_false_iff, Bool.not_eq_false', Int.not_lt, Int.not_le, ne_eq, Decidable.not_not, Option.isSome_iff_ne_none, Option.isNone_iff_eq_none] at hc13
        obtain rfl := hfin (SS.1 ++ [⟨1, 0, [SS.2]⟩], v + SS.1.length) (by rw [hF5, hfx, if_pos (by omega)])
        refine Tri.region ?_
        refine TOps.move rfl rfl ?_
        refine TOps.move rfl rfl ?_
        refine TOps.buildSlice (vs := [_]) (xs := [_]) Try.underlying52 ti3 ⟨rfl, rfl, trivial⟩ rfl rfl rfl rfl rfl rfl (by decide) rfl (fun b96 => ?_)
        refine TOps.call (vs := [_, _, _, _]) Try.call30 ⟨rfl, rfl, rfl, rfl, trivial⟩ (add1_g (args := [SS.2]) hmid rfl hv (by omega) rfl (fun _ => ⟨_, rfl⟩) 1 0) rfl ?_
        rintro _ _ ⟨s', rfl, hs', rfl⟩
        refine TOps.assign rfl rfl ?_
        refine TOps.fin ?_
        refine Nrm.next ?_
        refine Tri.seq (Tri.region ?_)
        refine TOps.move rfl rfl ?_
        refine TOps.assign rfl rfl ?_
        refine TOps.next ?_
        refine Tri.ret1 (H' := bld 61 54 bb v _ t s' HB) Try.results49 (fun _ _ h => h) (.tmp rfl) (bld_mono (List.sublist_cons_self _ _)) ⟨s', rfl, hs', rfl⟩
      try simp only [decide_eq_true_eq, decide_eq_false_iff_not, Bool.and_eq_true, Bool.or_eq_true, Bool.not_eq_true', Bool.and_eq_false_iff, Bool.or_eq_false_iff, Bool.not_eq_false', Int.not_lt, Int.not_le, ne_eq, Decidable.not_not, Option.isSome_iff_ne_none, Option.isNone_iff_eq_none] at hc13
      obtain rfl := hfin SS (by rw [hF5, hfx, if_neg (by omega)])
      refine Tri.fin ?_
      refine Nrm.next ?_
      refine Tri.seq (Tri.region ?_)
      refine TOps.move rfl rfl ?_
      refine TOps.assign rfl rfl ?_
      refine TOps.next ?_
      refine Tri.ret1 (H' := bld 61 54 bb v _ t y HB) Try.results49 (fun _ _ h => h) (.tmp rfl) (bld_mono (List.sublist_cons_self _ _)) ⟨y, rfl, hmid, rfl⟩
    try simp only [decide_eq_true_eq, decide_eq_false_iff_not, Bool.and_eq_true, Bool.or_eq_true, Bool.not_eq_true', Bool.and_eq_false_iff, Bool.or_eq_false_iff, Bool.not_eq_false', Int.not_lt, Int.not_le, ne_eq, Decidable.not_not, Option.isSome_iff_ne_none, Option.isNone_iff_eq_none] at hc10
    have hmp : d.kind ≠ 0 ∧ d.kind ≠ 1 ∧ d.kind ≠ 5 ∧ rest.length ≠ 0 ∧ fold1 v d rest yes no ns = foldG v d rest yes ns := by exfalso; omega
    refine Tri.fin ?_
    refine Nrm.unB ?_
    refine Nrm.mid () hmp (by exact ⟨rfl, rfl, rfl, rfl, trivial⟩) (by repeat (first | exact Le.refl _ | assumption | apply Le.drop))
  refine Tri.seq ?_
  refine Tri.seq (Tri.region ?_)
  refine TOps.move rfl rfl ?_
  refine TOps.len rfl Try.underlying52 rfl ?_
  refine TOps.eqlI rfl rfl rfl ?_
  obtain ⟨m0, m1, m5, mr, hfg⟩ := hmid
  refine TOps.next ?_
  refine Tri.cond rfl (fun hc14 => ?_) (fun hc14 => ?_)
  · try simp only [decide_eq_true_eq, decide_eq_false_iff_not, Bool.and_eq_true, Bool.or_eq_true, Bool.not_eq_true', Bool.and_eq_false_iff, Bool.or_eq_false_iff, Bool.not_eq_false', Int.not_lt, Int.not_le, ne_eq, Decidable.not_not, Option.isSome_iff_ne_none, Option.isNone_iff_eq_none] at hc14
    obtain rfl := hfin (ns, rest.getD 0 0) (by rw [hfg]; unfold foldG; rw [if_pos (by omega)])
    obtain ⟨rb, rfl⟩ := hra (by intro h0; rw [h0] at mr; simp at mr)
    have hx0 := ints_get (l := rest) (i := 0) (by omega)
    refine Tri.seq (Tri.region ?_)
    refine TOps.move rfl rfl ?_
    refine TOps.indexAddr (off' := 0) rfl rfl Try.underlying52 ti3 (by omega) (by omega) (by simp) rfl ?_
    refine TOps.load1 rfl ti3 (Rd.lit (List.Mem.head _) hx0) rfl ?_
    refine TOps.assign rfl rfl ?_
    refine TOps.next ?_
    refine Tri.ret1 (H' := bld 61 54 bb v ns t s HB) Try.results49 (fun _ _ h => h) (.tmp rfl) (Le.drop (bld_mono (List.sublist_cons_self _ _))) ⟨s, rfl, hs, rfl⟩
  try simp only [decide_eq_true_eq, decide_eq_false_iff_not, Bool.and_eq_true, Bool.or_eq_true, Bool.not_eq_true', Bool.and_eq_false_iff, Bool.or_eq_false_iff, Bool.not_eq_false', Int.not_lt, Int.not_le, ne_eq, Decidable.not_not, Option.isSome_iff_ne_none, Option.isNone_iff_eq_none] at hc14
  refine Tri.fin ?_
  refine Nrm.next ?_
  refine Tri.seq ?_
  refine Tri.seq (Tri.region ?_)
  refine TOps.field0 rfl Try.underlying54 rfl rfl ti3 rfl rfl rfl ?_
  refine TOps.load1 rfl ti3 (Rd.fld (r6.le (Le.drop bld_le)) 0 rfl) rfl ?_
  refine TOps.eqlI rfl rfl rfl ?_
  refine TOps.next ?_
  refine Tri.cond rfl (fun hc15 => ?_) (fun hc15 => ?_)
  · try simp only [decide_eq_true_eq, decide_eq_false_iff_not, Bool.and_eq_true, Bool.or_eq_true, Bool.not_eq_true', Bool.and_eq_false_iff, Bool.or_eq_false_iff, Bool.not_eq_false', Int.not_lt, Int.not_le, ne_eq, Decidable.not_not, Option.isSome_iff_ne_none, Option.isNone_iff_eq_none] at hc15
    obtain rfl := hfin (ns ++ [⟨4, d.k - yes, rest⟩], v + ns.length) (by rw [hfg]; unfold foldG; rw [if_neg (by omega), if_pos hc15])
    have hk4' := hk4 hc15
    refine Tri.seq (Tri.region ?_)
    refine TOps.move rfl rfl ?_
    first | refine TOps.fieldB 1 rfl Try.underlying54 rfl rfl ti3 rfl rfl rfl ?_ | refine TOps.fieldN 1 rfl Try.underlying54 rfl rfl ti3 rfl rfl rfl ?_
    refine TOps.load1 rfl ti3 (Rd.fld (r6.le (Le.drop bld_le)) 1 rfl) rfl ?_
    refine TOps.move rfl rfl ?_
    refine TOps.sub rfl rfl (wrapI (by omega) (by omega)) rfl ?_
    refine TOps.move rfl rfl ?_
    refine TOps.call (vs := [_, _, _, _]) Try.call30 ⟨rfl, rfl, rfl, rfl, trivial⟩ (add1_g hs rfl hv (by omega) rfl hra 4 _) rfl ?_
    rintro _ _ ⟨s', rfl, hs', rfl⟩
    refine TOps.assign rfl rfl ?_
    refine TOps.next ?_
    refine Tri.ret1 (H' := bld 61 54 bb v _ t s' HB) Try.results49 (fun _ _ h => h) (.tmp rfl) (bld_mono (List.sublist_cons_self _ _)) ⟨s', rfl, hs', rfl⟩
  try simp only [decide_eq_true_eq, decide_eq_false_iff_not, Bool.and_eq_true, Bool.or_eq_true, Bool.not_eq_true', Bool.and_eq_false_iff, Bool.or_eq_false_iff, Bool.not_eq_false', Int.not_lt, Int.not_le, ne_eq, Decidable.not_not, Option.isSome_iff_ne_none, Option.isNone_iff_eq_none] at hc15
  obtain rfl := hfin (ns ++ [⟨d.kind, 0, rest⟩], v + ns.length) (by rw [hfg]; unfold foldG; rw [if_neg (by omega), if_neg hc15])
  refine Tri.fin ?_
  refine Nrm.next ?_
  refine Tri.seq (Tri.region ?_)
  refine TOps.move rfl rfl ?_
  refine TOps.field0 rfl Try.underlying54 rfl rfl ti3 rfl rfl rfl ?_
  refine TOps.load1 rfl ti3 (Rd.fld (r6.le (Le.drop bld_le)) 0 rfl) rfl ?_
  refine TOps.move rfl rfl ?_
  refine TOps.call (vs := [_, _, _, _]) Try.call30 ⟨rfl, rfl, rfl, rfl, trivial⟩ (add1_g hs rfl hv (by omega) rfl hra d.kind 0) rfl ?_
  rintro _ _ ⟨s', rfl, hs', rfl⟩
  refine TOps.assign rfl rfl ?_
  refine TOps.next ?_
  refine Tri.ret1 (H' := bld 61 54 bb v _ t s' HB) Try.results49 (fun _ _ h => h) (.tmp rfl) (bld_mono (List.sublist_cons_self _ _)) ⟨s', rfl, hs', rfl⟩
end Go.Proofs
