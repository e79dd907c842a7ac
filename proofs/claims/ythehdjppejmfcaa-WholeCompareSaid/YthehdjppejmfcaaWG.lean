import Derived.Test.YthehdjppejmfcaaWE
import Derived.Test.YthehdjppejmfcaaWB
import Derived.Test.YthehdjppejmfcaaWF
import Derived.Test.YthehdjppejmfcaaWC
namespace Go.Proofs
open Go.GL
set_option linter.unusedVariables false
set_option linter.unusedSimpArgs false
theorem level_g {H : List Ent} (y n : Bool) : Gives Try.prog 83 [.bool y, .bool n] H (R1 (.int .i64 (lev y n : Nat)) H) := by
  refine Gives.enter Try.func83 rfl (by exact Try.ntmps83) rfl ?_
  refine Tri.seq (Tri.region ?_)
  refine TOps.assign rfl rfl ?_
  refine TOps.next ?_
  refine Tri.seq ?_
  refine Tri.block ?_
  refine Tri.seq (Tri.region ?_)
  refine TOps.move rfl rfl ?_
  refine TOps.assign rfl rfl ?_
  refine TOps.next ?_
  refine Tri.cond rfl (fun hc1 => ?_) (fun hc1 => ?_)
  · try simp only [decide_eq_true_eq, decide_eq_false_iff_not, Bool.and_eq_true, Bool.or_eq_true, Bool.not_eq_true', Bool.and_eq_false_iff, Bool.or_eq_false_iff, Bool.not_eq_false', Int.not_lt, Int.not_le, ne_eq, Decidable.not_not, Option.isSome_iff_ne_none, Option.isNone_iff_eq_none] at hc1
    refine Tri.seq (Tri.region ?_)
    refine TOps.assign rfl rfl ?_
    refine TOps.next ?_
    refine Tri.ret1 (H' := H) Try.results83 (fun _ _ h => h) (.tmp rfl) (Le.refl _) ⟨by (try rw [hc1]); (try rw [hc2]); rfl, rfl⟩
  try simp only [decide_eq_true_eq, decide_eq_false_iff_not, Bool.and_eq_true, Bool.or_eq_true, Bool.not_eq_true', Bool.and_eq_false_iff, Bool.or_eq_false_iff, Bool.not_eq_false', Int.not_lt, Int.not_le, ne_eq, Decidable.not_not, Option.isSome_iff_ne_none, Option.isNone_iff_eq_none] at hc1
  refine Tri.seq (Tri.region ?_)
  refine TOps.move rfl rfl ?_
  refine TOps.assign rfl rfl ?_
  refine TOps.next ?_
  refine Tri.cond rfl (fun hc2 => ?_) (fun hc2 => ?_)
  · try simp only [decide_eq_true_eq, decide_eq_false_iff_not, Bool.and_eq_true, Bool.or_eq_true, Bool.not_eq_true', Bool.and_eq_false_iff, Bool.or_eq_false_iff, Bool.not_eq_false', Int.not_lt, Int.not_le, ne_eq, Decidable.not_not, Option.isSome_iff_ne_none, Option.isNone_iff_eq_none] at hc2
    refine Tri.seq (Tri.region ?_)
    refine TOps.assign rfl rfl ?_
    refine TOps.next ?_
    refine Tri.ret1 (H' := H) Try.results83 (fun _ _ h => h) (.tmp rfl) (Le.refl _) ⟨by (try rw [hc1]); (try rw [hc2]); rfl, rfl⟩
  try simp only [decide_eq_true_eq, decide_eq_false_iff_not, Bool.and_eq_true, Bool.or_eq_true, Bool.not_eq_true', Bool.and_eq_false_iff, Bool.or_eq_false_iff, Bool.not_eq_false', Int.not_lt, Int.not_le, ne_eq, Decidable.not_not, Option.isSome_iff_ne_none, Option.isNone_iff_eq_none] at hc2
  refine Tri.fin ?_
  refine Nrm.unB ?_
  refine Nrm.next ?_
  refine Tri.seq (Tri.region ?_)
  refine TOps.assign rfl rfl ?_
  refine TOps.next ?_
  refine Tri.ret1 (H' := H) Try.results83 (fun _ _ h => h) (.tmp rfl) (Le.refl _) ⟨by (try rw [hc1]); (try rw [hc2]); rfl, rfl⟩
theorem tnode_g {H : List Ent} (d : Nd) {m : Int} (hd : d.Fits m) (a sp : Option Nat) (o cap : Nat) (n0 n1 n2 : Nat) (h0 : n0 ≤ 16) (h1 : n1 ≤ 16) (h2 : n2 ≤ 16) :
    Gives Try.prog 84 [.agg (List.toArray [.int .i64 d.kind, .int .i64 d.k, slV a o d.args.length cap sp]), .agg (List.toArray [.int .i64 n0, .int .i64 n1, .int .i64 n2])] H (R1 (.int .i64 (tnode d n0 n1 n2 : Nat)) H) := by
  have hkk := hd.kk.1; have q0 := hd.k0; have q5 := hd.k1
  refine Gives.enter Try.func84 rfl (by exact Try.ntmps84) rfl ?_
  refine Tri.seq (Tri.region ?_)
  refine TOps.boxN rfl ti102 rfl rfl (fun b2 => ?_)
  refine TOps.boxN rfl ti148 rfl rfl (fun b3 => ?_)
  refine TOps.assign rfl rfl ?_
  refine TOps.next ?_
  refine Tri.seq ?_
  refine Tri.seq (Tri.region ?_)
  refine TOps.field0 rfl Try.underlying102 rfl rfl ti3 rfl rfl rfl ?_
  refine TOps.load1 rfl ti3 (by first | exact Rd.lit (by repeat (first | exact List.Mem.head _ | apply List.Mem.tail)) rfl | (repeat (first | assumption | exact Rd.fld (by assumption) 0 rfl | apply Rd.up))) rfl ?_
  refine TOps.next ?_
  refine Tri.block ?_
  refine Tri.seq (Tri.region ?_)
  refine TOps.eqlI rfl rfl rfl ?_
  refine TOps.assign rfl rfl ?_
  refine TOps.next ?_
  refine Tri.cond rfl (fun hc1 => ?_) (fun hc1 => ?_)
  · try simp only [decide_eq_true_eq, decide_eq_false_iff_not, Bool.and_eq_true, Bool.or_eq_true, Bool.not_eq_true', Bool.and_eq_false_iff, Bool.or_eq_false_iff, Bool.not_eq_false', Int.not_lt, Int.not_le, ne_eq, Decidable.not_not, Option.isSome_iff_ne_none, Option.isNone_iff_eq_none] at hc1
    refine Tri.seq (Tri.region ?_)
    first | refine TOps.fieldB 1 rfl Try.underlying102 rfl rfl ti3 rfl rfl rfl ?_ | refine TOps.fieldN 1 rfl Try.underlying102 rfl rfl ti3 rfl rfl rfl ?_
    refine TOps.load1 rfl ti3 (by first | exact Rd.lit (by repeat (first | exact List.Mem.head _ | apply List.Mem.tail)) rfl | (repeat (first | assumption | exact Rd.fld (by assumption) 1 rfl | apply Rd.up))) rfl ?_
    refine TOps.assign rfl rfl ?_
    refine TOps.next ?_
    refine Tri.ret1 (H' := H) Try.results84 (fun _ _ h => h) (.tmp rfl) (Le.drop (Le.drop (Le.refl _))) ⟨by unfold tnode; rw [if_pos hc1]; have := hkk hc1; rw [show ((d.k.toNat : Nat) : Int) = d.k by omega], rfl⟩
  try simp only [decide_eq_true_eq, decide_eq_false_iff_not, Bool.and_eq_true, Bool.or_eq_true, Bool.not_eq_true', Bool.and_eq_false_iff, Bool.or_eq_false_iff, Bool.not_eq_false', Int.not_lt, Int.not_le, ne_eq, Decidable.not_not, Option.isSome_iff_ne_none, Option.isNone_iff_eq_none] at hc1
  refine Tri.seq (Tri.region ?_)
  refine TOps.eqlI rfl rfl rfl ?_
  refine TOps.assign rfl rfl ?_
  refine TOps.next ?_
  refine Tri.cond rfl (fun hc2 => ?_) (fun hc2 => ?_)
  · try simp only [decide_eq_true_eq, decide_eq_false_iff_not, Bool.and_eq_true, Bool.or_eq_true, Bool.not_eq_true', Bool.and_eq_false_iff, Bool.or_eq_false_iff, Bool.not_eq_false', Int.not_lt, Int.not_le, ne_eq, Decidable.not_not, Option.isSome_iff_ne_none, Option.isNone_iff_eq_none] at hc2
    refine Tri.seq (Tri.region ?_)
    refine TOps.indexAddrA rfl rfl Try.underlying148 ti3 (by omega) (by omega) rfl rfl ?_
    refine TOps.load1 rfl ti3 (by first | exact Rd.lit (by repeat (first | exact List.Mem.head _ | apply List.Mem.tail)) rfl | (repeat (first | assumption | apply Rd.up))) rfl ?_
    refine TOps.eqlI rfl rfl rfl ?_
    refine TOps.indexAddrA rfl rfl Try.underlying148 ti3 (by omega) (by omega) rfl rfl ?_
    refine TOps.load1 rfl ti3 (by first | exact Rd.lit (by repeat (first | exact List.Mem.head _ | apply List.Mem.tail)) rfl | (repeat (first | assumption | apply Rd.up))) rfl ?_
    refine TOps.eqlI rfl rfl rfl ?_
    refine TOps.call (vs := [_, _]) Try.call83 ⟨rfl, rfl, trivial⟩ (level_g _ _) rfl ?_
    rintro _ _ ⟨rfl, rfl⟩
    refine TOps.assign rfl rfl ?_
    refine TOps.next ?_
    refine Tri.ret1 (H' := H) Try.results84 (fun _ _ h => h) (.tmp rfl) (Le.drop (Le.drop (Le.refl _))) ⟨by unfold tnode; rw [if_neg hc1, if_pos hc2], rfl⟩
  try simp only [decide_eq_true_eq, decide_eq_false_iff_not, Bool.and_eq_true, Bool.or_eq_true, Bool.not_eq_true', Bool.and_eq_false_iff, Bool.or_eq_false_iff, Bool.not_eq_false', Int.not_lt, Int.not_le, ne_eq, Decidable.not_not, Option.isSome_iff_ne_none, Option.isNone_iff_eq_none] at hc2
  refine Tri.seq (Tri.region ?_)
  refine TOps.eqlI rfl rfl rfl ?_
  refine TOps.assign rfl rfl ?_
  refine TOps.next ?_
  refine Tri.cond rfl (fun hc3 => ?_) (fun hc3 => ?_)
  · try simp only [decide_eq_true_eq, decide_eq_false_iff_not, Bool.and_eq_true, Bool.or_eq_true, Bool.not_eq_true', Bool.and_eq_false_iff, Bool.or_eq_false_iff, Bool.not_eq_false', Int.not_lt, Int.not_le, ne_eq, Decidable.not_not, Option.isSome_iff_ne_none, Option.isNone_iff_eq_none] at hc3
    refine Tri.seq (Tri.region ?_)
    refine TOps.indexAddrA rfl rfl Try.underlying148 ti3 (by omega) (by omega) rfl rfl ?_
    refine TOps.load1 rfl ti3 (by first | exact Rd.lit (by repeat (first | exact List.Mem.head _ | apply List.Mem.tail)) rfl | (repeat (first | assumption | apply Rd.up))) rfl ?_
    first | refine TOps.fieldB 2 rfl Try.underlying102 rfl rfl ti53 rfl rfl rfl ?_ | refine TOps.fieldN 2 rfl Try.underlying102 rfl rfl ti53 rfl rfl rfl ?_
    refine TOps.load1 rfl ti53 (by first | exact Rd.lit (by repeat (first | exact List.Mem.head _ | apply List.Mem.tail)) rfl | (repeat (first | assumption | exact Rd.fld (by assumption) 2 rfl | apply Rd.up))) rfl ?_
    refine TOps.len rfl Try.underlying53 rfl ?_
    refine TOps.eqlI rfl rfl rfl ?_
    refine TOps.indexAddrA rfl rfl Try.underlying148 ti3 (by omega) (by omega) rfl rfl ?_
    refine TOps.load1 rfl ti3 (by first | exact Rd.lit (by repeat (first | exact List.Mem.head _ | apply List.Mem.tail)) rfl | (repeat (first | assumption | apply Rd.up))) rfl ?_
    refine TOps.gtr rfl rfl rfl ?_
    refine TOps.call (vs := [_, _]) Try.call83 ⟨rfl, rfl, trivial⟩ (level_g _ _) rfl ?_
    rintro _ _ ⟨rfl, rfl⟩
    refine TOps.assign rfl rfl ?_
    refine TOps.next ?_
    refine Tri.ret1 (H' := H) Try.results84 (fun _ _ h => h) (.tmp rfl) (Le.drop (Le.drop (Le.refl _))) ⟨by unfold tnode; rw [if_neg hc1, if_neg hc2, if_pos hc3], rfl⟩
  try simp only [decide_eq_true_eq, decide_eq_false_iff_not, Bool.and_eq_true, Bool.or_eq_true, Bool.not_eq_true', Bool.and_eq_false_iff, Bool.or_eq_false_iff, Bool.not_eq_false', Int.not_lt, Int.not_le, ne_eq, Decidable.not_not, Option.isSome_iff_ne_none, Option.isNone_iff_eq_none] at hc3
  refine Tri.seq (Tri.region ?_)
  refine TOps.eqlI rfl rfl rfl ?_
  refine TOps.assign rfl rfl ?_
  refine TOps.next ?_
  refine Tri.cond rfl (fun hc4 => ?_) (fun hc4 => ?_)
  · try simp only [decide_eq_true_eq, decide_eq_false_iff_not, Bool.and_eq_true, Bool.or_eq_true, Bool.not_eq_true', Bool.and_eq_false_iff, Bool.or_eq_false_iff, Bool.not_eq_false', Int.not_lt, Int.not_le, ne_eq, Decidable.not_not, Option.isSome_iff_ne_none, Option.isNone_iff_eq_none] at hc4
    refine Tri.seq (Tri.region ?_)
    refine TOps.indexAddrA rfl rfl Try.underlying148 ti3 (by omega) (by omega) rfl rfl ?_
    refine TOps.load1 rfl ti3 (by first | exact Rd.lit (by repeat (first | exact List.Mem.head _ | apply List.Mem.tail)) rfl | (repeat (first | assumption | apply Rd.up))) rfl ?_
    refine TOps.gtr rfl rfl rfl ?_
    refine TOps.indexAddrA rfl rfl Try.underlying148 ti3 (by omega) (by omega) rfl rfl ?_
    refine TOps.load1 rfl ti3 (by first | exact Rd.lit (by repeat (first | exact List.Mem.head _ | apply List.Mem.tail)) rfl | (repeat (first | assumption | apply Rd.up))) rfl ?_
    first | refine TOps.fieldB 2 rfl Try.underlying102 rfl rfl ti53 rfl rfl rfl ?_ | refine TOps.fieldN 2 rfl Try.underlying102 rfl rfl ti53 rfl rfl rfl ?_
    refine TOps.load1 rfl ti53 (by first | exact Rd.lit (by repeat (first | exact List.Mem.head _ | apply List.Mem.tail)) rfl | (repeat (first | assumption | exact Rd.fld (by assumption) 2 rfl | apply Rd.up))) rfl ?_
    refine TOps.len rfl Try.underlying53 rfl ?_
    refine TOps.eqlI rfl rfl rfl ?_
    refine TOps.call (vs := [_, _]) Try.call83 ⟨rfl, rfl, trivial⟩ (level_g _ _) rfl ?_
    rintro _ _ ⟨rfl, rfl⟩
    refine TOps.assign rfl rfl ?_
    refine TOps.next ?_
    refine Tri.ret1 (H' := H) Try.results84 (fun _ _ h => h) (.tmp rfl) (Le.drop (Le.drop (Le.refl _))) ⟨by unfold tnode; rw [if_neg hc1, if_neg hc2, if_neg hc3, if_pos hc4], rfl⟩
  try simp only [decide_eq_true_eq, decide_eq_false_iff_not, Bool.and_eq_true, Bool.or_eq_true, Bool.not_eq_true', Bool.and_eq_false_iff, Bool.or_eq_false_iff, Bool.not_eq_false', Int.not_lt, Int.not_le, ne_eq, Decidable.not_not, Option.isSome_iff_ne_none, Option.isNone_iff_eq_none] at hc4
  refine Tri.seq (Tri.region ?_)
  refine TOps.eqlI rfl rfl rfl ?_
  refine TOps.assign rfl rfl ?_
  refine TOps.next ?_
  refine Tri.cond rfl (fun hc5 => ?_) (fun hc5 => ?_)
  · try simp only [decide_eq_true_eq, decide_eq_false_iff_not, Bool.and_eq_true, Bool.or_eq_true, Bool.not_eq_true', Bool.and_eq_false_iff, Bool.or_eq_false_iff, Bool.not_eq_false', Int.not_lt, Int.not_le, ne_eq, Decidable.not_not, Option.isSome_iff_ne_none, Option.isNone_iff_eq_none] at hc5
    refine Tri.seq (Tri.region ?_)
    refine TOps.indexAddrA rfl rfl Try.underlying148 ti3 (by omega) (by omega) rfl rfl ?_
    refine TOps.load1 rfl ti3 (by first | exact Rd.lit (by repeat (first | exact List.Mem.head _ | apply List.Mem.tail)) rfl | (repeat (first | assumption | apply Rd.up))) rfl ?_
    first | refine TOps.fieldB 1 rfl Try.underlying102 rfl rfl ti3 rfl rfl rfl ?_ | refine TOps.fieldN 1 rfl Try.underlying102 rfl rfl ti3 rfl rfl rfl ?_
    refine TOps.load1 rfl ti3 (by first | exact Rd.lit (by repeat (first | exact List.Mem.head _ | apply List.Mem.tail)) rfl | (repeat (first | assumption | exact Rd.fld (by assumption) 1 rfl | apply Rd.up))) rfl ?_
    refine TOps.geq rfl rfl rfl ?_
    refine TOps.indexAddrA rfl rfl Try.underlying148 ti3 (by omega) (by omega) rfl rfl ?_
    refine TOps.load1 rfl ti3 (by first | exact Rd.lit (by repeat (first | exact List.Mem.head _ | apply List.Mem.tail)) rfl | (repeat (first | assumption | apply Rd.up))) rfl ?_
    refine TOps.indexAddrA rfl rfl Try.underlying148 ti3 (by omega) (by omega) rfl rfl ?_
    refine TOps.load1 rfl ti3 (by first | exact Rd.lit (by repeat (first | exact List.Mem.head _ | apply List.Mem.tail)) rfl | (repeat (first | assumption | apply Rd.up))) rfl ?_
    refine TOps.add rfl rfl (wrapI (by omega) (by omega)) rfl ?_
    first | refine TOps.fieldB 1 rfl Try.underlying102 rfl rfl ti3 rfl rfl rfl ?_ | refine TOps.fieldN 1 rfl Try.underlying102 rfl rfl ti3 rfl rfl rfl ?_
    refine TOps.load1 rfl ti3 (by first | exact Rd.lit (by repeat (first | exact List.Mem.head _ | apply List.Mem.tail)) rfl | (repeat (first | assumption | exact Rd.fld (by assumption) 1 rfl | apply Rd.up))) rfl ?_
    refine TOps.lss rfl rfl rfl ?_
    refine TOps.call (vs := [_, _]) Try.call83 ⟨rfl, rfl, trivial⟩ (level_g _ _) rfl ?_
    rintro _ _ ⟨rfl, rfl⟩
    refine TOps.assign rfl rfl ?_
    refine TOps.next ?_
    refine Tri.ret1 (H' := H) Try.results84 (fun _ _ h => h) (.tmp rfl) (Le.drop (Le.drop (Le.refl _))) ⟨by unfold tnode; rw [if_neg hc1, if_neg hc2, if_neg hc3, if_neg hc4, if_pos hc5], rfl⟩
  try simp only [decide_eq_true_eq, decide_eq_false_iff_not, Bool.and_eq_true, Bool.or_eq_true, Bool.not_eq_true', Bool.and_eq_false_iff, Bool.or_eq_false_iff, Bool.not_eq_false', Int.not_lt, Int.not_le, ne_eq, Decidable.not_not, Option.isSome_iff_ne_none, Option.isNone_iff_eq_none] at hc5
  refine Tri.fin ?_
  refine Nrm.unB ?_
  refine Nrm.next ?_
  refine Tri.seq (Tri.region ?_)
  refine TOps.indexAddrA rfl rfl Try.underlying148 ti3 (by omega) (by omega) rfl rfl ?_
  refine TOps.load1 rfl ti3 (by first | exact Rd.lit (by repeat (first | exact List.Mem.head _ | apply List.Mem.tail)) rfl | (repeat (first | assumption | apply Rd.up))) rfl ?_
  refine TOps.eqlI rfl rfl rfl ?_
  refine TOps.move rfl rfl ?_
  refine' TOps.andB 4 rfl rfl rfl rfl (fun hg12_3 => ?_) ?_; rotate_left
  · have hg12_3' := hg12_3
    try simp only [decide_eq_true_eq, decide_eq_false_iff_not, Bool.and_eq_true, Bool.or_eq_true, Bool.not_eq_true', Bool.and_eq_false_iff, Bool.or_eq_false_iff, Bool.not_eq_false', Int.not_lt, Int.not_le, ne_eq, Decidable.not_not] at hg12_3'
    refine TOps.strip 3 true rfl rfl hg12_3 rfl ?_
    refine TOps.indexAddrA rfl rfl Try.underlying148 ti3 (by omega) (by omega) rfl rfl ?_
    refine TOps.load1 rfl ti3 (by first | exact Rd.lit (by repeat (first | exact List.Mem.head _ | apply List.Mem.tail)) rfl | (repeat (first | assumption | apply Rd.up))) rfl ?_
    refine TOps.rem rfl rfl (by decide) rfl rfl ?_
    refine TOps.eqlI rfl rfl rfl ?_
    refine TOps.blk rfl (by repeat (first | exact Ext.refl _ | refine Ext.cons rfl ?_)) (by repeat (first | exact Le.refl _ | apply Le.drop))
  refine TOps.indexAddrA rfl rfl Try.underlying148 ti3 (by omega) (by omega) rfl rfl ?_
  refine TOps.load1 rfl ti3 (by first | exact Rd.lit (by repeat (first | exact List.Mem.head _ | apply List.Mem.tail)) rfl | (repeat (first | assumption | apply Rd.up))) rfl ?_
  refine TOps.eqlI rfl rfl rfl ?_
  refine TOps.move rfl rfl ?_
  refine' TOps.andB 4 rfl rfl rfl rfl (fun hg12_12 => ?_) ?_; rotate_left
  · have hg12_12' := hg12_12
    try simp only [decide_eq_true_eq, decide_eq_false_iff_not, Bool.and_eq_true, Bool.or_eq_true, Bool.not_eq_true', Bool.and_eq_false_iff, Bool.or_eq_false_iff, Bool.not_eq_false', Int.not_lt, Int.not_le, ne_eq, Decidable.not_not] at hg12_12'
    refine TOps.strip 12 true rfl rfl hg12_12 rfl ?_
    refine TOps.indexAddrA rfl rfl Try.underlying148 ti3 (by omega) (by omega) rfl rfl ?_
    refine TOps.load1 rfl ti3 (by first | exact Rd.lit (by repeat (first | exact List.Mem.head _ | apply List.Mem.tail)) rfl | (repeat (first | assumption | apply Rd.up))) rfl ?_
    refine TOps.rem rfl rfl (by decide) rfl rfl ?_
    refine TOps.eqlI rfl rfl rfl ?_
    refine TOps.blk rfl (by repeat (first | exact Ext.refl _ | refine Ext.cons rfl ?_)) (by repeat (first | exact Le.refl _ | apply Le.drop))
  refine TOps.call (vs := [_, _]) Try.call83 ⟨rfl, rfl, trivial⟩ (level_g _ _) rfl ?_
  rintro _ _ ⟨rfl, rfl⟩
  refine TOps.assign rfl rfl ?_
  refine TOps.next ?_
  refine Tri.ret1 (H' := H) Try.results84 (fun _ _ h => h) (.tmp rfl) (Le.drop (Le.drop (Le.refl _))) ⟨by unfold tnode; rw [if_neg hc1, if_neg hc2, if_neg hc3, if_neg hc4, if_neg hc5], rfl⟩
theorem tcheck_g {H : List Ent} {fv : Value} {F : Fm} (hF : RF H fv F) (hk : F.ok) (y n : Int) :
    Gives Try.prog 63 [fv, .agg (List.toArray [.int .i64 y, .int .i64 n])] H (R1 (errV 73 (F.cubeErr y n)) H) := by
  have hF0 := hF
  obtain ⟨a, off, cap, nsp, rfl, hN⟩ := hF
  refine Gives.enter Try.func63 rfl (by exact Try.ntmps63) rfl ?_
  refine Tri.seq (Tri.region ?_)
  refine TOps.boxN rfl ti24 rfl rfl (fun b2 => ?_)
  refine TOps.hide (fun H1 l1 s1 r1 => ?_)
  replace hF0 := hF0.le l1
  refine TOps.boxN rfl ti88 rfl rfl (fun b3 => ?_)
  refine TOps.hide (fun H2 l2 s2 r2 => ?_)
  replace hF0 := hF0.le l2; replace r1 := r1.le l2; have l3 := l2.trans l1
  refine TOps.assign rfl rfl ?_
  refine TOps.next ?_
  refine Tri.seq ?_
  refine Tri.seq (Tri.region ?_)
  refine TOps.loadN rfl ti24 (by first | exact Rd.all (by repeat (first | exact List.Mem.head _ | apply List.Mem.tail)) | (repeat (first | assumption | apply Rd.up))) rfl rfl ?_
  refine TOps.call (vs := [_]) Try.call30 ⟨rfl, trivial⟩ (check_g hF0 hk) rfl ?_
  rintro _ _ ⟨rfl, rfl⟩
  refine TOps.assign rfl rfl ?_
  refine TOps.next ?_
  refine Tri.seq (Tri.region ?_)
  refine TOps.move rfl rfl ?_
  refine TOps.neqNil rfl Try.underlying34 rfl ?_
  refine TOps.next ?_
  refine Tri.cond rfl (fun hc1 => ?_) (fun hc1 => ?_)
  · try simp only [decide_eq_true_eq, decide_eq_false_iff_not, Bool.and_eq_true, Bool.or_eq_true, Bool.not_eq_true', Bool.and_eq_false_iff, Bool.or_eq_false_iff, Bool.not_eq_false', Int.not_lt, Int.not_le, ne_eq, Decidable.not_not, Option.isSome_iff_ne_none, Option.isNone_iff_eq_none] at hc1
    obtain ⟨e, he⟩ := Option.ne_none_iff_exists'.1 hc1
    refine Tri.seq (Tri.region ?_)
    refine TOps.move rfl rfl ?_
    refine TOps.assign rfl rfl ?_
    refine TOps.next ?_
    refine Tri.ret1 (H' := H) Try.results63 (fun _ _ h => h) (.tmp rfl) l3 ⟨by unfold Fm.cubeErr; rw [he], rfl⟩
  try simp only [decide_eq_true_eq, decide_eq_false_iff_not, Bool.and_eq_true, Bool.or_eq_true, Bool.not_eq_true', Bool.and_eq_false_iff, Bool.or_eq_false_iff, Bool.not_eq_false', Int.not_lt, Int.not_le, ne_eq, Decidable.not_not, Option.isSome_iff_ne_none, Option.isNone_iff_eq_none] at hc1
  have he : F.err = none := by simpa using hc1
  have hg := (Fm.good_iff F).1 he
  have g0 := hg.v0; have g1 := hg.v1
  refine Tri.fin ?_
  refine Nrm.next ?_
  refine Tri.seq ?_
  refine Tri.seq ?_
  rcases four (a := y) (b := n) (t := ((2 ^ F.vars.toNat : Nat) : Int)) with q2 | ⟨q2, q9⟩ | ⟨q2, q9, q14⟩ | ⟨q2, q9, q14⟩
  · skip
    have hP : decide (y < 0 ∨ ((2 ^ F.vars.toNat : Nat) : Int) ≤ y ∨ n < 0 ∨ ((2 ^ F.vars.toNat : Nat) : Int) ≤ n) = true := decide_eq_true (.inl (of_decide_eq_true q2))
    refine Tri.drawC rfl [(2, .pointer (some ⟨b2, 0, none⟩)), (3, .pointer (some ⟨b3, 0, none⟩))] [] [_, _, _, _, _, _, _, _, _, _, _, _, _, _, _, _, _, _, _, _, _, _, _, _] (H2) [23] rfl ⟨rfl, rfl, trivial⟩ trivial (by repeat (first | exact Le.refl _ | assumption | apply Le.drop)) (by
      refine ⟨?_, ?_, ?_, ?_, ?_, ?_, ?_, ?_, ?_, ?_, ?_, ?_, ?_, ?_, ?_, ?_, ?_, ?_, ?_, ?_, ?_, ?_, ?_, ?_, trivial⟩
      · refine ⟨fun x S c he hw hd hc hcu hm _ => ?_, trivial⟩
        refine TOps.field0 (he _ _ rfl) Try.underlying88 rfl rfl ti3 rfl rfl rfl ?_
        exact TOps.fd x rfl rfl
      · refine ⟨fun x S c he hw hd hc hcu hm _ => ?_, trivial⟩
        obtain ⟨h0, -⟩ := hd
        refine TOps.load1 h0 ti3 (by first | exact Rd.lit (by repeat (first | exact List.Mem.head _ | apply List.Mem.tail)) rfl | (repeat (first | assumption | exact Rd.fld (by assumption) 0 rfl | apply Rd.up))) rfl ?_
        exact TOps.fd x rfl rfl
      · refine ⟨fun x S c he hw hd hc hcu hm _ => ?_, trivial⟩
        obtain ⟨h1, -⟩ := hd
        refine TOps.lssr h1 rfl q2 rfl ?_
        exact TOps.fd x rfl rfl
      · refine ⟨fun x S c he hw hd hc hcu hm _ => ?_, trivial⟩
        obtain ⟨h2, -⟩ := hd
        refine TOps.move h2 rfl ?_
        exact TOps.fd x rfl rfl
      · refine ⟨fun x S c he hw hd hc hcu hm hgd => ?_, ⟨_, rfl⟩, .inl ⟨rfl, fun x => .inr ⟨.inl rfl, rfl⟩⟩⟩
        exact absurd hgd (by first | (intro h; cases h; done) | simp_all)
      · refine ⟨fun x S c he hw hd hc hcu hm hgd => ?_, ⟨_, rfl⟩, .inl ⟨rfl, fun x => .inr ⟨.inl rfl, rfl⟩⟩⟩
        exact absurd hgd (by first | (intro h; cases h; done) | simp_all)
      · refine ⟨fun x S c he hw hd hc hcu hm hgd => ?_, ⟨_, rfl⟩, .inl ⟨rfl, fun x => .inr ⟨.inl rfl, rfl⟩⟩⟩
        exact absurd hgd (by first | (intro h; cases h; done) | simp_all)
      · refine ⟨fun x S c he hw hd hc hcu hm hgd => ?_, ⟨_, rfl⟩, .inl ⟨rfl, fun x => .inr ⟨.inl rfl, rfl⟩⟩⟩
        exact absurd hgd (by first | (intro h; cases h; done) | simp_all)
      · refine ⟨fun x S c he hw hd hc hcu hm hgd => ?_, ⟨_, rfl⟩, .inl ⟨rfl, fun x => .inr ⟨.inl rfl, rfl⟩⟩⟩
        exact absurd hgd (by first | (intro h; cases h; done) | simp_all)
      · refine ⟨fun x S c he hw hd hc hcu hm hgd => ?_, ⟨_, rfl⟩, .inl ⟨rfl, fun x => .inr ⟨.inl rfl, rfl⟩⟩⟩
        exact absurd hgd (by first | (intro h; cases h; done) | simp_all)
      · refine ⟨fun x S c he hw hd hc hcu hm _ => ?_, trivial⟩
        obtain ⟨h3, h9, -⟩ := hd
        refine TOps.pick h3 rfl h9 rfl ?_
        exact TOps.fd x rfl rfl
      · refine ⟨fun x S c he hw hd hc hcu hm _ => ?_, trivial⟩
        obtain ⟨h10, h3, -⟩ := hd
        refine TOps.move h10 rfl ?_
        exact TOps.fd x rfl rfl
      · refine ⟨fun x S c he hw hd hc hcu hm hgd => ?_, ⟨_, rfl⟩, .inl ⟨rfl, fun x => .inr ⟨.inl rfl, rfl⟩⟩⟩
        exact absurd hgd (by first | (intro h; cases h; done) | simp_all)
      · refine ⟨fun x S c he hw hd hc hcu hm hgd => ?_, ⟨_, rfl⟩, .inl ⟨rfl, fun x => .inr ⟨.inl rfl, rfl⟩⟩⟩
        exact absurd hgd (by first | (intro h; cases h; done) | simp_all)
      · refine ⟨fun x S c he hw hd hc hcu hm hgd => ?_, ⟨_, rfl⟩, .inl ⟨rfl, fun x => .inr ⟨.inl rfl, rfl⟩⟩⟩
        exact absurd hgd (by first | (intro h; cases h; done) | simp_all)
      · refine ⟨fun x S c he hw hd hc hcu hm _ => ?_, trivial⟩
        obtain ⟨h11, h14, -⟩ := hd
        refine TOps.pick h11 rfl h14 rfl ?_
        exact TOps.fd x rfl rfl
      · refine ⟨fun x S c he hw hd hc hcu hm _ => ?_, trivial⟩
        obtain ⟨h15, h11, -⟩ := hd
        refine TOps.move h15 rfl ?_
        exact TOps.fd x rfl rfl
      · refine ⟨fun x S c he hw hd hc hcu hm hgd => ?_, ⟨_, rfl⟩, .inl ⟨rfl, fun x => .inr ⟨.inl rfl, rfl⟩⟩⟩
        exact absurd hgd (by first | (intro h; cases h; done) | simp_all)
      · refine ⟨fun x S c he hw hd hc hcu hm hgd => ?_, ⟨_, rfl⟩, .inl ⟨rfl, fun x => .inr ⟨.inl rfl, rfl⟩⟩⟩
        exact absurd hgd (by first | (intro h; cases h; done) | simp_all)
      · refine ⟨fun x S c he hw hd hc hcu hm hgd => ?_, ⟨_, rfl⟩, .inl ⟨rfl, fun x => .inr ⟨.inl rfl, rfl⟩⟩⟩
        exact absurd hgd (by first | (intro h; cases h; done) | simp_all)
      · refine ⟨fun x S c he hw hd hc hcu hm hgd => ?_, ⟨_, rfl⟩, .inl ⟨rfl, fun x => .inr ⟨.inl rfl, rfl⟩⟩⟩
        exact absurd hgd (by first | (intro h; cases h; done) | simp_all)
      · refine ⟨fun x S c he hw hd hc hcu hm hgd => ?_, ⟨_, rfl⟩, .inl ⟨rfl, fun x => .inr ⟨.inl rfl, rfl⟩⟩⟩
        exact absurd hgd (by first | (intro h; cases h; done) | simp_all)
      · refine ⟨fun x S c he hw hd hc hcu hm hgd => ?_, ⟨_, rfl⟩, .inl ⟨rfl, fun x => .inr ⟨.inl rfl, rfl⟩⟩⟩
        exact absurd hgd (by first | (intro h; cases h; done) | simp_all)
      · refine ⟨fun x S c he hw hd hc hcu hm _ => ?_, trivial⟩
        obtain ⟨h16, h22, -⟩ := hd
        refine TOps.pickr (r := .bool (decide (y < 0 ∨ ((2 ^ F.vars.toNat : Nat) : Int) ≤ y ∨ n < 0 ∨ ((2 ^ F.vars.toNat : Nat) : Int) ≤ n))) h16 rfl h22 (by rw [hP]; rfl) rfl ?_
        exact TOps.fd x rfl rfl
      ) ?_
    refine Nrm.next ?_
    refine Tri.cond rfl (fun hc2 => ?_) (fun hc2 => ?_)
    · try simp only [decide_eq_true_eq, decide_eq_false_iff_not, Bool.and_eq_true, Bool.or_eq_true, Bool.not_eq_true', Bool.and_eq_false_iff, Bool.or_eq_false_iff, Bool.not_eq_false', Int.not_lt, Int.not_le, ne_eq, Decidable.not_not, Option.isSome_iff_ne_none, Option.isNone_iff_eq_none] at hc2
      refine Tri.seq (Tri.region ?_)
      refine TOps.makeInterface rfl Try.underlying73 rfl rfl ?_
      refine TOps.assign rfl rfl ?_
      refine TOps.next ?_
      refine Tri.ret1 (H' := H) Try.results63 (fun _ _ h => h) (.tmp rfl) l3 ⟨by unfold Fm.cubeErr; rw [he]; simp only; rw [if_pos (by omega)]; rfl, rfl⟩
    try simp only [decide_eq_true_eq, decide_eq_false_iff_not, Bool.and_eq_true, Bool.or_eq_true, Bool.not_eq_true', Bool.and_eq_false_iff, Bool.or_eq_false_iff, Bool.not_eq_false', Int.not_lt, Int.not_le, ne_eq, Decidable.not_not, Option.isSome_iff_ne_none, Option.isNone_iff_eq_none] at hc2
    refine Tri.fin ?_
    refine Nrm.next ?_
    refine Tri.seq ?_
    refine Tri.seq (Tri.region ?_)
    refine TOps.field0 rfl Try.underlying88 rfl rfl ti3 rfl rfl rfl ?_
    refine TOps.load1 rfl ti3 (by first | exact Rd.lit (by repeat (first | exact List.Mem.head _ | apply List.Mem.tail)) rfl | (repeat (first | assumption | exact Rd.fld (by assumption) 0 rfl | apply Rd.up))) rfl ?_
    first | refine TOps.fieldB 1 rfl Try.underlying88 rfl rfl ti3 rfl rfl rfl ?_ | refine TOps.fieldN 1 rfl Try.underlying88 rfl rfl ti3 rfl rfl rfl ?_
    refine TOps.load1 rfl ti3 (by first | exact Rd.lit (by repeat (first | exact List.Mem.head _ | apply List.Mem.tail)) rfl | (repeat (first | assumption | exact Rd.fld (by assumption) 1 rfl | apply Rd.up))) rfl ?_
    refine TOps.and rfl rfl rfl rfl ?_
    refine TOps.neqI rfl rfl rfl ?_
    refine TOps.next ?_
    refine Tri.cond rfl (fun hc3 => ?_) (fun hc3 => ?_)
    · try simp only [decide_eq_true_eq, decide_eq_false_iff_not, Bool.and_eq_true, Bool.or_eq_true, Bool.not_eq_true', Bool.and_eq_false_iff, Bool.or_eq_false_iff, Bool.not_eq_false', Int.not_lt, Int.not_le, ne_eq, Decidable.not_not, Option.isSome_iff_ne_none, Option.isNone_iff_eq_none] at hc3
      refine Tri.seq (Tri.region ?_)
      refine TOps.makeInterface rfl Try.underlying73 rfl rfl ?_
      refine TOps.assign rfl rfl ?_
      refine TOps.next ?_
      refine Tri.ret1 (H' := H) Try.results63 (fun _ _ h => h) (.tmp rfl) l3 ⟨by unfold Fm.cubeErr; rw [he]; simp only; rw [if_neg (by omega), if_pos hc3]; rfl, rfl⟩
    try simp only [decide_eq_true_eq, decide_eq_false_iff_not, Bool.and_eq_true, Bool.or_eq_true, Bool.not_eq_true', Bool.and_eq_false_iff, Bool.or_eq_false_iff, Bool.not_eq_false', Int.not_lt, Int.not_le, ne_eq, Decidable.not_not, Option.isSome_iff_ne_none, Option.isNone_iff_eq_none] at hc3
    refine Tri.fin ?_
    refine Nrm.next ?_
    refine Tri.seq (Tri.region ?_)
    refine TOps.assign rfl rfl ?_
    refine TOps.next ?_
    refine Tri.ret1 (H' := H) Try.results63 (fun _ _ h => h) (.tmp rfl) l3 ⟨by unfold Fm.cubeErr; rw [he]; simp only; rw [if_neg (by omega), if_neg (by omega)]; rfl, rfl⟩
  · skip
    have hP : decide (y < 0 ∨ ((2 ^ F.vars.toNat : Nat) : Int) ≤ y ∨ n < 0 ∨ ((2 ^ F.vars.toNat : Nat) : Int) ≤ n) = true := decide_eq_true (.inr (.inl (of_decide_eq_true q9)))
    refine Tri.drawC rfl [(2, .pointer (some ⟨b2, 0, none⟩)), (3, .pointer (some ⟨b3, 0, none⟩))] [] [_, _, _, _, _, _, _, _, _, _, _, _, _, _, _, _, _, _, _, _, _, _, _, _] (H2) [23] rfl ⟨rfl, rfl, trivial⟩ trivial (by repeat (first | exact Le.refl _ | assumption | apply Le.drop)) (by
      refine ⟨?_, ?_, ?_, ?_, ?_, ?_, ?_, ?_, ?_, ?_, ?_, ?_, ?_, ?_, ?_, ?_, ?_, ?_, ?_, ?_, ?_, ?_, ?_, ?_, trivial⟩
      · refine ⟨fun x S c he hw hd hc hcu hm _ => ?_, trivial⟩
        refine TOps.field0 (he _ _ rfl) Try.underlying88 rfl rfl ti3 rfl rfl rfl ?_
        exact TOps.fd x rfl rfl
      · refine ⟨fun x S c he hw hd hc hcu hm _ => ?_, trivial⟩
        obtain ⟨h0, -⟩ := hd
        refine TOps.load1 h0 ti3 (by first | exact Rd.lit (by repeat (first | exact List.Mem.head _ | apply List.Mem.tail)) rfl | (repeat (first | assumption | exact Rd.fld (by assumption) 0 rfl | apply Rd.up))) rfl ?_
        exact TOps.fd x rfl rfl
      · refine ⟨fun x S c he hw hd hc hcu hm _ => ?_, trivial⟩
        obtain ⟨h1, -⟩ := hd
        refine TOps.lssr h1 rfl q2 rfl ?_
        exact TOps.fd x rfl rfl
      · refine ⟨fun x S c he hw hd hc hcu hm _ => ?_, trivial⟩
        obtain ⟨h2, -⟩ := hd
        refine TOps.move h2 rfl ?_
        exact TOps.fd x rfl rfl
      · refine ⟨fun x S c he hw hd hc hcu hm hgd => ?_, ⟨_, rfl⟩, .inl ⟨rfl, fun x => .inl rfl⟩⟩
        obtain ⟨h3, -⟩ := hd
        refine TOps.field0 (he _ _ rfl) Try.underlying88 rfl rfl ti3 rfl rfl rfl ?_
        exact TOps.fd x rfl rfl
      · refine ⟨fun x S c he hw hd hc hcu hm hgd => ?_, ⟨_, rfl⟩, .inl ⟨rfl, fun x => .inl rfl⟩⟩
        obtain ⟨h4, h3, -⟩ := hd
        refine TOps.load1 h4 ti3 (by first | exact Rd.lit (by repeat (first | exact List.Mem.head _ | apply List.Mem.tail)) rfl | (repeat (first | assumption | exact Rd.fld (by assumption) 0 rfl | apply Rd.up))) rfl ?_
        exact TOps.fd x rfl rfl
      · refine ⟨fun x S c he hw hd hc hcu hm hgd => ?_, ⟨_, rfl⟩, .inl ⟨rfl, fun x => .inl rfl⟩⟩
        obtain ⟨h3, -⟩ := hd
        refine TOps.field0 (he _ _ rfl) Try.underlying24 rfl rfl ti3 rfl rfl rfl ?_
        exact TOps.fd x rfl rfl
      · refine ⟨fun x S c he hw hd hc hcu hm hgd => ?_, ⟨_, rfl⟩, .inl ⟨rfl, fun x => .inl rfl⟩⟩
        obtain ⟨h6, h3, -⟩ := hd
        refine TOps.load1 h6 ti3 (by first | exact Rd.lit (by repeat (first | exact List.Mem.head _ | apply List.Mem.tail)) rfl | (repeat (first | assumption | exact Rd.fld (by assumption) 0 rfl | apply Rd.up))) rfl ?_
        exact TOps.fd x rfl rfl
      · refine ⟨fun x S c he hw hd hc hcu hm hgd => ?_, ⟨_, rfl⟩, .inl ⟨rfl, fun x => .inl rfl⟩⟩
        obtain ⟨h7, h3, -⟩ := hd
        refine TOps.shl (r := ((2 ^ F.vars.toNat : Nat) : Int)) rfl h7 (by omega) (ishl_one (by omega)) rfl ?_
        exact TOps.fd x rfl rfl
      · refine ⟨fun x S c he hw hd hc hcu hm hgd => ?_, ⟨_, rfl⟩, .inl ⟨rfl, fun x => .inl rfl⟩⟩
        obtain ⟨h5, h8, h3, -⟩ := hd
        refine TOps.geqr h5 h8 q9 rfl ?_
        exact TOps.fd x rfl rfl
      · refine ⟨fun x S c he hw hd hc hcu hm _ => ?_, trivial⟩
        obtain ⟨h3, h9, -⟩ := hd
        refine TOps.pick h3 rfl h9 rfl ?_
        exact TOps.fd x rfl rfl
      · refine ⟨fun x S c he hw hd hc hcu hm _ => ?_, trivial⟩
        obtain ⟨h10, h3, -⟩ := hd
        refine TOps.move h10 rfl ?_
        exact TOps.fd x rfl rfl
      · refine ⟨fun x S c he hw hd hc hcu hm hgd => ?_, ⟨_, rfl⟩, .inl ⟨rfl, fun x => .inr ⟨.inl rfl, rfl⟩⟩⟩
        exact absurd hgd (by first | (intro h; cases h; done) | simp_all)
      · refine ⟨fun x S c he hw hd hc hcu hm hgd => ?_, ⟨_, rfl⟩, .inl ⟨rfl, fun x => .inr ⟨.inl rfl, rfl⟩⟩⟩
        exact absurd hgd (by first | (intro h; cases h; done) | simp_all)
      · refine ⟨fun x S c he hw hd hc hcu hm hgd => ?_, ⟨_, rfl⟩, .inl ⟨rfl, fun x => .inr ⟨.inl rfl, rfl⟩⟩⟩
        exact absurd hgd (by first | (intro h; cases h; done) | simp_all)
      · refine ⟨fun x S c he hw hd hc hcu hm _ => ?_, trivial⟩
        obtain ⟨h11, h14, -⟩ := hd
        refine TOps.pick h11 rfl h14 rfl ?_
        exact TOps.fd x rfl rfl
      · refine ⟨fun x S c he hw hd hc hcu hm _ => ?_, trivial⟩
        obtain ⟨h15, h11, -⟩ := hd
        refine TOps.move h15 rfl ?_
        exact TOps.fd x rfl rfl
      · refine ⟨fun x S c he hw hd hc hcu hm hgd => ?_, ⟨_, rfl⟩, .inl ⟨rfl, fun x => .inr ⟨.inl rfl, rfl⟩⟩⟩
        exact absurd hgd (by first | (intro h; cases h; done) | simp_all)
      · refine ⟨fun x S c he hw hd hc hcu hm hgd => ?_, ⟨_, rfl⟩, .inl ⟨rfl, fun x => .inr ⟨.inl rfl, rfl⟩⟩⟩
        exact absurd hgd (by first | (intro h; cases h; done) | simp_all)
      · refine ⟨fun x S c he hw hd hc hcu hm hgd => ?_, ⟨_, rfl⟩, .inl ⟨rfl, fun x => .inr ⟨.inl rfl, rfl⟩⟩⟩
        exact absurd hgd (by first | (intro h; cases h; done) | simp_all)
      · refine ⟨fun x S c he hw hd hc hcu hm hgd => ?_, ⟨_, rfl⟩, .inl ⟨rfl, fun x => .inr ⟨.inl rfl, rfl⟩⟩⟩
        exact absurd hgd (by first | (intro h; cases h; done) | simp_all)
      · refine ⟨fun x S c he hw hd hc hcu hm hgd => ?_, ⟨_, rfl⟩, .inl ⟨rfl, fun x => .inr ⟨.inl rfl, rfl⟩⟩⟩
        exact absurd hgd (by first | (intro h; cases h; done) | simp_all)
      · refine ⟨fun x S c he hw hd hc hcu hm hgd => ?_, ⟨_, rfl⟩, .inl ⟨rfl, fun x => .inr ⟨.inl rfl, rfl⟩⟩⟩
        exact absurd hgd (by first | (intro h; cases h; done) | simp_all)
      · refine ⟨fun x S c he hw hd hc hcu hm _ => ?_, trivial⟩
        obtain ⟨h16, h22, -⟩ := hd
        refine TOps.pickr (r := .bool (decide (y < 0 ∨ ((2 ^ F.vars.toNat : Nat) : Int) ≤ y ∨ n < 0 ∨ ((2 ^ F.vars.toNat : Nat) : Int) ≤ n))) h16 rfl h22 (by rw [hP]; rfl) rfl ?_
        exact TOps.fd x rfl rfl
      ) ?_
    refine Nrm.next ?_
    refine Tri.cond rfl (fun hc2 => ?_) (fun hc2 => ?_)
    · try simp only [decide_eq_true_eq, decide_eq_false_iff_not, Bool.and_eq_true, Bool.or_eq_true, Bool.not_eq_true', Bool.and_eq_false_iff, Bool.or_eq_false_iff, Bool.not_eq_false', Int.not_lt, Int.not_le, ne_eq, Decidable.not_not, Option.isSome_iff_ne_none, Option.isNone_iff_eq_none] at hc2
      refine Tri.seq (Tri.region ?_)
      refine TOps.makeInterface rfl Try.underlying73 rfl rfl ?_
      refine TOps.assign rfl rfl ?_
      refine TOps.next ?_
      refine Tri.ret1 (H' := H) Try.results63 (fun _ _ h => h) (.tmp rfl) l3 ⟨by unfold Fm.cubeErr; rw [he]; simp only; rw [if_pos (by omega)]; rfl, rfl⟩
    try simp only [decide_eq_true_eq, decide_eq_false_iff_not, Bool.and_eq_true, Bool.or_eq_true, Bool.not_eq_true', Bool.and_eq_false_iff, Bool.or_eq_false_iff, Bool.not_eq_false', Int.not_lt, Int.not_le, ne_eq, Decidable.not_not, Option.isSome_iff_ne_none, Option.isNone_iff_eq_none] at hc2
    refine Tri.fin ?_
    refine Nrm.next ?_
    refine Tri.seq ?_
    refine Tri.seq (Tri.region ?_)
    refine TOps.field0 rfl Try.underlying88 rfl rfl ti3 rfl rfl rfl ?_
    refine TOps.load1 rfl ti3 (by first | exact Rd.lit (by repeat (first | exact List.Mem.head _ | apply List.Mem.tail)) rfl | (repeat (first | assumption | exact Rd.fld (by assumption) 0 rfl | apply Rd.up))) rfl ?_
    first | refine TOps.fieldB 1 rfl Try.underlying88 rfl rfl ti3 rfl rfl rfl ?_ | refine TOps.fieldN 1 rfl Try.underlying88 rfl rfl ti3 rfl rfl rfl ?_
    refine TOps.load1 rfl ti3 (by first | exact Rd.lit (by repeat (first | exact List.Mem.head _ | apply List.Mem.tail)) rfl | (repeat (first | assumption | exact Rd.fld (by assumption) 1 rfl | apply Rd.up))) rfl ?_
    refine TOps.and rfl rfl rfl rfl ?_
    refine TOps.neqI rfl rfl rfl ?_
    refine TOps.next ?_
    refine Tri.cond rfl (fun hc3 => ?_) (fun hc3 => ?_)
    · try simp only [decide_eq_true_eq, decide_eq_false_iff_not, Bool.and_eq_true, Bool.or_eq_true, Bool.not_eq_true', Bool.and_eq_false_iff, Bool.or_eq_false_iff, Bool.not_eq_false', Int.not_lt, Int.not_le, ne_eq, Decidable.not_not, Option.isSome_iff_ne_none, Option.isNone_iff_eq_none] at hc3
      refine Tri.seq (Tri.region ?_)
      refine TOps.makeInterface rfl Try.underlying73 rfl rfl ?_
      refine TOps.assign rfl rfl ?_
      refine TOps.next ?_
      refine Tri.ret1 (H' := H) Try.results63 (fun _ _ h => h) (.tmp rfl) l3 ⟨by unfold Fm.cubeErr; rw [he]; simp only; rw [if_neg (by omega), if_pos hc3]; rfl, rfl⟩
    try simp only [decide_eq_true_eq, decide_eq_false_iff_not, Bool.and_eq_true, Bool.or_eq_true, Bool.not_eq_true', Bool.and_eq_false_iff, Bool.or_eq_false_iff, Bool.not_eq_false', Int.not_lt, Int.not_le, ne_eq, Decidable.not_not, Option.isSome_iff_ne_none, Option.isNone_iff_eq_none] at hc3
    refine Tri.fin ?_
    refine Nrm.next ?_
    refine Tri.seq (Tri.region ?_)
    refine TOps.assign rfl rfl ?_
    refine TOps.next ?_
    refine Tri.ret1 (H' := H) Try.results63 (fun _ _ h => h) (.tmp rfl) l3 ⟨by unfold Fm.cubeErr; rw [he]; simp only; rw [if_neg (by omega), if_neg (by omega)]; rfl, rfl⟩
  · skip
    have hP : decide (y < 0 ∨ ((2 ^ F.vars.toNat : Nat) : Int) ≤ y ∨ n < 0 ∨ ((2 ^ F.vars.toNat : Nat) : Int) ≤ n) = true := decide_eq_true (.inr (.inr (.inl (of_decide_eq_true q14))))
    refine Tri.drawC rfl [(2, .pointer (some ⟨b2, 0, none⟩)), (3, .pointer (some ⟨b3, 0, none⟩))] [] [_, _, _, _, _, _, _, _, _, _, _, _, _, _, _, _, _, _, _, _, _, _, _, _] (H2) [23] rfl ⟨rfl, rfl, trivial⟩ trivial (by repeat (first | exact Le.refl _ | assumption | apply Le.drop)) (by
      refine ⟨?_, ?_, ?_, ?_, ?_, ?_, ?_, ?_, ?_, ?_, ?_, ?_, ?_, ?_, ?_, ?_, ?_, ?_, ?_, ?_, ?_, ?_, ?_, ?_, trivial⟩
      · refine ⟨fun x S c he hw hd hc hcu hm _ => ?_, trivial⟩
        refine TOps.field0 (he _ _ rfl) Try.underlying88 rfl rfl ti3 rfl rfl rfl ?_
        exact TOps.fd x rfl rfl
      · refine ⟨fun x S c he hw hd hc hcu hm _ => ?_, trivial⟩
        obtain ⟨h0, -⟩ := hd
        refine TOps.load1 h0 ti3 (by first | exact Rd.lit (by repeat (first | exact List.Mem.head _ | apply List.Mem.tail)) rfl | (repeat (first | assumption | exact Rd.fld (by assumption) 0 rfl | apply Rd.up))) rfl ?_
        exact TOps.fd x rfl rfl
      · refine ⟨fun x S c he hw hd hc hcu hm _ => ?_, trivial⟩
        obtain ⟨h1, -⟩ := hd
        refine TOps.lssr h1 rfl q2 rfl ?_
        exact TOps.fd x rfl rfl
      · refine ⟨fun x S c he hw hd hc hcu hm _ => ?_, trivial⟩
        obtain ⟨h2, -⟩ := hd
        refine TOps.move h2 rfl ?_
        exact TOps.fd x rfl rfl
      · refine ⟨fun x S c he hw hd hc hcu hm hgd => ?_, ⟨_, rfl⟩, .inl ⟨rfl, fun x => .inl rfl⟩⟩
        obtain ⟨h3, -⟩ := hd
        refine TOps.field0 (he _ _ rfl) Try.underlying88 rfl rfl ti3 rfl rfl rfl ?_
        exact TOps.fd x rfl rfl
      · refine ⟨fun x S c he hw hd hc hcu hm hgd => ?_, ⟨_, rfl⟩, .inl ⟨rfl, fun x => .inl rfl⟩⟩
        obtain ⟨h4, h3, -⟩ := hd
        refine TOps.load1 h4 ti3 (by first | exact Rd.lit (by repeat (first | exact List.Mem.head _ | apply List.Mem.tail)) rfl | (repeat (first | assumption | exact Rd.fld (by assumption) 0 rfl | apply Rd.up))) rfl ?_
        exact TOps.fd x rfl rfl
      · refine ⟨fun x S c he hw hd hc hcu hm hgd => ?_, ⟨_, rfl⟩, .inl ⟨rfl, fun x => .inl rfl⟩⟩
        obtain ⟨h3, -⟩ := hd
        refine TOps.field0 (he _ _ rfl) Try.underlying24 rfl rfl ti3 rfl rfl rfl ?_
        exact TOps.fd x rfl rfl
      · refine ⟨fun x S c he hw hd hc hcu hm hgd => ?_, ⟨_, rfl⟩, .inl ⟨rfl, fun x => .inl rfl⟩⟩
        obtain ⟨h6, h3, -⟩ := hd
        refine TOps.load1 h6 ti3 (by first | exact Rd.lit (by repeat (first | exact List.Mem.head _ | apply List.Mem.tail)) rfl | (repeat (first | assumption | exact Rd.fld (by assumption) 0 rfl | apply Rd.up))) rfl ?_
        exact TOps.fd x rfl rfl
      · refine ⟨fun x S c he hw hd hc hcu hm hgd => ?_, ⟨_, rfl⟩, .inl ⟨rfl, fun x => .inl rfl⟩⟩
        obtain ⟨h7, h3, -⟩ := hd
        refine TOps.shl (r := ((2 ^ F.vars.toNat : Nat) : Int)) rfl h7 (by omega) (ishl_one (by omega)) rfl ?_
        exact TOps.fd x rfl rfl
      · refine ⟨fun x S c he hw hd hc hcu hm hgd => ?_, ⟨_, rfl⟩, .inl ⟨rfl, fun x => .inl rfl⟩⟩
        obtain ⟨h5, h8, h3, -⟩ := hd
        refine TOps.geqr h5 h8 q9 rfl ?_
        exact TOps.fd x rfl rfl
      · refine ⟨fun x S c he hw hd hc hcu hm _ => ?_, trivial⟩
        obtain ⟨h3, h9, -⟩ := hd
        refine TOps.pick h3 rfl h9 rfl ?_
        exact TOps.fd x rfl rfl
      · refine ⟨fun x S c he hw hd hc hcu hm _ => ?_, trivial⟩
        obtain ⟨h10, h3, -⟩ := hd
        refine TOps.move h10 rfl ?_
        exact TOps.fd x rfl rfl
      · refine ⟨fun x S c he hw hd hc hcu hm hgd => ?_, ⟨_, rfl⟩, .inl ⟨rfl, fun x => .inl rfl⟩⟩
        obtain ⟨h11, -⟩ := hd
        first | refine TOps.fieldB 1 (he _ _ rfl) Try.underlying88 rfl rfl ti3 rfl rfl rfl ?_ | refine TOps.fieldN 1 (he _ _ rfl) Try.underlying88 rfl rfl ti3 rfl rfl rfl ?_
        exact TOps.fd x rfl rfl
      · refine ⟨fun x S c he hw hd hc hcu hm hgd => ?_, ⟨_, rfl⟩, .inl ⟨rfl, fun x => .inl rfl⟩⟩
        obtain ⟨h12, h11, -⟩ := hd
        refine TOps.load1 h12 ti3 (by first | exact Rd.lit (by repeat (first | exact List.Mem.head _ | apply List.Mem.tail)) rfl | (repeat (first | assumption | exact Rd.fld (by assumption) 1 rfl | apply Rd.up))) rfl ?_
        exact TOps.fd x rfl rfl
      · refine ⟨fun x S c he hw hd hc hcu hm hgd => ?_, ⟨_, rfl⟩, .inl ⟨rfl, fun x => .inl rfl⟩⟩
        obtain ⟨h13, h11, -⟩ := hd
        refine TOps.lssr h13 rfl q14 rfl ?_
        exact TOps.fd x rfl rfl
      · refine ⟨fun x S c he hw hd hc hcu hm _ => ?_, trivial⟩
        obtain ⟨h11, h14, -⟩ := hd
        refine TOps.pick h11 rfl h14 rfl ?_
        exact TOps.fd x rfl rfl
      · refine ⟨fun x S c he hw hd hc hcu hm _ => ?_, trivial⟩
        obtain ⟨h15, h11, -⟩ := hd
        refine TOps.move h15 rfl ?_
        exact TOps.fd x rfl rfl
      · refine ⟨fun x S c he hw hd hc hcu hm hgd => ?_, ⟨_, rfl⟩, .inl ⟨rfl, fun x => .inr ⟨.inl rfl, rfl⟩⟩⟩
        exact absurd hgd (by first | (intro h; cases h; done) | simp_all)
      · refine ⟨fun x S c he hw hd hc hcu hm hgd => ?_, ⟨_, rfl⟩, .inl ⟨rfl, fun x => .inr ⟨.inl rfl, rfl⟩⟩⟩
        exact absurd hgd (by first | (intro h; cases h; done) | simp_all)
      · refine ⟨fun x S c he hw hd hc hcu hm hgd => ?_, ⟨_, rfl⟩, .inl ⟨rfl, fun x => .inr ⟨.inl rfl, rfl⟩⟩⟩
        exact absurd hgd (by first | (intro h; cases h; done) | simp_all)
      · refine ⟨fun x S c he hw hd hc hcu hm hgd => ?_, ⟨_, rfl⟩, .inl ⟨rfl, fun x => .inr ⟨.inl rfl, rfl⟩⟩⟩
        exact absurd hgd (by first | (intro h; cases h; done) | simp_all)
      · refine ⟨fun x S c he hw hd hc hcu hm hgd => ?_, ⟨_, rfl⟩, .inl ⟨rfl, fun x => .inr ⟨.inl rfl, rfl⟩⟩⟩
        exact absurd hgd (by first | (intro h; cases h; done) | simp_all)
      · refine ⟨fun x S c he hw hd hc hcu hm hgd => ?_, ⟨_, rfl⟩, .inl ⟨rfl, fun x => .inr ⟨.inl rfl, rfl⟩⟩⟩
        exact absurd hgd (by first | (intro h; cases h; done) | simp_all)
      · refine ⟨fun x S c he hw hd hc hcu hm _ => ?_, trivial⟩
        obtain ⟨h16, h22, -⟩ := hd
        refine TOps.pickr (r := .bool (decide (y < 0 ∨ ((2 ^ F.vars.toNat : Nat) : Int) ≤ y ∨ n < 0 ∨ ((2 ^ F.vars.toNat : Nat) : Int) ≤ n))) h16 rfl h22 (by rw [hP]; rfl) rfl ?_
        exact TOps.fd x rfl rfl
      ) ?_
    refine Nrm.next ?_
    refine Tri.cond rfl (fun hc2 => ?_) (fun hc2 => ?_)
    · try simp only [decide_eq_true_eq, decide_eq_false_iff_not, Bool.and_eq_true, Bool.or_eq_true, Bool.not_eq_true', Bool.and_eq_false_iff, Bool.or_eq_false_iff, Bool.not_eq_false', Int.not_lt, Int.not_le, ne_eq, Decidable.not_not, Option.isSome_iff_ne_none, Option.isNone_iff_eq_none] at hc2
      refine Tri.seq (Tri.region ?_)
      refine TOps.makeInterface rfl Try.underlying73 rfl rfl ?_
      refine TOps.assign rfl rfl ?_
      refine TOps.next ?_
      refine Tri.ret1 (H' := H) Try.results63 (fun _ _ h => h) (.tmp rfl) l3 ⟨by unfold Fm.cubeErr; rw [he]; simp only; rw [if_pos (by omega)]; rfl, rfl⟩
    try simp only [decide_eq_true_eq, decide_eq_false_iff_not, Bool.and_eq_true, Bool.or_eq_true, Bool.not_eq_true', Bool.and_eq_false_iff, Bool.or_eq_false_iff, Bool.not_eq_false', Int.not_lt, Int.not_le, ne_eq, Decidable.not_not, Option.isSome_iff_ne_none, Option.isNone_iff_eq_none] at hc2
    refine Tri.fin ?_
    refine Nrm.next ?_
    refine Tri.seq ?_
    refine Tri.seq (Tri.region ?_)
    refine TOps.field0 rfl Try.underlying88 rfl rfl ti3 rfl rfl rfl ?_
    refine TOps.load1 rfl ti3 (by first | exact Rd.lit (by repeat (first | exact List.Mem.head _ | apply List.Mem.tail)) rfl | (repeat (first | assumption | exact Rd.fld (by assumption) 0 rfl | apply Rd.up))) rfl ?_
    first | refine TOps.fieldB 1 rfl Try.underlying88 rfl rfl ti3 rfl rfl rfl ?_ | refine TOps.fieldN 1 rfl Try.underlying88 rfl rfl ti3 rfl rfl rfl ?_
    refine TOps.load1 rfl ti3 (by first | exact Rd.lit (by repeat (first | exact List.Mem.head _ | apply List.Mem.tail)) rfl | (repeat (first | assumption | exact Rd.fld (by assumption) 1 rfl | apply Rd.up))) rfl ?_
    refine TOps.and rfl rfl rfl rfl ?_
    refine TOps.neqI rfl rfl rfl ?_
    refine TOps.next ?_
    refine Tri.cond rfl (fun hc3 => ?_) (fun hc3 => ?_)
    · try simp only [decide_eq_true_eq, decide_eq_false_iff_not, Bool.and_eq_true, Bool.or_eq_true, Bool.not_eq_true', Bool.and_eq_false_iff, Bool.or_eq_false_iff, Bool.not_eq_false', Int.not_lt, Int.not_le, ne_eq, Decidable.not_not, Option.isSome_iff_ne_none, Option.isNone_iff_eq_none] at hc3
      refine Tri.seq (Tri.region ?_)
      refine TOps.makeInterface rfl Try.underlying73 rfl rfl ?_
      refine TOps.assign rfl rfl ?_
      refine TOps.next ?_
      refine Tri.ret1 (H' := H) Try.results63 (fun _ _ h => h) (.tmp rfl) l3 ⟨by unfold Fm.cubeErr; rw [he]; simp only; rw [if_neg (by omega), if_pos hc3]; rfl, rfl⟩
    try simp only [decide_eq_true_eq, decide_eq_false_iff_not, Bool.and_eq_true, Bool.or_eq_true, Bool.not_eq_true', Bool.and_eq_false_iff, Bool.or_eq_false_iff, Bool.not_eq_false', Int.not_lt, Int.not_le, ne_eq, Decidable.not_not, Option.isSome_iff_ne_none, Option.isNone_iff_eq_none] at hc3
    refine Tri.fin ?_
    refine Nrm.next ?_
    refine Tri.seq (Tri.region ?_)
    refine TOps.assign rfl rfl ?_
    refine TOps.next ?_
    refine Tri.ret1 (H' := H) Try.results63 (fun _ _ h => h) (.tmp rfl) l3 ⟨by unfold Fm.cubeErr; rw [he]; simp only; rw [if_neg (by omega), if_neg (by omega)]; rfl, rfl⟩
  · skip
    have hP : decide (y < 0 ∨ ((2 ^ F.vars.toNat : Nat) : Int) ≤ y ∨ n < 0 ∨ ((2 ^ F.vars.toNat : Nat) : Int) ≤ n) = decide (((2 ^ F.vars.toNat : Nat) : Int) ≤ n) := decide_eq_decide.2 ⟨fun h => (h.resolve_left (of_decide_eq_false q2)).resolve_left (of_decide_eq_false q9) |>.resolve_left (of_decide_eq_false q14), fun h => .inr (.inr (.inr h))⟩
    refine Tri.drawC rfl [(2, .pointer (some ⟨b2, 0, none⟩)), (3, .pointer (some ⟨b3, 0, none⟩))] [] [_, _, _, _, _, _, _, _, _, _, _, _, _, _, _, _, _, _, _, _, _, _, _, _] (H2) [23] rfl ⟨rfl, rfl, trivial⟩ trivial (by repeat (first | exact Le.refl _ | assumption | apply Le.drop)) (by
      refine ⟨?_, ?_, ?_, ?_, ?_, ?_, ?_, ?_, ?_, ?_, ?_, ?_, ?_, ?_, ?_, ?_, ?_, ?_, ?_, ?_, ?_, ?_, ?_, ?_, trivial⟩
      · refine ⟨fun x S c he hw hd hc hcu hm _ => ?_, trivial⟩
        refine TOps.field0 (he _ _ rfl) Try.underlying88 rfl rfl ti3 rfl rfl rfl ?_
        exact TOps.fd x rfl rfl
      · refine ⟨fun x S c he hw hd hc hcu hm _ => ?_, trivial⟩
        obtain ⟨h0, -⟩ := hd
        refine TOps.load1 h0 ti3 (by first | exact Rd.lit (by repeat (first | exact List.Mem.head _ | apply List.Mem.tail)) rfl | (repeat (first | assumption | exact Rd.fld (by assumption) 0 rfl | apply Rd.up))) rfl ?_
        exact TOps.fd x rfl rfl
      · refine ⟨fun x S c he hw hd hc hcu hm _ => ?_, trivial⟩
        obtain ⟨h1, -⟩ := hd
        refine TOps.lssr h1 rfl q2 rfl ?_
        exact TOps.fd x rfl rfl
      · refine ⟨fun x S c he hw hd hc hcu hm _ => ?_, trivial⟩
        obtain ⟨h2, -⟩ := hd
        refine TOps.move h2 rfl ?_
        exact TOps.fd x rfl rfl
      · refine ⟨fun x S c he hw hd hc hcu hm hgd => ?_, ⟨_, rfl⟩, .inl ⟨rfl, fun x => .inl rfl⟩⟩
        obtain ⟨h3, -⟩ := hd
        refine TOps.field0 (he _ _ rfl) Try.underlying88 rfl rfl ti3 rfl rfl rfl ?_
        exact TOps.fd x rfl rfl
      · refine ⟨fun x S c he hw hd hc hcu hm hgd => ?_, ⟨_, rfl⟩, .inl ⟨rfl, fun x => .inl rfl⟩⟩
        obtain ⟨h4, h3, -⟩ := hd
        refine TOps.load1 h4 ti3 (by first | exact Rd.lit (by repeat (first | exact List.Mem.head _ | apply List.Mem.tail)) rfl | (repeat (first | assumption | exact Rd.fld (by assumption) 0 rfl | apply Rd.up))) rfl ?_
        exact TOps.fd x rfl rfl
      · refine ⟨fun x S c he hw hd hc hcu hm hgd => ?_, ⟨_, rfl⟩, .inl ⟨rfl, fun x => .inl rfl⟩⟩
        obtain ⟨h3, -⟩ := hd
        refine TOps.field0 (he _ _ rfl) Try.underlying24 rfl rfl ti3 rfl rfl rfl ?_
        exact TOps.fd x rfl rfl
      · refine ⟨fun x S c he hw hd hc hcu hm hgd => ?_, ⟨_, rfl⟩, .inl ⟨rfl, fun x => .inl rfl⟩⟩
        obtain ⟨h6, h3, -⟩ := hd
        refine TOps.load1 h6 ti3 (by first | exact Rd.lit (by repeat (first | exact List.Mem.head _ | apply List.Mem.tail)) rfl | (repeat (first | assumption | exact Rd.fld (by assumption) 0 rfl | apply Rd.up))) rfl ?_
        exact TOps.fd x rfl rfl
      · refine ⟨fun x S c he hw hd hc hcu hm hgd => ?_, ⟨_, rfl⟩, .inl ⟨rfl, fun x => .inl rfl⟩⟩
        obtain ⟨h7, h3, -⟩ := hd
        refine TOps.shl (r := ((2 ^ F.vars.toNat : Nat) : Int)) rfl h7 (by omega) (ishl_one (by omega)) rfl ?_
        exact TOps.fd x rfl rfl
      · refine ⟨fun x S c he hw hd hc hcu hm hgd => ?_, ⟨_, rfl⟩, .inl ⟨rfl, fun x => .inl rfl⟩⟩
        obtain ⟨h5, h8, h3, -⟩ := hd
        refine TOps.geqr h5 h8 q9 rfl ?_
        exact TOps.fd x rfl rfl
      · refine ⟨fun x S c he hw hd hc hcu hm _ => ?_, trivial⟩
        obtain ⟨h3, h9, -⟩ := hd
        refine TOps.pick h3 rfl h9 rfl ?_
        exact TOps.fd x rfl rfl
      · refine ⟨fun x S c he hw hd hc hcu hm _ => ?_, trivial⟩
        obtain ⟨h10, h3, -⟩ := hd
        refine TOps.move h10 rfl ?_
        exact TOps.fd x rfl rfl
      · refine ⟨fun x S c he hw hd hc hcu hm hgd => ?_, ⟨_, rfl⟩, .inl ⟨rfl, fun x => .inl rfl⟩⟩
        obtain ⟨h11, -⟩ := hd
        first | refine TOps.fieldB 1 (he _ _ rfl) Try.underlying88 rfl rfl ti3 rfl rfl rfl ?_ | refine TOps.fieldN 1 (he _ _ rfl) Try.underlying88 rfl rfl ti3 rfl rfl rfl ?_
        exact TOps.fd x rfl rfl
      · refine ⟨fun x S c he hw hd hc hcu hm hgd => ?_, ⟨_, rfl⟩, .inl ⟨rfl, fun x => .inl rfl⟩⟩
        obtain ⟨h12, h11, -⟩ := hd
        refine TOps.load1 h12 ti3 (by first | exact Rd.lit (by repeat (first | exact List.Mem.head _ | apply List.Mem.tail)) rfl | (repeat (first | assumption | exact Rd.fld (by assumption) 1 rfl | apply Rd.up))) rfl ?_
        exact TOps.fd x rfl rfl
      · refine ⟨fun x S c he hw hd hc hcu hm hgd => ?_, ⟨_, rfl⟩, .inl ⟨rfl, fun x => .inl rfl⟩⟩
        obtain ⟨h13, h11, -⟩ := hd
        refine TOps.lssr h13 rfl q14 rfl ?_
        exact TOps.fd x rfl rfl
      · refine ⟨fun x S c he hw hd hc hcu hm _ => ?_, trivial⟩
        obtain ⟨h11, h14, -⟩ := hd
        refine TOps.pick h11 rfl h14 rfl ?_
        exact TOps.fd x rfl rfl
      · refine ⟨fun x S c he hw hd hc hcu hm _ => ?_, trivial⟩
        obtain ⟨h15, h11, -⟩ := hd
        refine TOps.move h15 rfl ?_
        exact TOps.fd x rfl rfl
      · refine ⟨fun x S c he hw hd hc hcu hm hgd => ?_, ⟨_, rfl⟩, .inl ⟨rfl, fun x => .inl rfl⟩⟩
        obtain ⟨h16, -⟩ := hd
        first | refine TOps.fieldB 1 (he _ _ rfl) Try.underlying88 rfl rfl ti3 rfl rfl rfl ?_ | refine TOps.fieldN 1 (he _ _ rfl) Try.underlying88 rfl rfl ti3 rfl rfl rfl ?_
        exact TOps.fd x rfl rfl
      · refine ⟨fun x S c he hw hd hc hcu hm hgd => ?_, ⟨_, rfl⟩, .inl ⟨rfl, fun x => .inl rfl⟩⟩
        obtain ⟨h17, h16, -⟩ := hd
        refine TOps.load1 h17 ti3 (by first | exact Rd.lit (by repeat (first | exact List.Mem.head _ | apply List.Mem.tail)) rfl | (repeat (first | assumption | exact Rd.fld (by assumption) 1 rfl | apply Rd.up))) rfl ?_
        exact TOps.fd x rfl rfl
      · refine ⟨fun x S c he hw hd hc hcu hm hgd => ?_, ⟨_, rfl⟩, .inl ⟨rfl, fun x => .inl rfl⟩⟩
        obtain ⟨h16, -⟩ := hd
        refine TOps.field0 (he _ _ rfl) Try.underlying24 rfl rfl ti3 rfl rfl rfl ?_
        exact TOps.fd x rfl rfl
      · refine ⟨fun x S c he hw hd hc hcu hm hgd => ?_, ⟨_, rfl⟩, .inl ⟨rfl, fun x => .inl rfl⟩⟩
        obtain ⟨h19, h16, -⟩ := hd
        refine TOps.load1 h19 ti3 (by first | exact Rd.lit (by repeat (first | exact List.Mem.head _ | apply List.Mem.tail)) rfl | (repeat (first | assumption | exact Rd.fld (by assumption) 0 rfl | apply Rd.up))) rfl ?_
        exact TOps.fd x rfl rfl
      · refine ⟨fun x S c he hw hd hc hcu hm hgd => ?_, ⟨_, rfl⟩, .inl ⟨rfl, fun x => .inl rfl⟩⟩
        obtain ⟨h20, h16, -⟩ := hd
        refine TOps.shl (r := ((2 ^ F.vars.toNat : Nat) : Int)) rfl h20 (by omega) (ishl_one (by omega)) rfl ?_
        exact TOps.fd x rfl rfl
      · refine ⟨fun x S c he hw hd hc hcu hm hgd => ?_, ⟨_, rfl⟩, .inl ⟨rfl, fun x => .inl rfl⟩⟩
        obtain ⟨h18, h21, h16, -⟩ := hd
        refine TOps.geq h18 h21 rfl ?_
        exact TOps.fd x rfl rfl
      · refine ⟨fun x S c he hw hd hc hcu hm _ => ?_, trivial⟩
        obtain ⟨h16, h22, -⟩ := hd
        refine TOps.pickr (r := .bool (decide (y < 0 ∨ ((2 ^ F.vars.toNat : Nat) : Int) ≤ y ∨ n < 0 ∨ ((2 ^ F.vars.toNat : Nat) : Int) ≤ n))) h16 rfl h22 (by rw [hP]; rfl) rfl ?_
        exact TOps.fd x rfl rfl
      ) ?_
    refine Nrm.next ?_
    refine Tri.cond rfl (fun hc2 => ?_) (fun hc2 => ?_)
    · try simp only [decide_eq_true_eq, decide_eq_false_iff_not, Bool.and_eq_true, Bool.or_eq_true, Bool.not_eq_true', Bool.and_eq_false_iff, Bool.or_eq_false_iff, Bool.not_eq_false', Int.not_lt, Int.not_le, ne_eq, Decidable.not_not, Option.isSome_iff_ne_none, Option.isNone_iff_eq_none] at hc2
      refine Tri.seq (Tri.region ?_)
      refine TOps.makeInterface rfl Try.underlying73 rfl rfl ?_
      refine TOps.assign rfl rfl ?_
      refine TOps.next ?_
      refine Tri.ret1 (H' := H) Try.results63 (fun _ _ h => h) (.tmp rfl) l3 ⟨by unfold Fm.cubeErr; rw [he]; simp only; rw [if_pos (by omega)]; rfl, rfl⟩
    try simp only [decide_eq_true_eq, decide_eq_false_iff_not, Bool.and_eq_true, Bool.or_eq_true, Bool.not_eq_true', Bool.and_eq_false_iff, Bool.or_eq_false_iff, Bool.not_eq_false', Int.not_lt, Int.not_le, ne_eq, Decidable.not_not, Option.isSome_iff_ne_none, Option.isNone_iff_eq_none] at hc2
    refine Tri.fin ?_
    refine Nrm.next ?_
    refine Tri.seq ?_
    refine Tri.seq (Tri.region ?_)
    refine TOps.field0 rfl Try.underlying88 rfl rfl ti3 rfl rfl rfl ?_
    refine TOps.load1 rfl ti3 (by first | exact Rd.lit (by repeat (first | exact List.Mem.head _ | apply List.Mem.tail)) rfl | (repeat (first | assumption | exact Rd.fld (by assumption) 0 rfl | apply Rd.up))) rfl ?_
    first | refine TOps.fieldB 1 rfl Try.underlying88 rfl rfl ti3 rfl rfl rfl ?_ | refine TOps.fieldN 1 rfl Try.underlying88 rfl rfl ti3 rfl rfl rfl ?_
    refine TOps.load1 rfl ti3 (by first | exact Rd.lit (by repeat (first | exact List.Mem.head _ | apply List.Mem.tail)) rfl | (repeat (first | assumption | exact Rd.fld (by assumption) 1 rfl | apply Rd.up))) rfl ?_
    refine TOps.and rfl rfl rfl rfl ?_
    refine TOps.neqI rfl rfl rfl ?_
    refine TOps.next ?_
    refine Tri.cond rfl (fun hc3 => ?_) (fun hc3 => ?_)
    · try simp only [decide_eq_true_eq, decide_eq_false_iff_not, Bool.and_eq_true, Bool.or_eq_true, Bool.not_eq_true', Bool.and_eq_false_iff, Bool.or_eq_false_iff, Bool.not_eq_false', Int.not_lt, Int.not_le, ne_eq, Decidable.not_not, Option.isSome_iff_ne_none, Option.isNone_iff_eq_none] at hc3
      refine Tri.seq (Tri.region ?_)
      refine TOps.makeInterface rfl Try.underlying73 rfl rfl ?_
      refine TOps.assign rfl rfl ?_
      refine TOps.next ?_
      refine Tri.ret1 (H' := H) Try.results63 (fun _ _ h => h) (.tmp rfl) l3 ⟨by unfold Fm.cubeErr; rw [he]; simp only; rw [if_neg (by omega), if_pos hc3]; rfl, rfl⟩
    try simp only [decide_eq_true_eq, decide_eq_false_iff_not, Bool.and_eq_true, Bool.or_eq_true, Bool.not_eq_true', Bool.and_eq_false_iff, Bool.or_eq_false_iff, Bool.not_eq_false', Int.not_lt, Int.not_le, ne_eq, Decidable.not_not, Option.isSome_iff_ne_none, Option.isNone_iff_eq_none] at hc3
    refine Tri.fin ?_
    refine Nrm.next ?_
    refine Tri.seq (Tri.region ?_)
    refine TOps.assign rfl rfl ?_
    refine TOps.next ?_
    refine Tri.ret1 (H' := H) Try.results63 (fun _ _ h => h) (.tmp rfl) l3 ⟨by unfold Fm.cubeErr; rw [he]; simp only; rw [if_neg (by omega), if_neg (by omega)]; rfl, rfl⟩
theorem tvalues_g {H : List Ent} {fv : Value} {F : Fm} (hF : RF H fv F) (hg : F.Good) (y n : Int) :
    Gives Try.prog 64 [fv, .agg (List.toArray [.int .i64 y, .int .i64 n])] H (fun u H' => ∃ b cap, u = slV (some b) 0 (F.vars.toNat + F.nodes.length) cap ∧ row (some b) 3 1 cap (nats (F.tvals y n)) :: H = H') := by
  have hF0 := hF
  obtain ⟨a, off, cap, nsp, rfl, hN⟩ := hF
  have g0 := hg.v0; have g1 := hg.v1; have g2 := hg.n1
  obtain ⟨v, hv⟩ := Int.eq_ofNat_of_zero_le g0
  have hvn : F.vars.toNat = v := by omega
  have hle2 := tvals_le hg y n
  unfold Fm.tvals
  rw [hvn] at hle2 ⊢
  rw [hv]
  refine Gives.enter Try.func64 rfl (by exact Try.ntmps64) rfl ?_
  refine Tri.seq (Tri.region ?_)
  refine TOps.boxN rfl ti24 rfl rfl (fun b2 => ?_)
  refine TOps.hide (fun H1 l1 s1 r1 => ?_)
  replace hN := hN.le l1
  refine TOps.boxN rfl ti88 rfl rfl (fun b3 => ?_)
  refine TOps.hide (fun H2 l2 s2 r2 => ?_)
  replace hN := hN.le l2; replace r1 := r1.le l2; have s3 := s1.trans s2; have l3 := l2.trans l1
  refine TOps.assign rfl rfl ?_
  refine TOps.next ?_
  refine Tri.seq (Tri.region ?_)
  refine TOps.field0 rfl Try.underlying24 rfl rfl ti3 rfl rfl rfl ?_
  refine TOps.load1 rfl ti3 (by first | exact Rd.lit (by repeat (first | exact List.Mem.head _ | apply List.Mem.tail)) rfl | (repeat (first | assumption | exact Rd.fld (by assumption) 0 rfl | apply Rd.up))) rfl ?_
  first | refine TOps.fieldB 1 rfl Try.underlying24 rfl rfl ti22 rfl rfl rfl ?_ | refine TOps.fieldN 1 rfl Try.underlying24 rfl rfl ti22 rfl rfl rfl ?_
  refine TOps.load1 rfl ti22 (by first | exact Rd.lit (by repeat (first | exact List.Mem.head _ | apply List.Mem.tail)) rfl | (repeat (first | assumption | exact Rd.fld (by assumption) 1 rfl | apply Rd.up))) rfl ?_
  refine TOps.len rfl Try.underlying22 rfl ?_
  refine TOps.add (r := ((v + F.nodes.length : Nat) : Int)) rfl rfl (by rw [wrapI (by omega) (by omega)]; omega) rfl ?_
  refine TOps.make1 (L := 0) rfl rfl Try.underlying53 ti3 (by omega) (by omega) (by omega) rfl (fun b18 => ?_)
  refine TOps.assign rfl rfl ?_
  refine TOps.next ?_
  refine Tri.seq ?_
  refine Tri.seq (Tri.region ?_)
  refine TOps.field0 rfl Try.underlying24 rfl rfl ti3 rfl rfl rfl ?_
  refine TOps.load1 rfl ti3 (by first | exact Rd.lit (by repeat (first | exact List.Mem.head _ | apply List.Mem.tail)) rfl | (repeat (first | assumption | exact Rd.fld (by assumption) 0 rfl | apply Rd.up))) rfl ?_
  refine TOps.move rfl rfl ?_
  refine TOps.next ?_
  refine Tri.range (X := Nat × Nat) (fun z k => [(2, .pointer (some ⟨b2, 0, none⟩)), (3, .pointer (some ⟨b3, 0, none⟩)), (5, slV (some z.1) 0 k z.2)]) (fun z k => row (some z.1) 3 1 z.2 (nats (tevents k y n)) :: H2) (fun z k => True) (by omega) rfl rfl rfl (fun _ _ => ⟨rfl, rfl, rfl, rfl⟩) (b18, v + F.nodes.length) trivial ⟨rfl, rfl, rfl, trivial⟩ (by repeat (first | exact Le.refl _ | assumption | apply Le.drop)) (fun k z hlt hp => ?_) (fun z ac wc hp hS hM => ?_)
  · skip
    obtain ⟨zb, zc⟩ := z
    have htl := tevents_length k y n
    refine Tri.seq (Tri.region ?_)
    refine TOps.move rfl rfl ?_
    refine TOps.assign rfl rfl ?_
    refine TOps.next ?_
    have hll : ∀ (x : Nat × Nat × Nat) (c : Nat), Le (match c with | 0 => row (some zb) 3 1 zc (nats (tevents k y n)) :: H2 | 1 => row (some x.1) 3 1 1 [.int .i64 (lev (bitB y k) (bitB n k) : Nat)] :: row (some zb) 3 1 zc (nats (tevents k y n)) :: H2 | _ + 2 => row (some x.2.1) 3 1 x.2.2 (nats (tevents k y n) ++ [.int .i64 (lev (bitB y k) (bitB n k) : Nat)]) :: H2) H2 := by
      intro x c
      match c with
      | 0 => exact Le.drop (Le.refl _)
      | 1 => exact Le.drop (Le.drop (Le.refl _))
      | _ + 2 => exact Le.drop (Le.refl _)
    refine Tri.drawX (X := Nat × Nat × Nat) rfl [(2, .pointer (some ⟨b2, 0, none⟩)), (3, .pointer (some ⟨b3, 0, none⟩)), (6, .int .i64 k), (20, .int .i64 v), (21, .int .i64 k)] [(5, slV (some zb) 0 k zc)] (fun x => [_, _, _, _, _, _, _, _, _, _, _, _, _, _, slV (some x.1) 0 1 1, slV (some x.2.1) 0 (k + 1) x.2.2, slV (some x.2.1) 0 (k + 1) x.2.2]) (fun x c => match c with | 0 => row (some zb) 3 1 zc (nats (tevents k y n)) :: H2 | 1 => row (some x.1) 3 1 1 [.int .i64 (lev (bitB y k) (bitB n k) : Nat)] :: row (some zb) 3 1 zc (nats (tevents k y n)) :: H2 | _ + 2 => row (some x.2.1) 3 1 x.2.2 (nats (tevents k y n) ++ [.int .i64 (lev (bitB y k) (bitB n k) : Nat)]) :: H2) [14, 15] (0, 0, 0) [16] rfl rfl ⟨rfl, rfl, rfl, rfl, rfl, trivial⟩ ⟨rfl, trivial⟩ (by repeat (first | exact Le.refl _ | assumption | apply Le.drop)) (by
      refine ⟨?_, ?_, ?_, ?_, ?_, ?_, ?_, ?_, ?_, ?_, ?_, ?_, ?_, ?_, ?_, ?_, ?_, trivial⟩
      · refine ⟨fun x S c he hw hd hc hcu hm _ => ?_, trivial⟩
        refine TOps.move (hw _ _ rfl) rfl ?_
        exact TOps.fd x rfl rfl
      · refine ⟨fun x S c he hw hd hc hcu hm _ => ?_, trivial⟩
        refine TOps.field0 (he _ _ rfl) Try.underlying88 rfl rfl ti3 rfl rfl rfl ?_
        exact TOps.fd x rfl rfl
      · refine ⟨fun x S c he hw hd hc hcu hm _ => ?_, trivial⟩
        obtain ⟨h1, -⟩ := hd
        refine TOps.load1 h1 ti3 (Rd.le (by first | exact Rd.lit (by repeat (first | exact List.Mem.head _ | apply List.Mem.tail)) rfl | (repeat (first | assumption | exact Rd.fld (by assumption) 0 rfl | apply Rd.up))) (hll x c)) rfl ?_
        exact TOps.fd x rfl rfl
      · refine ⟨fun x S c he hw hd hc hcu hm _ => ?_, trivial⟩
        refine TOps.move (he _ _ rfl) rfl ?_
        exact TOps.fd x rfl rfl
      · refine ⟨fun x S c he hw hd hc hcu hm _ => ?_, trivial⟩
        obtain ⟨h2, h3, -⟩ := hd
        refine TOps.shr h2 h3 (by omega) rfl rfl ?_
        exact TOps.fd x rfl rfl
      · refine ⟨fun x S c he hw hd hc hcu hm _ => ?_, trivial⟩
        obtain ⟨h4, -⟩ := hd
        refine TOps.and h4 rfl rfl rfl ?_
        exact TOps.fd x rfl rfl
      · refine ⟨fun x S c he hw hd hc hcu hm _ => ?_, trivial⟩
        obtain ⟨h5, -⟩ := hd
        refine TOps.eqlI h5 rfl rfl ?_
        exact TOps.fd x rfl rfl
      · refine ⟨fun x S c he hw hd hc hcu hm _ => ?_, trivial⟩
        first | refine TOps.fieldB 1 (he _ _ rfl) Try.underlying88 rfl rfl ti3 rfl rfl rfl ?_ | refine TOps.fieldN 1 (he _ _ rfl) Try.underlying88 rfl rfl ti3 rfl rfl rfl ?_
        exact TOps.fd x rfl rfl
      · refine ⟨fun x S c he hw hd hc hcu hm _ => ?_, trivial⟩
        obtain ⟨h7, -⟩ := hd
        refine TOps.load1 h7 ti3 (Rd.le (by first | exact Rd.lit (by repeat (first | exact List.Mem.head _ | apply List.Mem.tail)) rfl | (repeat (first | assumption | exact Rd.fld (by assumption) 1 rfl | apply Rd.up))) (hll x c)) rfl ?_
        exact TOps.fd x rfl rfl
      · refine ⟨fun x S c he hw hd hc hcu hm _ => ?_, trivial⟩
        refine TOps.move (he _ _ rfl) rfl ?_
        exact TOps.fd x rfl rfl
      · refine ⟨fun x S c he hw hd hc hcu hm _ => ?_, trivial⟩
        obtain ⟨h8, h9, -⟩ := hd
        refine TOps.shr h8 h9 (by omega) rfl rfl ?_
        exact TOps.fd x rfl rfl
      · refine ⟨fun x S c he hw hd hc hcu hm _ => ?_, trivial⟩
        obtain ⟨h10, -⟩ := hd
        refine TOps.and h10 rfl rfl rfl ?_
        exact TOps.fd x rfl rfl
      · refine ⟨fun x S c he hw hd hc hcu hm _ => ?_, trivial⟩
        obtain ⟨h11, -⟩ := hd
        refine TOps.eqlI h11 rfl rfl ?_
        exact TOps.fd x rfl rfl
      · refine ⟨fun x S c he hw hd hc hcu hm _ => ?_, trivial⟩
        obtain ⟨h6, h12, -⟩ := hd
        refine TOps.call (vs := [_, _]) Try.call83 ⟨h6, h12, trivial⟩ (level_g _ _) rfl ?_
        rintro _ _ ⟨rfl, rfl⟩
        exact TOps.fd x rfl rfl
      · refine ⟨fun x S c he hw hd hc hcu hm _ => ?_, trivial⟩
        obtain ⟨h13, -⟩ := hd
        obtain rfl : c = 0 := hm rfl
        refine TOps.buildSlice (vs := [_]) (xs := [_]) Try.underlying53 ti3 ⟨rfl, h13, trivial⟩ rfl rfl rfl rfl rfl rfl (by decide) rfl (fun b38 => ?_)
        refine TOps.fin (Nrm.draw (b38, x.2) ?_ rfl (Le.refl _))
        intro j hj hcj; rcases j with _|_|_|_|_|_|_|_|_|_|_|_|_|_|_|_|_|j <;> first | rfl | exact absurd rfl hj | exact absurd hcj (by decide)
      · refine ⟨fun x S c he hw hd hc hcu hm _ => ?_, trivial⟩
        obtain ⟨h0, h14, h13, -⟩ := hd
        obtain rfl : c = 1 := hm rfl
        refine TOps.appendLit h0 h14 Try.underlying53 ti3 rfl (fun _ _ => Upd.here) rfl (by simp [htl]) rfl (by omega) (by omega) (by simp) rfl (fun b39 cap39 => ?_)
        refine TOps.fin (Nrm.draw (x.1, b39, cap39) ?_ rfl (Le.refl _))
        intro j hj hcj; rcases j with _|_|_|_|_|_|_|_|_|_|_|_|_|_|_|_|_|j <;> first | rfl | exact absurd rfl hj | exact absurd hcj (by decide)
      · refine ⟨fun x S c he hw hd hc hcu hm _ => ?_, trivial⟩
        obtain ⟨h15, _, h0, h1, h2, h3, h4, h5, h6, h7, h8, h9, h10, h11, h12, h13, h14, _, -⟩ := hd
        refine TOps.assign h15 rfl ?_
        exact TOps.fd x rfl rfl
      ) (fun w => ?_)
    refine Nrm.body w.2 trivial ⟨rfl, rfl, rfl, rfl, rfl, trivial⟩ (Le.rowEq (by simp [tevents, List.range_succ]))
  have el : nats (tevents v y n) = nats (genFrom tfun (tevents v y n) (F.nodes.take 0)) := by simp [genFrom]
  rw [el] at hM
  refine Nrm.of hS hM ?_
  refine Nrm.next ?_
  refine Tri.seq ?_
  refine Tri.seq (Tri.region ?_)
  first | refine TOps.fieldB 1 rfl Try.underlying24 rfl rfl ti22 rfl rfl rfl ?_ | refine TOps.fieldN 1 rfl Try.underlying24 rfl rfl ti22 rfl rfl rfl ?_
  refine TOps.load1 rfl ti22 (by first | exact Rd.lit (by repeat (first | exact List.Mem.head _ | apply List.Mem.tail)) rfl | (repeat (first | assumption | exact Rd.fld (by assumption) 1 rfl | apply Rd.up))) rfl ?_
  refine TOps.len rfl Try.underlying22 rfl ?_
  refine TOps.move rfl rfl ?_
  refine TOps.next ?_
  refine Tri.range (X := Nat × Nat) (fun z k => [(5, slV (some z.1) 0 (v + k) z.2), (42, slV a off F.nodes.length cap nsp)]) (fun z k => row (some z.1) 3 1 z.2 (nats (genFrom tfun (tevents v y n) (F.nodes.take k))) :: H2) (fun z k => True) (by omega) rfl rfl rfl (fun _ _ => ⟨rfl, rfl, rfl, rfl⟩) z trivial ⟨rfl, rfl, trivial⟩ (by repeat (first | exact Le.refl _ | assumption | apply Le.drop)) (fun k z hlt hp => ?_) (fun z ac wc hp hS hM => ?_)
  · skip
    obtain ⟨zb, zc⟩ := z
    obtain ⟨nb, aa, ao, acap, asp, rfl, rfl, hn⟩ := hN.at hlt
    have hfit := hg.fits k hlt
    have hal := hfit.len
    have hcells := hn.cells
    have hvl : (genFrom tfun (tevents v y n) (F.nodes.take k)).length = v + k := by rw [genFrom_length, tevents_length, List.length_take]; omega
    have htk := genFrom_take_succ tfun (v := tevents v y n) hlt
    have h2k := hle2 k (by omega)
    generalize F.nodes[k] = d at *
    generalize genFrom tfun (tevents v y n) (F.nodes.take k) = vs at *
    refine Tri.seq (Tri.region ?_)
    refine TOps.indexAddr (off' := off + k * 3) rfl rfl Try.underlying22 ti102 (by omega) (by omega) (by simp) rfl ?_
    refine TOps.loadN rfl ti102 (by first | exact Rd.all (by repeat (first | exact List.Mem.head _ | apply List.Mem.tail)) | (repeat (first | assumption | apply Rd.up))) rfl rfl ?_
    refine TOps.alloc ti102 rfl (fun b8 => ?_)
    refine TOps.storeN rfl rfl ti102 rfl rfl (by repeat (first | exact Upd.here | apply Upd.there)) (by first | decide | (simp; done) | (simp; omega)) ?_
    refine TOps.next ?_
    refine Tri.seq (Tri.region ?_)
    refine TOps.alloc ti148 rfl (fun b9 => ?_)
    refine TOps.next ?_
    refine Tri.seq ?_
    refine Tri.seq (Tri.region ?_)
    first | refine TOps.fieldB 2 rfl Try.underlying102 rfl rfl ti53 rfl rfl rfl ?_ | refine TOps.fieldN 2 rfl Try.underlying102 rfl rfl ti53 rfl rfl rfl ?_
    refine TOps.load1 rfl ti53 (by first | exact Rd.lit (by repeat (first | exact List.Mem.head _ | apply List.Mem.tail)) rfl | (repeat (first | assumption | exact Rd.fld (by assumption) 2 rfl | apply Rd.up))) rfl ?_
    refine TOps.len rfl Try.underlying53 rfl ?_
    refine TOps.move rfl rfl ?_
    refine TOps.next ?_
    refine Tri.range (X := Unit) (fun q j => [(5, slV (some zb) 0 (v + k) zc), (42, slV (some nb) off F.nodes.length cap), (43, .int .i64 F.nodes.length), (44, .int .i64 k), (8, .pointer (some ⟨b8, 0, none⟩)), (9, .pointer (some ⟨b9, 0, none⟩)), (49, slV aa ao d.args.length acap asp)]) (fun q j => row (some b9) 148 3 1 (nats (tcs vs (d.args.take j))) :: row (some b8) 102 3 1 [.int .i64 d.kind, .int .i64 d.k, slV aa ao d.args.length acap asp] :: row (some zb) 3 1 zc (nats vs) :: H2) (fun q j => True) (by omega) rfl rfl rfl (fun _ _ => ⟨rfl, rfl, rfl, rfl⟩) () trivial ⟨rfl, rfl, rfl, rfl, rfl, rfl, rfl, trivial⟩ (Le.rowEq (by simp [tcs, tc])) (fun j q hltj hpj => ?_) (fun q ac wc hpj hS hM => ?_)
    · skip
      obtain ⟨ab, rfl, rfl, ha⟩ := hn.args.at hltj
      have hb := hfit.args _ (List.getElem_mem hltj)
      have hv2 := getD_le2 h2k d.args[j].toNat
      have htcs := tcs_take_succ (v := vs) hltj hv2
      have htl := tcs_getD_le vs (d.args.take j) (vs.getD d.args[j].toNat 2); rw [List.length_take] at htl
      have hlen3 : (tcs vs (d.args.take j)).length = 3 := rfl
      refine Tri.seq (Tri.region ?_)
      refine TOps.indexAddr (off' := ao + j) rfl rfl Try.underlying53 ti3 (by omega) (by omega) (by simp) rfl ?_
      refine TOps.load1 rfl ti3 (by first | exact Rd.lit (by repeat (first | exact List.Mem.head _ | apply List.Mem.tail)) rfl | (repeat (first | assumption | apply Rd.up))) rfl ?_
      refine TOps.assign rfl rfl ?_
      refine TOps.next ?_
      refine Tri.region ?_
      refine TOps.move rfl rfl ?_
      refine TOps.move rfl rfl ?_
      refine TOps.indexAddr (off' := d.args[j].toNat) rfl rfl Try.underlying53 ti3 (by omega) (by omega) (by simp) rfl ?_
      refine TOps.load1 (v := .int .i64 (vs.getD d.args[j].toNat 2 : Nat)) rfl ti3 (Rd.lit (.tail _ (.tail _ (.head _))) (by have h7 : d.args[j].toNat < vs.length := (by omega); rw [nats_get h7, List.getD_eq_getElem?_getD, List.getD_eq_getElem?_getD, List.getElem?_eq_getElem h7]; rfl)) rfl ?_
      refine TOps.indexAddrA (off' := vs.getD d.args[j].toNat 2) rfl rfl Try.underlying148 ti3 (by omega) (by omega) (by simp) rfl ?_
      refine TOps.load1 (v := .int .i64 ((tcs vs (d.args.take j)).getD (vs.getD d.args[j].toNat 2) 0 : Nat)) rfl ti3 (Rd.lit (.head _) (nats_get (by omega))) rfl ?_
      refine TOps.add (r := (((tcs vs (d.args.take j)).getD (vs.getD d.args[j].toNat 2) 0 + 1 : Nat) : Int)) rfl rfl (by rw [wrapI (by omega) (by omega)]; omega) rfl ?_
      refine TOps.indexAddrA (off' := vs.getD d.args[j].toNat 2) rfl rfl Try.underlying148 ti3 (by omega) (by omega) (by simp) rfl ?_
      refine TOps.store1 rfl rfl ti3 rfl rfl Upd.here (by simp only [List.length_map]; omega) ?_
      refine TOps.fin ?_
      refine Nrm.body () trivial ⟨rfl, rfl, rfl, rfl, rfl, rfl, rfl, rfl, rfl, trivial⟩ (Le.rowEq (by rw [htcs, nats_set]))
    rw [List.take_length] at hM
    have t0 := tc_le vs 0 d.args; have t1 := tc_le vs 1 d.args; have t2 := tc_le vs 2 d.args
    refine Nrm.of hS hM ?_
    refine Nrm.next ?_
    refine Tri.region ?_
    refine TOps.move rfl rfl ?_
    refine TOps.loadN rfl ti102 (by first | exact Rd.all (by repeat (first | exact List.Mem.head _ | apply List.Mem.tail)) | (repeat (first | assumption | apply Rd.up))) rfl rfl ?_
    refine TOps.loadN (vs := [.int .i64 (tc vs 0 d.args : Nat), .int .i64 (tc vs 1 d.args : Nat), .int .i64 (tc vs 2 d.args : Nat)]) rfl ti148 (Rd.all (.head _)) rfl rfl ?_
    refine TOps.call (vs := [_, _]) Try.call84 ⟨rfl, rfl, trivial⟩ (tnode_g d hfit aa asp ao acap _ _ _ (by omega) (by omega) (by omega)) rfl ?_
    rintro _ _ ⟨rfl, rfl⟩
    refine TOps.buildSlice (vs := [_]) (xs := [_]) Try.underlying53 ti3 ⟨rfl, rfl, trivial⟩ rfl rfl rfl rfl rfl rfl (by decide) rfl (fun b68 => ?_)
    refine TOps.appendLit rfl rfl Try.underlying53 ti3 rfl (fun _ _ => (by repeat (first | exact Upd.here | apply Upd.there))) rfl (by simp [hvl]) rfl (by omega) (by omega) (by simp) rfl (fun b69 cap69 => ?_)
    refine TOps.assign rfl rfl ?_
    refine TOps.fin ?_
    refine Nrm.body (b69, cap69) trivial ⟨rfl, rfl, rfl, rfl, trivial⟩ (Le.drop (Le.drop (Le.rowEq (by rw [htk]; simp [tfun]))))
  rw [List.take_length] at hM
  refine Nrm.of hS hM ?_
  refine Nrm.next ?_
  refine Tri.seq (Tri.region ?_)
  refine TOps.move rfl rfl ?_
  refine TOps.assign rfl rfl ?_
  refine TOps.next ?_
  refine Tri.ret1 (H' := _) Try.results64 (fun _ _ h => h) (.tmp rfl) (Le.consOf s3) ⟨z.1, z.2, rfl, rfl⟩
end Go.Proofs
namespace Go.Proofs
open Go.GL
set_option linter.unusedVariables false
set_option linter.unusedSimpArgs false
def exF09 : Fm := ⟨3, [⟨2, 0, [1, 2]⟩, ⟨3, 0, [0, 3]⟩], 4⟩
theorem tvalue_g {H : List Ent} {fv : Value} {F : Fm} (hF : RF H fv F) (hk : F.ok) (y n : Int) :
    Gives Try.prog 37 [fv, .agg (List.toArray [.int .i64 y, .int .i64 n])] H (R1 (.tuple (List.toArray [.int .i64 (bif (F.cubeErr y n).isNone then (F.tval y n F.top.toNat : Int) else 0), errV 73 (F.cubeErr y n)])) H) := by
  have hF0 := hF
  obtain ⟨a, off, cap, nsp, rfl, hN⟩ := hF
  refine Gives.enter Try.func37 rfl (by exact Try.ntmps37) rfl ?_
  refine Tri.seq (Tri.region ?_)
  refine TOps.boxN rfl ti24 rfl rfl (fun b2 => ?_)
  refine TOps.hide (fun H1 l1 s1 r1 => ?_)
  replace hF0 := hF0.le l1
  refine TOps.boxN rfl ti88 rfl rfl (fun b3 => ?_)
  refine TOps.hide (fun H2 l2 s2 r2 => ?_)
  replace hF0 := hF0.le l2; replace r1 := r1.le l2; have l3 := l2.trans l1
  refine TOps.assign rfl rfl ?_
  refine TOps.assign rfl rfl ?_
  refine TOps.next ?_
  refine Tri.seq ?_
  refine Tri.seq (Tri.region ?_)
  refine TOps.loadN rfl ti24 (by first | exact Rd.all (by repeat (first | exact List.Mem.head _ | apply List.Mem.tail)) | (repeat (first | assumption | apply Rd.up))) rfl rfl ?_
  refine TOps.loadN rfl ti88 (by first | exact Rd.all (by repeat (first | exact List.Mem.head _ | apply List.Mem.tail)) | (repeat (first | assumption | apply Rd.up))) rfl rfl ?_
  refine TOps.call (vs := [_, _]) Try.call63 ⟨rfl, rfl, trivial⟩ (tcheck_g hF0 hk y n) rfl ?_
  rintro _ _ ⟨rfl, rfl⟩
  refine TOps.assign rfl rfl ?_
  refine TOps.next ?_
  refine Tri.seq (Tri.region ?_)
  refine TOps.move rfl rfl ?_
  refine TOps.neqNil rfl Try.underlying34 rfl ?_
  refine TOps.next ?_
  refine Tri.cond rfl (fun hc1 => ?_) (fun hc1 => ?_)
  · try simp only [decide_eq_true_eq, decide_eq_false_iff_not, Bool.and_eq_true, Bool.or_eq_true, Bool.not_eq_true', Bool.and_eq_false_iff, Bool.or_eq_false_iff, Bool.not_eq_false', Int.not_lt, Int.not_le, ne_eq, Decidable.not_not, Option.isSome_iff_ne_none, Option.isNone_iff_eq_none] at hc1
    obtain ⟨e, he⟩ := Option.ne_none_iff_exists'.1 hc1
    refine Tri.seq (Tri.region ?_)
    refine TOps.move rfl rfl ?_
    refine TOps.assign rfl rfl ?_
    refine TOps.assign rfl rfl ?_
    refine TOps.next ?_
    refine Tri.ret2 (H' := H) Try.results37 (fun _ _ h => h) (.tmp rfl) (.tmp rfl) l3 ⟨by rw [he]; rfl, rfl⟩
  try simp only [decide_eq_true_eq, decide_eq_false_iff_not, Bool.and_eq_true, Bool.or_eq_true, Bool.not_eq_true', Bool.and_eq_false_iff, Bool.or_eq_false_iff, Bool.not_eq_false', Int.not_lt, Int.not_le, ne_eq, Decidable.not_not, Option.isSome_iff_ne_none, Option.isNone_iff_eq_none] at hc1
  have he : F.cubeErr y n = none := by simpa using hc1
  have hg := (Fm.cubeErr_none he).1
  have g0 := hg.v0; have g1 := hg.v1; have g2 := hg.n1; have gt := hg.topLt
  have htl := F.tvals_length y n
  refine Tri.fin ?_
  refine Nrm.next ?_
  refine Tri.seq ?_
  have hll : ∀ (x : Nat × Nat) (c : Nat), Le (match c with | 0 => H2 | _ + 1 => row (some x.1) 3 1 x.2 (nats (F.tvals y n)) :: H2) H2 := by
    intro x c; cases c; exact Le.refl _; exact Le.drop (Le.refl _)
  refine Tri.drawX (X := Nat × Nat) rfl [(2, .pointer (some ⟨b2, 0, none⟩)), (3, .pointer (some ⟨b3, 0, none⟩))] [] (fun x => [_, _, slV (some x.1) 0 (F.vars.toNat + F.nodes.length) x.2, _, _, .pointer (some ⟨x.1, F.top.toNat, none⟩), _, _, _]) (fun x c => match c with | 0 => H2 | _ + 1 => row (some x.1) 3 1 x.2 (nats (F.tvals y n)) :: H2) [2] (0, 0) [7, 8] rfl rfl ⟨rfl, rfl, trivial⟩ trivial (by repeat (first | exact Le.refl _ | assumption | apply Le.drop)) (by
    refine ⟨?_, ?_, ?_, ?_, ?_, ?_, ?_, ?_, ?_, trivial⟩
    · refine ⟨fun x S c he hw hd hc hcu hm _ => ?_, trivial⟩
      refine TOps.loadN (he _ _ rfl) ti24 (Rd.le (by first | exact Rd.all (by repeat (first | exact List.Mem.head _ | apply List.Mem.tail)) | (repeat (first | assumption | apply Rd.up))) (hll x c)) rfl rfl ?_
      exact TOps.fd x rfl rfl
    · refine ⟨fun x S c he hw hd hc hcu hm _ => ?_, trivial⟩
      refine TOps.loadN (he _ _ rfl) ti88 (Rd.le (by first | exact Rd.all (by repeat (first | exact List.Mem.head _ | apply List.Mem.tail)) | (repeat (first | assumption | apply Rd.up))) (hll x c)) rfl rfl ?_
      exact TOps.fd x rfl rfl
    · refine ⟨fun x S c he hw hd hc hcu hm _ => ?_, trivial⟩
      obtain ⟨h0, h1, -⟩ := hd
      obtain rfl : c = 0 := hm rfl
      refine TOps.call (vs := [_, _]) Try.call64 ⟨h0, h1, trivial⟩ (tvalues_g hF0 hg y n) rfl ?_
      rintro _ _ ⟨b, cp, rfl, rfl⟩
      refine TOps.fin (Nrm.draw (b, cp) ?_ rfl (Le.refl _))
      intro j hj hcj; rcases j with _|_|_|_|_|_|_|_|_|j <;> first | rfl | exact absurd rfl hj | exact absurd hcj (by decide)
    · refine ⟨fun x S c he hw hd hc hcu hm _ => ?_, trivial⟩
      first | refine TOps.fieldB 2 (he _ _ rfl) Try.underlying24 rfl rfl ti3 rfl rfl rfl ?_ | refine TOps.fieldN 2 (he _ _ rfl) Try.underlying24 rfl rfl ti3 rfl rfl rfl ?_
      exact TOps.fd x rfl rfl
    · refine ⟨fun x S c he hw hd hc hcu hm _ => ?_, trivial⟩
      obtain ⟨h3, -⟩ := hd
      refine TOps.load1 h3 ti3 (Rd.le (by first | exact Rd.lit (by repeat (first | exact List.Mem.head _ | apply List.Mem.tail)) rfl | (repeat (first | assumption | exact Rd.fld (by assumption) 2 rfl | apply Rd.up))) (hll x c)) rfl ?_
      exact TOps.fd x rfl rfl
    · refine ⟨fun x S c he hw hd hc hcu hm _ => ?_, trivial⟩
      obtain ⟨h2, h4, -⟩ := hd
      obtain ⟨c', rfl⟩ : ∃ c', c = c' + 1 := ⟨c - 1, by have : 1 ≤ c := hc; omega⟩
      refine TOps.indexAddr (off' := F.top.toNat) h2 h4 Try.underlying53 ti3 (by omega) (by omega) (by simp) rfl ?_
      exact TOps.fd x rfl rfl
    · refine ⟨fun x S c he hw hd hc hcu hm _ => ?_, trivial⟩
      obtain ⟨h5, -⟩ := hd
      obtain ⟨c', rfl⟩ : ∃ c', c = c' + 1 := ⟨c - 1, by have : 1 ≤ c := hc; omega⟩
      refine TOps.load1 (v := .int .i64 (F.tval y n F.top.toNat : Nat)) h5 ti3 (Rd.lit (.head _) (nats_getz 2 (by omega))) rfl ?_
      exact TOps.fd x rfl rfl
    · refine ⟨fun x S c he hw hd hc hcu hm _ => ?_, trivial⟩
      obtain ⟨h6, h2, h0, h1, _, h3, h4, h5, _, -⟩ := hd
      refine TOps.assign h6 rfl ?_
      exact TOps.fd x rfl rfl
    · refine ⟨fun x S c he hw hd hc hcu hm _ => ?_, trivial⟩
      obtain ⟨h7, h0, h1, h2, h3, h4, h5, h6, _, -⟩ := hd
      refine TOps.assign rfl rfl ?_
      exact TOps.fd x rfl rfl
    ) (fun w => ?_)
  refine Nrm.next ?_
  refine Tri.ret2 (H' := H) Try.results37 (fun _ _ h => h) (.tmp rfl) (.tmp rfl) (Le.drop l3) ⟨by rw [he]; rfl, rfl⟩
end Go.Proofs
namespace Go.Proofs
open Go.GL
set_option linter.unusedVariables false
set_option linter.unusedSimpArgs false
set_option maxHeartbeats 1000000 in
theorem accepts_g {H : List Ent} {fv gv : Value} {F G : Fm} (hF : RF H fv F) (hkF : F.ok) (hgF : F.Good) (hG : RF H gv G) (hkG : G.ok) (hgG : G.Good) {v : Nat} (hvF : F.vars = v) (hvG : G.vars = v) (hv8 : v ≤ 8) {T : Tr} {a sp : Option Nat} {o cap2 n : Nat} (hr : RKs H n T.ks a o sp) :
    Gives Try.prog 12 [fv, gv, .agg (List.toArray [.int .i64 T.v, slV a o T.ks.length cap2 sp, .int .i64 T.r])] H (fun u H' => ∃ ok e, u = .tuple (List.toArray [.bool ok, errV 73 e]) ∧ ((∀ B, T = BT.tr B → (B.leaves 0 0).all (accL F G) = true) → (ckT v n T 0 0).1 = none → ok = true ∧ e = none) ∧ (ok = true → e = none → ∃ B, T = BT.tr B ∧ B.valid v 0 ∧ (B.leaves 0 0).all (accL F G) = true) ∧ H = H') := by
  have hF0 := hF; have hG0 := hG
  have heF := (Fm.good_iff F).2 hgF; have heG := (Fm.good_iff G).2 hgG
  have hvv : F.vars = G.vars := by rw [hvF, hvG]
  obtain ⟨na, no, cap, sa, rfl, hN⟩ := hF
  obtain ⟨nb, mo, cbp, sb, rfl, hM⟩ := hG
  refine Gives.enter Try.func12 rfl (by exact Try.ntmps12) rfl ?_
  refine Tri.seq (Tri.region ?_)
  refine TOps.boxN rfl ti24 rfl rfl (fun b3 => ?_)
  refine TOps.hide (fun H1 l1 s1 r1 => ?_)
  replace hF0 := hF0.le l1; replace hG0 := hG0.le l1; replace hr := hr.le l1
  refine TOps.boxN rfl ti24 rfl rfl (fun b4 => ?_)
  refine TOps.hide (fun H2 l2 s2 r2 => ?_)
  replace hF0 := hF0.le l2; replace hG0 := hG0.le l2; replace r1 := r1.le l2; replace hr := hr.le l2
  refine TOps.boxN rfl ti27 rfl rfl (fun b5 => ?_)
  refine TOps.hide (fun H3 l3 s3 r3 => ?_)
  replace hF0 := hF0.le l3; replace hG0 := hG0.le l3; replace r1 := r1.le l3; replace r2 := r2.le l3; replace hr := hr.le l3; have l4 := l3.trans (l2.trans l1)
  refine TOps.assign rfl rfl ?_
  refine TOps.assign rfl rfl ?_
  refine TOps.next ?_
  refine Tri.seq ?_
  refine Tri.seq (Tri.region ?_)
  refine TOps.loadN (vs := fc3 F na no cap sa) rfl ti24 r1 rfl rfl ?_
  refine TOps.loadN (vs := fc3 G nb mo cbp sb) rfl ti24 r2 rfl rfl ?_
  refine TOps.call (vs := [_, _]) Try.call20 ⟨rfl, rfl, trivial⟩ (ccheck_g hF0 hkF heF hG0 hkG heG hvv) rfl ?_
  rintro _ _ ⟨rfl, rfl⟩
  refine TOps.assign rfl rfl ?_
  refine TOps.next ?_
  refine Tri.seq (Tri.region ?_)
  refine TOps.move rfl rfl ?_
  refine TOps.neqNil (T := 73) (o := none) rfl Try.underlying34 rfl ?_
  refine TOps.next ?_
  refine Tri.cond rfl (fun hc1 => ?_) (fun hc1 => ?_)
  · exact absurd hc1 (by first | decide | simp)
  try simp only [decide_eq_true_eq, decide_eq_false_iff_not, Bool.and_eq_true, Bool.or_eq_true, Bool.not_eq_true', Bool.and_eq_false_iff, Bool.or_eq_false_iff, Bool.not_eq_false', Int.not_lt, Int.not_le, ne_eq, Decidable.not_not, Option.isSome_iff_ne_none, Option.isNone_iff_eq_none] at hc1
  skip
  refine Tri.fin ?_
  refine Nrm.next ?_
  refine Tri.seq (Tri.region ?_)
  refine TOps.loadN (vs := [.int .i64 T.v, slV a o T.ks.length cap2 sp, .int .i64 T.r]) rfl ti27 r3 rfl rfl ?_
  refine TOps.field0 rfl Try.underlying24 rfl rfl ti3 rfl rfl rfl ?_
  refine TOps.load1 (v := natV v) rfl ti3 (by have := Rd.fld r1 0 rfl; rw [hvF] at this; exact this) rfl ?_
  refine TOps.call (vs := [_, _]) Try.call36 ⟨rfl, rfl, trivial⟩ (leavesAll_g (v := v) (by omega) hr) rfl ?_
  rintro _ _ ⟨lb, lc, ls, rfl, hls, rfl⟩
  refine TOps.move rfl rfl ?_
  refine TOps.extract rfl rfl rfl ?_
  refine TOps.extract rfl rfl rfl ?_
  refine TOps.assign rfl rfl ?_
  refine TOps.assign rfl rfl ?_
  refine TOps.next ?_
  refine Tri.seq ?_
  refine Tri.seq (Tri.region ?_)
  refine TOps.move rfl rfl ?_
  refine TOps.neqNil (T := 73) (o := (ckT v n T 0 0).1) rfl Try.underlying34 rfl ?_
  refine TOps.next ?_
  refine Tri.cond rfl (fun hc2 => ?_) (fun hc2 => ?_)
  · try simp only [decide_eq_true_eq, decide_eq_false_iff_not, Bool.and_eq_true, Bool.or_eq_true, Bool.not_eq_true', Bool.and_eq_false_iff, Bool.or_eq_false_iff, Bool.not_eq_false', Int.not_lt, Int.not_le, ne_eq, Decidable.not_not, Option.isSome_iff_ne_none, Option.isNone_iff_eq_none] at hc2
    refine Tri.seq (Tri.region ?_)
    refine TOps.move rfl rfl ?_
    refine TOps.assign rfl rfl ?_
    refine TOps.assign rfl rfl ?_
    refine TOps.next ?_
    refine Tri.ret2 (H' := H) Try.results12 (fun _ _ h => h) (.tmp rfl) (.tmp rfl) (Le.drop l4) ⟨false, (ckT v n T 0 0).1, rfl, fun _ h => (by rw [h] at hc2; exact absurd hc2 (by simp)), fun h => (by cases h), rfl⟩
  try simp only [decide_eq_true_eq, decide_eq_false_iff_not, Bool.and_eq_true, Bool.or_eq_true, Bool.not_eq_true', Bool.and_eq_false_iff, Bool.or_eq_false_iff, Bool.not_eq_false', Int.not_lt, Int.not_le, ne_eq, Decidable.not_not, Option.isSome_iff_ne_none, Option.isNone_iff_eq_none] at hc2
  have hce : (ckT v n T 0 0).1 = none := by simpa using hc2
  obtain ⟨B, lb', rfl, hT, hB, hsz, hlB⟩ := hls hce
  have hlen : ls.length ≤ 4096 := by have := BT.leaves_le B 0 0; rw [hlB]; omega
  refine Tri.fin ?_
  refine Nrm.next ?_
  refine Tri.seq ?_
  refine Tri.seq (Tri.region ?_)
  refine TOps.move rfl rfl ?_
  refine TOps.len rfl Try.underlying90 rfl ?_
  refine TOps.move rfl rfl ?_
  refine TOps.next ?_
  refine Tri.range (X := Unit) (fun x k => [(3, .pointer (some ⟨b3, 0, none⟩)), (4, .pointer (some ⟨b4, 0, none⟩)), (34, slV (some lb') 0 ls.length lc)]) (fun x k => row (some lb') 94 3 lc (lvV (ls)) :: H3) (fun x k => ∀ i, i < k → ∀ q, ls[i]? = some q → accL F G q = true) (by omega) rfl rfl rfl (fun _ _ => ⟨rfl, rfl, rfl, rfl⟩) () (fun i hi => absurd hi (Nat.not_lt_zero i)) ⟨rfl, rfl, rfl, trivial⟩ (by repeat (first | exact Le.refl _ | assumption | apply Le.drop)) (fun k x hlt hp => ?_) (fun x ac wc hp hS hM => ?_)
  · skip
    have hmem : ls[k] ∈ B.leaves 0 0 := by rw [← hlB]; exact List.getElem_mem hlt
    have hcq := BT.leaves_cube B 0 0 (CubeOk.zero v) hB ls[k] hmem
    have hbad : accL F G ls[k] = false → ∀ e, ((∀ B, T = BT.tr B → (B.leaves 0 0).all (accL F G) = true) → (ckT v n T 0 0).1 = none → false = true ∧ e = (none : Option Int)) := fun hf e h _ => by have := List.all_eq_true.1 (h B hT) _ hmem; rw [hf] at this; cases this
    refine Tri.seq (Tri.region ?_)
    refine TOps.indexAddr (b := lb') (off := 0) (m := ls.length) (cap := lc) (off' := k * 3) rfl rfl Try.underlying90 ti94 (by omega) (by omega) (by simp) rfl ?_
    refine TOps.loadN (vs := [natV ls[k].1, natV ls[k].2.1, .int .i64 ls[k].2.2]) rfl ti94 (lvV_rd (List.Mem.head _) hlt) rfl rfl ?_
    refine TOps.alloc ti94 rfl (fun b12 => ?_)
    refine TOps.storeN rfl rfl ti94 rfl rfl (by repeat (first | exact Upd.here | apply Upd.there)) (by first | decide | (simp; done) | (simp; omega)) ?_
    refine TOps.next ?_
    refine Tri.seq (Tri.region ?_)
    refine TOps.assign rfl rfl ?_
    refine TOps.next ?_
    refine Tri.seqMid (X := Unit) (fun y => [(3, .pointer (some ⟨b3, 0, none⟩)), (4, .pointer (some ⟨b4, 0, none⟩)), (12, .pointer (some ⟨b12, 0, none⟩)), (13, .int .i64 ls[k].2.2), (34, slV (some lb') 0 ls.length lc), (35, .int .i64 ls.length), (36, natV k)]) (fun y => row (some b12) 94 3 1 [natV ls[k].1, natV ls[k].2.1, .int .i64 ls[k].2.2] :: row (some lb') 94 3 lc (lvV (ls)) :: H3) (fun y => (ls[k].2.2 = 0 ∨ ls[k].2.2 = 1)) ?_ (fun y hmid => ?_)
    · skip
      refine Tri.seq (Tri.region ?_)
      first | refine TOps.fieldB 2 rfl Try.underlying94 rfl rfl ti3 rfl rfl rfl ?_ | refine TOps.fieldN 2 rfl Try.underlying94 rfl rfl ti3 rfl rfl rfl ?_
      refine TOps.load1 rfl ti3 (Rd.fld (Rd.all (H := row (some b12) 94 3 1 [natV ls[k].1, natV ls[k].2.1, .int .i64 ls[k].2.2] :: _) (List.Mem.head _)) 2 rfl) rfl ?_
      refine TOps.next ?_
      refine Tri.block ?_
      refine Tri.seq (Tri.region ?_)
      refine TOps.eqlI rfl rfl rfl ?_
      refine TOps.assign rfl rfl ?_
      refine TOps.next ?_
      refine Tri.cond rfl (fun hc3 => ?_) (fun hc3 => ?_)
      · try simp only [decide_eq_true_eq, decide_eq_false_iff_not, Bool.and_eq_true, Bool.or_eq_true, Bool.not_eq_true', Bool.and_eq_false_iff, Bool.or_eq_false_iff, Bool.not_eq_false', Int.not_lt, Int.not_le, ne_eq, Decidable.not_not, Option.isSome_iff_ne_none, Option.isNone_iff_eq_none] at hc3
        refine Tri.fin ?_
        refine Nrm.unB ?_
        refine Nrm.mid () (by omega) (by exact ⟨rfl, rfl, rfl, by first | (rw [hc3]; rfl) | (rw [hc4]; rfl), rfl, rfl, rfl, trivial⟩) (by repeat (first | exact Le.refl _ | assumption | apply Le.drop))
      try simp only [decide_eq_true_eq, decide_eq_false_iff_not, Bool.and_eq_true, Bool.or_eq_true, Bool.not_eq_true', Bool.and_eq_false_iff, Bool.or_eq_false_iff, Bool.not_eq_false', Int.not_lt, Int.not_le, ne_eq, Decidable.not_not, Option.isSome_iff_ne_none, Option.isNone_iff_eq_none] at hc3
      refine Tri.seq (Tri.region ?_)
      refine TOps.eqlI rfl rfl rfl ?_
      refine TOps.assign rfl rfl ?_
      refine TOps.next ?_
      refine Tri.cond rfl (fun hc4 => ?_) (fun hc4 => ?_)
      · try simp only [decide_eq_true_eq, decide_eq_false_iff_not, Bool.and_eq_true, Bool.or_eq_true, Bool.not_eq_true', Bool.and_eq_false_iff, Bool.or_eq_false_iff, Bool.not_eq_false', Int.not_lt, Int.not_le, ne_eq, Decidable.not_not, Option.isSome_iff_ne_none, Option.isNone_iff_eq_none] at hc4
        refine Tri.region ?_
        refine TOps.assign rfl rfl ?_
        refine TOps.fin ?_
        refine Nrm.unB ?_
        refine Nrm.mid () (by omega) (by exact ⟨rfl, rfl, rfl, by first | (rw [hc3]; rfl) | (rw [hc4]; rfl), rfl, rfl, rfl, trivial⟩) (by repeat (first | exact Le.refl _ | assumption | apply Le.drop))
      try simp only [decide_eq_true_eq, decide_eq_false_iff_not, Bool.and_eq_true, Bool.or_eq_true, Bool.not_eq_true', Bool.and_eq_false_iff, Bool.or_eq_false_iff, Bool.not_eq_false', Int.not_lt, Int.not_le, ne_eq, Decidable.not_not, Option.isSome_iff_ne_none, Option.isNone_iff_eq_none] at hc4
      refine Tri.seq (Tri.region ?_)
      refine TOps.assign rfl rfl ?_
      refine TOps.assign rfl rfl ?_
      refine TOps.next ?_
      refine Tri.ret2 (H' := H) Try.results12 (fun _ _ h => h) (.tmp rfl) (.tmp rfl) (Le.drop (Le.drop l4)) ⟨false, none, rfl, hbad (by simp only [accL]; rw [decide_eq_false hc3, decide_eq_false hc4]; rfl) none, fun h => (by cases h), rfl⟩
    refine Tri.seq (Tri.region ?_)
    refine TOps.loadN (vs := fc3 F na no cap sa) rfl ti24 r1.up.up rfl rfl ?_
    refine TOps.loadN (vs := fc3 G nb mo cbp sb) rfl ti24 r2.up.up rfl rfl ?_
    refine TOps.buildSlice (vs := [_, _]) (xs := [_, _, _, _, _, _]) Try.underlying64 ti24 ⟨rfl, rfl, rfl, rfl, trivial⟩ rfl rfl rfl rfl rfl rfl (by decide) rfl (fun b48 => ?_)
    refine TOps.len rfl Try.underlying64 rfl ?_
    refine TOps.move rfl rfl ?_
    refine TOps.next ?_
    refine Tri.range (X := Unit) (fun x j => [(3, .pointer (some ⟨b3, 0, none⟩)), (4, .pointer (some ⟨b4, 0, none⟩)), (12, .pointer (some ⟨b12, 0, none⟩)), (13, .int .i64 ls[k].2.2), (34, slV (some lb') 0 ls.length lc), (35, .int .i64 ls.length), (36, natV k), (48, slV (some b48) 0 2 2)]) (fun x j => row (some b48) 24 3 2 [.int .i64 F.vars, slV na no F.nodes.length cap sa, .int .i64 F.top, .int .i64 G.vars, slV nb mo G.nodes.length cbp sb, .int .i64 G.top] :: row (some b12) 94 3 1 [natV ls[k].1, natV ls[k].2.1, .int .i64 ls[k].2.2] :: row (some lb') 94 3 lc (lvV (ls)) :: H3) (fun x j => (1 ≤ j → (F.tTop ls[k].1 ls[k].2.1 : Int) = ls[k].2.2) ∧ (2 ≤ j → (G.tTop ls[k].1 ls[k].2.1 : Int) = ls[k].2.2)) (by omega) rfl rfl rfl (fun _ _ => ⟨rfl, rfl, rfl, rfl⟩) () ⟨fun h => absurd h (by decide), fun h => absurd h (by decide)⟩ ⟨rfl, rfl, rfl, rfl, rfl, rfl, rfl, rfl, trivial⟩ (by repeat (first | exact Le.refl _ | assumption | apply Le.drop)) (fun j x hltj hpj => ?_) (fun x ac wc hpj hS hM => ?_)
    · skip
      obtain ⟨X, xa, xo, xc, xs, hX, hXF, hXr⟩ := pick_two (b := b48) (E := 0) hF0 hG0 hltj
      have hkX : X.ok := by rw [hX]; exact pk_all hkF hkG
      have hgX : X.Good := by rw [hX]; exact pk_all hgF hgG
      have hvX : X.vars = v := by rw [hX]; exact pk_all (p := fun X : Fm => X.vars = v) hvF hvG
      have hce := cubeErr_ok hgX hvX hcq
      refine Tri.seq (Tri.region ?_)
      refine TOps.indexAddr (off' := j * 3) rfl rfl Try.underlying64 ti24 (by omega) (by omega) (by simp) rfl ?_
      refine TOps.loadN (vs := fc3 X xa xo xc xs) rfl ti24 (hXr (Rd.all (by repeat (first | exact List.Mem.head _ | apply List.Mem.tail)))) rfl rfl ?_
      refine TOps.alloc ti24 rfl (fun b15 => ?_)
      refine TOps.storeN rfl rfl ti24 rfl rfl (by repeat (first | exact Upd.here | apply Upd.there)) (by first | decide | (simp; done) | (simp; omega)) ?_
      refine TOps.next ?_
      refine Tri.seq (Tri.region ?_)
      refine TOps.loadN (vs := fc3 X xa xo xc xs) rfl ti24 (Rd.all (List.Mem.head _)) rfl rfl ?_
      refine TOps.field0 rfl Try.underlying94 rfl rfl ti88 rfl rfl rfl ?_
      refine TOps.loadN (vs := [natV ls[k].1, natV ls[k].2.1]) rfl ti88 (Rd.pre (Rd.all (xs := [natV ls[k].1, natV ls[k].2.1, .int .i64 ls[k].2.2]) (by repeat (first | exact List.Mem.head _ | apply List.Mem.tail))) 2) rfl rfl ?_
      refine TOps.call (vs := [_, _]) Try.call37 ⟨rfl, rfl, trivial⟩ (tvalue_g (hXF.le (by repeat (first | exact Le.refl _ | apply Le.drop))) hkX _ _) rfl ?_
      rintro _ _ ⟨rfl, rfl⟩
      rw [hce]
      refine TOps.move rfl rfl ?_
      refine TOps.extract rfl rfl rfl ?_
      refine TOps.extract rfl rfl rfl ?_
      refine TOps.assign rfl rfl ?_
      refine TOps.assign rfl rfl ?_
      refine TOps.next ?_
      refine Tri.seq (Tri.region ?_)
      refine TOps.move rfl rfl ?_
      refine TOps.neqNil (T := 73) (o := none) rfl Try.underlying34 rfl ?_
      refine TOps.move rfl rfl ?_
      refine' TOps.orB 3 rfl rfl rfl rfl (fun hg20_2 => ?_) ?_; rotate_left
      · have hg20_2' := hg20_2
        try simp only [decide_eq_true_eq, decide_eq_false_iff_not, Bool.and_eq_true, Bool.or_eq_true, Bool.not_eq_true', Bool.and_eq_false_iff, Bool.or_eq_false_iff, Bool.not_eq_false', Int.not_lt, Int.not_le, ne_eq, Decidable.not_not] at hg20_2'
        refine TOps.strip 2 false rfl rfl hg20_2 rfl ?_
        refine TOps.move rfl rfl ?_
        refine TOps.move rfl rfl ?_
        refine TOps.neqIr (a := (X.tTop ls[k].1 ls[k].2.1 : Int)) rfl rfl rfl rfl ?_
        refine TOps.blk rfl (by repeat (first | exact Ext.refl _ | refine Ext.cons rfl ?_)) (by repeat (first | exact Le.refl _ | apply Le.drop))
      refine TOps.next ?_
      refine Tri.cond rfl (fun hc5 => ?_) (fun hc5 => ?_)
      · try simp only [decide_eq_true_eq, decide_eq_false_iff_not, Bool.and_eq_true, Bool.or_eq_true, Bool.not_eq_true', Bool.and_eq_false_iff, Bool.or_eq_false_iff, Bool.not_eq_false', Int.not_lt, Int.not_le, ne_eq, Decidable.not_not, Option.isSome_iff_ne_none, Option.isNone_iff_eq_none] at hc5
        have hne : (X.tTop ls[k].1 ls[k].2.1 : Int) ≠ ls[k].2.2 := by simpa using hc5
        have haf : accL F G ls[k] = false := by rw [Bool.eq_false_iff]; intro h; simp only [accL, Bool.and_eq_true, decide_eq_true_eq] at h; apply hne; rw [hX]; exact pk_all (p := fun X : Fm => (X.tTop ls[k].1 ls[k].2.1 : Int) = ls[k].2.2) h.2.1 h.2.2
        refine Tri.seq (Tri.region ?_)
        refine TOps.move rfl rfl ?_
        refine TOps.assign rfl rfl ?_
        refine TOps.assign rfl rfl ?_
        refine TOps.next ?_
        refine Tri.ret2 (H' := H) Try.results12 (fun _ _ h => h) (.tmp rfl) (.tmp rfl) (by repeat (first | exact l4 | apply Le.drop)) ⟨false, none, rfl, hbad haf none, fun h => (by cases h), rfl⟩
      try simp only [decide_eq_true_eq, decide_eq_false_iff_not, Bool.and_eq_true, Bool.or_eq_true, Bool.not_eq_true', Bool.and_eq_false_iff, Bool.or_eq_false_iff, Bool.not_eq_false', Int.not_lt, Int.not_le, ne_eq, Decidable.not_not, Option.isSome_iff_ne_none, Option.isNone_iff_eq_none] at hc5
      have hee : (X.tTop ls[k].1 ls[k].2.1 : Int) = ls[k].2.2 := by simpa using hc5
      refine Tri.fin ?_
      refine Nrm.body () ⟨fun _ => (by obtain rfl | rfl : j = 0 ∨ j = 1 := (by omega); exact (by rw [hX] at hee; exact hee); exact hpj.1 (Nat.le_refl _)), fun h => (by obtain rfl : j = 1 := (by omega); rw [hX] at hee; exact hee)⟩ ⟨rfl, rfl, rfl, rfl, rfl, rfl, rfl, rfl, rfl, rfl, trivial⟩ (by repeat (first | exact Le.refl _ | assumption | apply Le.drop))
    refine Nrm.of hS hM ?_
    have hka : accL F G ls[k] = true := by simp only [accL, Bool.and_eq_true, Bool.or_eq_true, decide_eq_true_eq]; exact ⟨hmid, hpj.1 (by decide), hpj.2 (by decide)⟩
    have hnext : ∀ i, i < k + 1 → ∀ q, ls[i]? = some q → accL F G q = true := fun i hi q hq => by rcases Nat.lt_or_ge i k with h | h; exact hp i h q hq; obtain rfl : i = k := (by omega); rw [List.getElem?_eq_getElem hlt] at hq; injection hq with hq; rw [← hq]; exact hka
    refine Nrm.body () hnext ⟨rfl, rfl, rfl, rfl, rfl, trivial⟩ (by repeat (first | exact Le.refl _ | assumption | apply Le.drop))
  refine Nrm.of hS hM ?_
  refine Nrm.next ?_
  refine Tri.seq (Tri.region ?_)
  refine TOps.assign rfl rfl ?_
  refine TOps.assign rfl rfl ?_
  refine TOps.next ?_
  refine Tri.ret2 (H' := H) Try.results12 (fun _ _ h => h) (.tmp rfl) (.tmp rfl) (Le.drop l4) ⟨true, none, rfl, fun _ _ => ⟨rfl, rfl⟩, fun _ _ => ⟨B, hT, hB, ?_⟩, rfl⟩
  rw [← hlB, List.all_eq_true]
  intro q hq
  obtain ⟨i, hi, hiq⟩ := List.getElem_of_mem hq
  exact hp i hi q (by rw [List.getElem?_eq_getElem hi, hiq])
end Go.Proofs
namespace Go.Proofs
open Go.GL
set_option linter.unusedVariables false
set_option linter.unusedSimpArgs false
theorem tTop_g {H : List Ent} {fv : Value} {F : Fm} (hF : RF H fv F) (hk : F.ok) (hg : F.Good) {v y n : Nat} (hv : F.vars = v) (hc : CubeOk v y n) :
    Gives Try.prog 37 [fv, .agg (List.toArray [natV y, natV n])] H (R1 (.tuple (List.toArray [natV (F.tTop y n), errV 73 none])) H) := by
  have h := tvalue_g hF hk (y : Nat) (n : Nat)
  rw [cubeErr_ok hg hv hc] at h
  exact h
set_option maxHeartbeats 1000000 in
theorem at_g {F G : Fm} {na nb sa sb oa : Option Nat} {no cap mo cbp oc bm v : Nat} {o pl : List Nat} (hkF : F.ok) (hgF : F.Good) (hkG : G.ok) (hgG : G.Good) (hvF : F.vars = v) (hvG : G.vars = v) (hv8 : v ≤ 8) (ho : OP v o pl) (heq : ∀ z, z < 2 ^ v → F.value (z : Nat) = G.value (z : Nat)) :
    ∀ (K : Nat) {k : Nat} {H : List Ent} {y n d cnt : Nat}, k < K → RF H (.agg (List.toArray (fc3 F na no cap sa))) F → RF H (.agg (List.toArray (fc3 G nb mo cbp sb))) G → RdS H oa 0 (nats o) → d + k = v → CubeOk v y n → Kn v pl d (y ||| n) → cnt + 2 ^ (k + 1) ≤ 4097 →
    Gives Try.prog 34 [.pointer (some ⟨bm, 0, none⟩), .agg (List.toArray [natV y, natV n]), natV d] (row (some bm) 84 8 1 [.int .i64 F.vars, slV na no F.nodes.length cap sa, .int .i64 F.top, .int .i64 G.vars, slV nb mo G.nodes.length cbp sb, .int .i64 G.top, slV oa 0 v oc, natV cnt] :: H) (fun u H' => ∃ x : AW, u = .tuple (List.toArray [.agg (List.toArray x.cells), errV 73 none]) ∧ x.ok F G v k y n ∧ row (some bm) 84 8 1 [.int .i64 F.vars, slV na no F.nodes.length cap sa, .int .i64 F.top, .int .i64 G.vars, slV nb mo G.nodes.length cbp sb, .int .i64 G.top, slV oa 0 v oc, natV (cnt + x.B.size)] :: bundle x.N :: H = H') := by
  intro K
  induction K with
  | zero => intro k H y n d cnt hk; omega
  | succ K ih =>
  intro k H y n d cnt hK hF0 hG0 hor hdk hcb hkn hcnt
  have hp2 := Nat.two_pow_pos k
  rw [Nat.pow_succ] at hcnt
  have hvv : F.vars = G.vars := by rw [hvF, hvG]
  have hy24 := hcb.y1
  have hn24 := hcb.n1
  have h24 : (2 : Nat) ^ v ≤ 2 ^ 24 := Nat.pow_le_pow_right (by decide) (by omega)
  have h24' : (2 : Nat) ^ 24 = 16777216 := rfl
  refine Gives.enter Try.func34 rfl (by exact Try.ntmps34) rfl ?_
  refine Tri.seq (Tri.region ?_)
  refine TOps.boxN rfl ti88 rfl rfl (fun b4 => ?_)
  refine TOps.le Le.swap ?_
  refine TOps.alloc ti27 rfl (fun b6 => ?_)
  refine TOps.le (H' := row (some bm) 84 8 1 [.int .i64 F.vars, slV na no F.nodes.length cap sa, .int .i64 F.top, .int .i64 G.vars, slV nb mo G.nodes.length cbp sb, .int .i64 G.top, slV oa 0 v oc, natV cnt] :: row (some b6) 27 3 1 [.int .i64 0, slV none 0 0 0, .int .i64 0] :: row (some b4) 88 2 1 [natV y, natV n] :: H) (Sp.le (by repeat (first | exact Sp.refl _ | exact Sp.sub (by assumption) | refine Sp.cons (by repeat (first | exact Pick.here | apply Pick.there)) ?_ | exact Sp.nil | apply Sp.skip))) ?_
  refine TOps.assign rfl rfl ?_
  refine TOps.next ?_
  refine Tri.seq ?_
  refine Tri.seq (Tri.region ?_)
  refine TOps.move rfl rfl ?_
  refine TOps.nilCheck rfl rfl ?_
  first | refine TOps.fieldB 7 rfl Try.underlying84 rfl rfl ti3 rfl rfl rfl ?_ | refine TOps.fieldN 7 rfl Try.underlying84 rfl rfl ti3 rfl rfl rfl ?_
  refine TOps.load1 rfl ti3 (Rd.fld (Rd.all (H := row (some bm) 84 8 1 [.int .i64 F.vars, slV na no F.nodes.length cap sa, .int .i64 F.top, .int .i64 G.vars, slV nb mo G.nodes.length cbp sb, .int .i64 G.top, slV oa 0 v oc, natV cnt] :: _) (List.Mem.head _)) 7 rfl) rfl ?_
  refine TOps.add (r := ((cnt + 1 : Nat) : Int)) rfl rfl (by rw [wrapI (by omega) (by omega)]; omega) rfl ?_
  refine TOps.nilCheck rfl rfl ?_
  first | refine TOps.fieldB 7 rfl Try.underlying84 rfl rfl ti3 rfl rfl rfl ?_ | refine TOps.fieldN 7 rfl Try.underlying84 rfl rfl ti3 rfl rfl rfl ?_
  refine TOps.store1 rfl rfl ti3 rfl rfl (by repeat (first | exact Upd.here | apply Upd.there)) (by simp) ?_
  refine TOps.le (H' := row (some bm) 84 8 1 [.int .i64 F.vars, slV na no F.nodes.length cap sa, .int .i64 F.top, .int .i64 G.vars, slV nb mo G.nodes.length cbp sb, .int .i64 G.top, slV oa 0 v oc, natV (cnt + 1)] :: row (some b6) 27 3 1 [.int .i64 0, slV none 0 0 0, .int .i64 0] :: row (some b4) 88 2 1 [natV y, natV n] :: H) (Le.refl _) ?_
  refine TOps.next ?_
  refine Tri.seq (Tri.region ?_)
  refine TOps.move rfl rfl ?_
  refine TOps.nilCheck rfl rfl ?_
  first | refine TOps.fieldB 7 rfl Try.underlying84 rfl rfl ti3 rfl rfl rfl ?_ | refine TOps.fieldN 7 rfl Try.underlying84 rfl rfl ti3 rfl rfl rfl ?_
  refine TOps.load1 rfl ti3 (Rd.fld (Rd.all (H := row (some bm) 84 8 1 [.int .i64 F.vars, slV na no F.nodes.length cap sa, .int .i64 F.top, .int .i64 G.vars, slV nb mo G.nodes.length cbp sb, .int .i64 G.top, slV oa 0 v oc, natV (cnt + 1)] :: _) (List.Mem.head _)) 7 rfl) rfl ?_
  refine TOps.gtr rfl rfl rfl ?_
  refine TOps.next ?_
  refine Tri.cond rfl (fun hc1 => ?_) (fun hc1 => ?_)
  · try simp only [decide_eq_true_eq, decide_eq_false_iff_not, Bool.and_eq_true, Bool.or_eq_true, Bool.not_eq_true', Bool.and_eq_false_iff, Bool.or_eq_false_iff, Bool.not_eq_false', Int.not_lt, Int.not_le, ne_eq, Decidable.not_not, Option.isSome_iff_ne_none, Option.isNone_iff_eq_none] at hc1
    have hfalse : False := by omega
    refine Tri.seq (Tri.region ?_)
    refine TOps.buildStruct (vs := []) (xs := [_, _, _]) [(0, 1), (1, 1), (2, 1)] Try.underlying27 ti27 (fun w => by simp) trivial rfl rfl ?_
    refine TOps.makeInterface rfl Try.underlying73 rfl rfl ?_
    refine TOps.storeN rfl rfl ti27 rfl rfl (by repeat (first | exact Upd.here | apply Upd.there)) (by first | decide | (simp; done) | (simp; omega)) ?_
    refine TOps.assign rfl rfl ?_
    refine TOps.next ?_
    exact hfalse.elim
  try simp only [decide_eq_true_eq, decide_eq_false_iff_not, Bool.and_eq_true, Bool.or_eq_true, Bool.not_eq_true', Bool.and_eq_false_iff, Bool.or_eq_false_iff, Bool.not_eq_false', Int.not_lt, Int.not_le, ne_eq, Decidable.not_not, Option.isSome_iff_ne_none, Option.isNone_iff_eq_none] at hc1
  have rm : Rd (row (some bm) 84 8 1 [.int .i64 F.vars, slV na no F.nodes.length cap sa, .int .i64 F.top, .int .i64 G.vars, slV nb mo G.nodes.length cbp sb, .int .i64 G.top, slV oa 0 v oc, natV (cnt + 1)] :: row (some b6) 27 3 1 [.int .i64 0, slV none 0 0 0, .int .i64 0] :: row (some b4) 88 2 1 [natV y, natV n] :: H) bm 0 [.int .i64 F.vars, slV na no F.nodes.length cap sa, .int .i64 F.top, .int .i64 G.vars, slV nb mo G.nodes.length cbp sb, .int .i64 G.top, slV oa 0 v oc, natV (cnt + 1)] := Rd.all (List.Mem.head _)
  have rc : Rd (row (some bm) 84 8 1 [.int .i64 F.vars, slV na no F.nodes.length cap sa, .int .i64 F.top, .int .i64 G.vars, slV nb mo G.nodes.length cbp sb, .int .i64 G.top, slV oa 0 v oc, natV (cnt + 1)] :: row (some b6) 27 3 1 [.int .i64 0, slV none 0 0 0, .int .i64 0] :: row (some b4) 88 2 1 [natV y, natV n] :: H) b4 0 [natV y, natV n] := Rd.all (by repeat (first | exact List.Mem.head _ | apply List.Mem.tail))
  have lH : Le (row (some bm) 84 8 1 [.int .i64 F.vars, slV na no F.nodes.length cap sa, .int .i64 F.top, .int .i64 G.vars, slV nb mo G.nodes.length cbp sb, .int .i64 G.top, slV oa 0 v oc, natV (cnt + 1)] :: row (some b6) 27 3 1 [.int .i64 0, slV none 0 0 0, .int .i64 0] :: row (some b4) 88 2 1 [natV y, natV n] :: H) H := Le.drop (Le.drop (Le.drop (Le.refl _)))
  refine Tri.fin ?_
  refine Nrm.next ?_
  refine Tri.seq ?_
  refine Tri.drawC rfl [(0, .pointer (some ⟨bm, 0, none⟩)), (2, natV d), (4, .pointer (some ⟨b4, 0, none⟩)), (6, .pointer (some ⟨b6, 0, none⟩))] [] [_, _, _, _, _, _, _, _, _, _, _] (row (some bm) 84 8 1 [.int .i64 F.vars, slV na no F.nodes.length cap sa, .int .i64 F.top, .int .i64 G.vars, slV nb mo G.nodes.length cbp sb, .int .i64 G.top, slV oa 0 v oc, natV (cnt + 1)] :: row (some b6) 27 3 1 [.int .i64 0, slV none 0 0 0, .int .i64 0] :: row (some b4) 88 2 1 [natV y, natV n] :: H) [9, 10] rfl ⟨rfl, rfl, rfl, rfl, trivial⟩ trivial (by repeat (first | exact Le.refl _ | assumption | apply Le.drop)) (by
    refine ⟨?_, ?_, ?_, ?_, ?_, ?_, ?_, ?_, ?_, ?_, ?_, trivial⟩
    · refine ⟨fun x S c he hw hd hc hcu hm _ => ?_, trivial⟩
      refine TOps.move (he _ _ rfl) rfl ?_
      exact TOps.fd x rfl rfl
    · refine ⟨fun x S c he hw hd hc hcu hm _ => ?_, trivial⟩
      obtain ⟨h0, -⟩ := hd
      refine TOps.nilCheck h0 rfl ?_
      exact TOps.fd x rfl rfl
    · refine ⟨fun x S c he hw hd hc hcu hm _ => ?_, trivial⟩
      obtain ⟨h1, -⟩ := hd
      refine TOps.field0 h1 Try.underlying84 rfl rfl ti24 rfl rfl rfl ?_
      exact TOps.fd x rfl rfl
    · refine ⟨fun x S c he hw hd hc hcu hm _ => ?_, trivial⟩
      obtain ⟨h2, -⟩ := hd
      refine TOps.loadN (vs := fc3 F na no cap sa) h2 ti24 (Rd.pre rm 3) rfl rfl ?_
      exact TOps.fd x rfl rfl
    · refine ⟨fun x S c he hw hd hc hcu hm _ => ?_, trivial⟩
      refine TOps.loadN (vs := [natV y, natV n]) (he _ _ rfl) ti88 rc rfl rfl ?_
      exact TOps.fd x rfl rfl
    · refine ⟨fun x S c he hw hd hc hcu hm _ => ?_, trivial⟩
      obtain ⟨h3, h4, -⟩ := hd
      refine TOps.call (vs := [_, _]) Try.call37 ⟨h3, h4, trivial⟩ (tTop_g (hF0.le lH) hkF hgF hvF hcb) rfl ?_
      rintro _ _ ⟨rfl, rfl⟩
      exact TOps.fd x rfl rfl
    · refine ⟨fun x S c he hw hd hc hcu hm _ => ?_, trivial⟩
      obtain ⟨h5, -⟩ := hd
      refine TOps.move h5 rfl ?_
      exact TOps.fd x rfl rfl
    · refine ⟨fun x S c he hw hd hc hcu hm _ => ?_, trivial⟩
      obtain ⟨h6, -⟩ := hd
      refine TOps.extract h6 rfl rfl ?_
      exact TOps.fd x rfl rfl
    · refine ⟨fun x S c he hw hd hc hcu hm _ => ?_, trivial⟩
      obtain ⟨h6, -⟩ := hd
      refine TOps.extract h6 rfl rfl ?_
      exact TOps.fd x rfl rfl
    · refine ⟨fun x S c he hw hd hc hcu hm _ => ?_, trivial⟩
      obtain ⟨h7, h5, h0, h1, h2, h3, h4, _, h6, _, -⟩ := hd
      refine TOps.assign h7 rfl ?_
      exact TOps.fd x rfl rfl
    · refine ⟨fun x S c he hw hd hc hcu hm _ => ?_, trivial⟩
      obtain ⟨h8, h9, h0, h1, h2, h3, h4, h5, h6, h7, _, _, -⟩ := hd
      refine TOps.assign h8 rfl ?_
      exact TOps.fd x rfl rfl
    ) ?_
  refine Nrm.next ?_
  refine Tri.seq ?_
  refine Tri.seq (Tri.region ?_)
  refine TOps.move rfl rfl ?_
  refine TOps.neqNil (T := 73) (o := none) rfl Try.underlying34 rfl ?_
  refine TOps.next ?_
  refine Tri.cond rfl (fun hc2 => ?_) (fun hc2 => ?_)
  · exact absurd hc2 (by first | decide | simp)
  try simp only [decide_eq_true_eq, decide_eq_false_iff_not, Bool.and_eq_true, Bool.or_eq_true, Bool.not_eq_true', Bool.and_eq_false_iff, Bool.or_eq_false_iff, Bool.not_eq_false', Int.not_lt, Int.not_le, ne_eq, Decidable.not_not, Option.isSome_iff_ne_none, Option.isNone_iff_eq_none] at hc2
  refine Tri.fin ?_
  refine Nrm.next ?_
  refine Tri.seq ?_
  refine Tri.drawC rfl [(0, .pointer (some ⟨bm, 0, none⟩)), (2, natV d), (4, .pointer (some ⟨b4, 0, none⟩)), (6, .pointer (some ⟨b6, 0, none⟩)), (8, natV (F.tTop y n))] [] [_, _, _, _, _, _, _, _, _, _, _] (row (some bm) 84 8 1 [.int .i64 F.vars, slV na no F.nodes.length cap sa, .int .i64 F.top, .int .i64 G.vars, slV nb mo G.nodes.length cbp sb, .int .i64 G.top, slV oa 0 v oc, natV (cnt + 1)] :: row (some b6) 27 3 1 [.int .i64 0, slV none 0 0 0, .int .i64 0] :: row (some b4) 88 2 1 [natV y, natV n] :: H) [9, 10] rfl ⟨rfl, rfl, rfl, rfl, rfl, trivial⟩ trivial (by repeat (first | exact Le.refl _ | assumption | apply Le.drop)) (by
    refine ⟨?_, ?_, ?_, ?_, ?_, ?_, ?_, ?_, ?_, ?_, ?_, trivial⟩
    · refine ⟨fun x S c he hw hd hc hcu hm _ => ?_, trivial⟩
      refine TOps.move (he _ _ rfl) rfl ?_
      exact TOps.fd x rfl rfl
    · refine ⟨fun x S c he hw hd hc hcu hm _ => ?_, trivial⟩
      obtain ⟨h0, -⟩ := hd
      refine TOps.nilCheck h0 rfl ?_
      exact TOps.fd x rfl rfl
    · refine ⟨fun x S c he hw hd hc hcu hm _ => ?_, trivial⟩
      obtain ⟨h1, -⟩ := hd
      first | refine TOps.fieldB 3 h1 Try.underlying84 rfl rfl ti24 rfl rfl rfl ?_ | refine TOps.fieldN 3 h1 Try.underlying84 rfl rfl ti24 rfl rfl rfl ?_
      exact TOps.fd x rfl rfl
    · refine ⟨fun x S c he hw hd hc hcu hm _ => ?_, trivial⟩
      obtain ⟨h2, -⟩ := hd
      refine TOps.loadN (vs := fc3 G nb mo cbp sb) h2 ti24 (Rd.seg rm 3 3) rfl rfl ?_
      exact TOps.fd x rfl rfl
    · refine ⟨fun x S c he hw hd hc hcu hm _ => ?_, trivial⟩
      refine TOps.loadN (vs := [natV y, natV n]) (he _ _ rfl) ti88 rc rfl rfl ?_
      exact TOps.fd x rfl rfl
    · refine ⟨fun x S c he hw hd hc hcu hm _ => ?_, trivial⟩
      obtain ⟨h3, h4, -⟩ := hd
      refine TOps.call (vs := [_, _]) Try.call37 ⟨h3, h4, trivial⟩ (tTop_g (hG0.le lH) hkG hgG hvG hcb) rfl ?_
      rintro _ _ ⟨rfl, rfl⟩
      exact TOps.fd x rfl rfl
    · refine ⟨fun x S c he hw hd hc hcu hm _ => ?_, trivial⟩
      obtain ⟨h5, -⟩ := hd
      refine TOps.move h5 rfl ?_
      exact TOps.fd x rfl rfl
    · refine ⟨fun x S c he hw hd hc hcu hm _ => ?_, trivial⟩
      obtain ⟨h6, -⟩ := hd
      refine TOps.extract h6 rfl rfl ?_
      exact TOps.fd x rfl rfl
    · refine ⟨fun x S c he hw hd hc hcu hm _ => ?_, trivial⟩
      obtain ⟨h6, -⟩ := hd
      refine TOps.extract h6 rfl rfl ?_
      exact TOps.fd x rfl rfl
    · refine ⟨fun x S c he hw hd hc hcu hm _ => ?_, trivial⟩
      obtain ⟨h7, h5, h0, h1, h2, h3, h4, _, h6, _, -⟩ := hd
      refine TOps.assign h7 rfl ?_
      exact TOps.fd x rfl rfl
    · refine ⟨fun x S c he hw hd hc hcu hm _ => ?_, trivial⟩
      obtain ⟨h8, h9, h0, h1, h2, h3, h4, h5, h6, h7, _, _, -⟩ := hd
      refine TOps.assign h8 rfl ?_
      exact TOps.fd x rfl rfl
    ) ?_
  refine Nrm.next ?_
  refine Tri.seq ?_
  refine Tri.seq (Tri.region ?_)
  refine TOps.move rfl rfl ?_
  refine TOps.neqNil (T := 73) (o := none) rfl Try.underlying34 rfl ?_
  refine TOps.next ?_
  refine Tri.cond rfl (fun hc3 => ?_) (fun hc3 => ?_)
  · exact absurd hc3 (by first | decide | simp)
  try simp only [decide_eq_true_eq, decide_eq_false_iff_not, Bool.and_eq_true, Bool.or_eq_true, Bool.not_eq_true', Bool.and_eq_false_iff, Bool.or_eq_false_iff, Bool.not_eq_false', Int.not_lt, Int.not_le, ne_eq, Decidable.not_not, Option.isSome_iff_ne_none, Option.isNone_iff_eq_none] at hc3
  refine Tri.fin ?_
  refine Nrm.next ?_
  refine Tri.seq ?_
  refine Tri.seq (Tri.region ?_)
  refine TOps.move rfl rfl ?_
  refine TOps.neqI rfl rfl rfl ?_
  refine TOps.move rfl rfl ?_
  refine' TOps.andB 2 rfl rfl rfl rfl (fun hg10_2 => ?_) ?_; rotate_left
  · have hg10_2' := hg10_2
    try simp only [decide_eq_true_eq, decide_eq_false_iff_not, Bool.and_eq_true, Bool.or_eq_true, Bool.not_eq_true', Bool.and_eq_false_iff, Bool.or_eq_false_iff, Bool.not_eq_false', Int.not_lt, Int.not_le, ne_eq, Decidable.not_not] at hg10_2'
    refine TOps.strip 2 true rfl rfl hg10_2 rfl ?_
    refine TOps.move rfl rfl ?_
    refine TOps.neqI rfl rfl rfl ?_
    refine TOps.blk rfl (by repeat (first | exact Ext.refl _ | refine Ext.cons rfl ?_)) (by repeat (first | exact Le.refl _ | apply Le.drop))
  refine TOps.next ?_
  refine Tri.cond rfl (fun hc4 => ?_) (fun hc4 => ?_)
  · try simp only [decide_eq_true_eq, decide_eq_false_iff_not, Bool.and_eq_true, Bool.or_eq_true, Bool.not_eq_true', Bool.and_eq_false_iff, Bool.or_eq_false_iff, Bool.not_eq_false', Int.not_lt, Int.not_le, ne_eq, Decidable.not_not, Option.isSome_iff_ne_none, Option.isNone_iff_eq_none] at hc4
    have hne : F.tTop y n ≠ 2 ∧ G.tTop y n ≠ 2 := by omega
    have hacc := acc_leaf hgF hgG hvF hvG hcb heq hne.1 hne.2
    refine Tri.seq ?_
    refine Tri.seq (Tri.region ?_)
    refine TOps.move rfl rfl ?_
    refine TOps.eqlI rfl rfl rfl ?_
    refine TOps.next ?_
    refine Tri.cond rfl (fun hc5 => ?_) (fun hc5 => ?_)
    · try simp only [decide_eq_true_eq, decide_eq_false_iff_not, Bool.and_eq_true, Bool.or_eq_true, Bool.not_eq_true', Bool.and_eq_false_iff, Bool.or_eq_false_iff, Bool.not_eq_false', Int.not_lt, Int.not_le, ne_eq, Decidable.not_not, Option.isSome_iff_ne_none, Option.isNone_iff_eq_none] at hc5
      refine Tri.seq (Tri.region ?_)
      refine TOps.buildStruct (vs := [(2, _)]) (xs := [_, _, _]) [(0, 1), (1, 1), (2, 1)] Try.underlying27 ti27 (fun w => by simp) ⟨rfl, rfl, trivial⟩ rfl rfl ?_
      refine TOps.storeN rfl rfl ti27 rfl rfl (by repeat (first | exact Upd.here | apply Upd.there)) (by first | decide | (simp; done) | (simp; omega)) ?_
      refine TOps.assign rfl rfl ?_
      refine TOps.next ?_
      refine Tri.ret2 (v1 := .agg (List.toArray (AW.leaf 1).cells)) (H' := row (some bm) 84 8 1 [.int .i64 F.vars, slV na no F.nodes.length cap sa, .int .i64 F.top, .int .i64 G.vars, slV nb mo G.nodes.length cbp sb, .int .i64 G.top, slV oa 0 v oc, natV (cnt + 1)] :: bundle [] :: H) Try.results34 (fun _ _ h => h) (.cellN rfl rfl ti27 (Rd.all (by repeat (first | exact List.Mem.head _ | apply List.Mem.tail))) rfl) (.tmp rfl) ?_ ⟨AW.leaf 1, rfl, AW.leaf_ok (by rw [show (1 : Int) = (F.tTop y n : Int) by omega]; exact hacc), rfl⟩
      exact (show Le _ (row (some bm) 84 8 1 [.int .i64 F.vars, slV na no F.nodes.length cap sa, .int .i64 F.top, .int .i64 G.vars, slV nb mo G.nodes.length cbp sb, .int .i64 G.top, slV oa 0 v oc, natV (cnt + 1)] :: H) from (Sp.le (by repeat (first | exact Sp.refl _ | exact Sp.sub (by assumption) | refine Sp.cons (by repeat (first | exact Pick.here | apply Pick.there)) ?_ | exact Sp.nil | apply Sp.skip)))).trans ((Le.bundle (L := [])).trans Le.swap)
    try simp only [decide_eq_true_eq, decide_eq_false_iff_not, Bool.and_eq_true, Bool.or_eq_true, Bool.not_eq_true', Bool.and_eq_false_iff, Bool.or_eq_false_iff, Bool.not_eq_false', Int.not_lt, Int.not_le, ne_eq, Decidable.not_not, Option.isSome_iff_ne_none, Option.isNone_iff_eq_none] at hc5
    refine Tri.fin ?_
    refine Nrm.next ?_
    refine Tri.seq (Tri.region ?_)
    refine TOps.buildStruct (vs := []) (xs := [_, _, _]) [(0, 1), (1, 1), (2, 1)] Try.underlying27 ti27 (fun w => by simp) trivial rfl rfl ?_
    refine TOps.storeN rfl rfl ti27 rfl rfl (by repeat (first | exact Upd.here | apply Upd.there)) (by first | decide | (simp; done) | (simp; omega)) ?_
    refine TOps.assign rfl rfl ?_
    refine TOps.next ?_
    refine Tri.ret2 (v1 := .agg (List.toArray (AW.leaf 0).cells)) (H' := row (some bm) 84 8 1 [.int .i64 F.vars, slV na no F.nodes.length cap sa, .int .i64 F.top, .int .i64 G.vars, slV nb mo G.nodes.length cbp sb, .int .i64 G.top, slV oa 0 v oc, natV (cnt + 1)] :: bundle [] :: H) Try.results34 (fun _ _ h => h) (.cellN rfl rfl ti27 (Rd.all (by repeat (first | exact List.Mem.head _ | apply List.Mem.tail))) rfl) (.tmp rfl) ?_ ⟨AW.leaf 0, rfl, AW.leaf_ok (by have := Fm.tval_le hgF (y : Nat) (n : Nat) F.top.toNat; have hl : F.tTop y n ≤ 2 := this; rw [show (0 : Int) = (F.tTop y n : Int) by omega]; exact hacc), rfl⟩
    exact (show Le _ (row (some bm) 84 8 1 [.int .i64 F.vars, slV na no F.nodes.length cap sa, .int .i64 F.top, .int .i64 G.vars, slV nb mo G.nodes.length cbp sb, .int .i64 G.top, slV oa 0 v oc, natV (cnt + 1)] :: H) from (Sp.le (by repeat (first | exact Sp.refl _ | exact Sp.sub (by assumption) | refine Sp.cons (by repeat (first | exact Pick.here | apply Pick.there)) ?_ | exact Sp.nil | apply Sp.skip)))).trans ((Le.bundle (L := [])).trans Le.swap)
  try simp only [decide_eq_true_eq, decide_eq_false_iff_not, Bool.and_eq_true, Bool.or_eq_true, Bool.not_eq_true', Bool.and_eq_false_iff, Bool.or_eq_false_iff, Bool.not_eq_false', Int.not_lt, Int.not_le, ne_eq, Decidable.not_not, Option.isSome_iff_ne_none, Option.isNone_iff_eq_none] at hc4
  have hdv : d < v := by apply Nat.lt_of_not_le; intro hge; obtain rfl : d = v := (by omega); have hfull := hkn.full ho; have f1 := tTop_full hgF hvF (by omega) hcb hfull; have f2 := tTop_full hgG hvG (by omega) hcb hfull; omega
  obtain ⟨k, rfl⟩ : ∃ k', k = k' + 1 := ⟨k - 1, by omega⟩
  have hol := ho.lo
  obtain ⟨xb, hxa, _, hxb⟩ := hor.at (i := d) (by simp; omega)
  have hxk : (nats o)[d]'(by simp; omega) = natV (o.getD d 0) := by simp [hol, hdv]
  rw [hxk] at hxb
  refine Tri.fin ?_
  refine Nrm.next ?_
  refine Tri.seq (Tri.region ?_)
  refine TOps.move rfl rfl ?_
  refine TOps.nilCheck rfl rfl ?_
  first | refine TOps.fieldB 6 rfl Try.underlying84 rfl rfl ti53 rfl rfl rfl ?_ | refine TOps.fieldN 6 rfl Try.underlying84 rfl rfl ti53 rfl rfl rfl ?_
  refine TOps.load1 rfl ti53 (Rd.fld rm 6 rfl) rfl ?_
  refine TOps.move rfl rfl ?_
  refine TOps.indexAddr (b := xb) (off := 0) (m := v) (cap := oc) (off' := d) (by rw [hxa]; rfl) rfl Try.underlying53 ti3 (by omega) (by omega) (by simp) rfl ?_
  refine TOps.load1 rfl ti3 (by have := hxb.le lH; rw [Nat.zero_add] at this; exact this) rfl ?_
  refine TOps.assign rfl rfl ?_
  refine TOps.next ?_
  refine Tri.seq ?_
  have hev := ho.op d hdv
  have hfr := hkn.fresh ho hdv
  have hst := hkn.step ho hdv
  obtain ⟨e, hee⟩ : ∃ e, o.getD d 0 = e := ⟨_, rfl⟩
  rw [hee] at hev hfr hst ⊢
  have he2 := Nat.pow_lt_pow_right (a := 2) (by decide) hev.1
  obtain ⟨nl, hnl⟩ : ∃ nl, n ||| 2 ^ e = nl := ⟨_, rfl⟩
  obtain ⟨yl, hyl⟩ : ∃ yl, y ||| 2 ^ e = yl := ⟨_, rfl⟩
  have ho1 : ior (n : Int) ((2 ^ e : Nat) : Int) = (nl : Int) := by rw [← hnl]; exact ior_nat (by omega) (by omega)
  have ho2 : ior (y : Int) ((2 ^ e : Nat) : Int) = (yl : Int) := by rw [← hyl]; exact ior_nat (by omega) (by omega)
  have hcl : CubeOk v y nl := by rw [← hnl]; exact hcb.no hev.1 hfr
  have hcr : CubeOk v yl n := by rw [← hyl]; exact hcb.yes hev.1 hfr
  have hkl : Kn v pl (d + 1) (y ||| nl) := by rw [← hnl, or_no]; exact hst
  have hkr : Kn v pl (d + 1) (yl ||| n) := by rw [← hyl, or_yes]; exact hst
  have lBB : Le (row (some b6) 27 3 1 [.int .i64 0, slV none 0 0 0, .int .i64 0] :: row (some b4) 88 2 1 [natV y, natV n] :: H) H := Le.drop (Le.drop (Le.refl _))
  have rc2 : Rd (row (some b6) 27 3 1 [.int .i64 0, slV none 0 0 0, .int .i64 0] :: row (some b4) 88 2 1 [natV y, natV n] :: H) b4 0 [natV y, natV n] := Rd.all (by repeat (first | exact List.Mem.head _ | apply List.Mem.tail))
  have hllA : ∀ (x : AW) (D : List Nat), Le (on D [11] [] [fact (x.ok F G v k y nl), row (some bm) 84 8 1 [.int .i64 F.vars, slV na no F.nodes.length cap sa, .int .i64 F.top, .int .i64 G.vars, slV nb mo G.nodes.length cbp sb, .int .i64 G.top, slV oa 0 v oc, natV (cnt + 1 + x.B.size)], bundle x.N] ++ (on D [] [11] [row (some bm) 84 8 1 [.int .i64 F.vars, slV na no F.nodes.length cap sa, .int .i64 F.top, .int .i64 G.vars, slV nb mo G.nodes.length cbp sb, .int .i64 G.top, slV oa 0 v oc, natV (cnt + 1)]] ++ (on D [15] [16] [row (some x.b) 27 3 1 [.int .i64 0, slV none 0 0 0, .int .i64 0]] ++ (on D [16] [] [row (some x.b) 27 3 1 x.cells] ++ (row (some b6) 27 3 1 [.int .i64 0, slV none 0 0 0, .int .i64 0] :: row (some b4) 88 2 1 [natV y, natV n] :: H))))) (row (some b6) 27 3 1 [.int .i64 0, slV none 0 0 0, .int .i64 0] :: row (some b4) 88 2 1 [natV y, natV n] :: H) := fun x D => Le.sub (by repeat (first | exact List.Sublist.refl _ | apply sub_on))
  refine Tri.drawM (X := AW) rfl [(0, .pointer (some ⟨bm, 0, none⟩)), (2, natV d), (4, .pointer (some ⟨b4, 0, none⟩)), (6, .pointer (some ⟨b6, 0, none⟩)), (11, natV e)] [] (fun x => [_, _, _, _, _, _, _, _, .agg (List.toArray [natV y, natV nl]), _, _, .tuple (List.toArray [.agg (List.toArray x.cells), errV 73 none]), .tuple (List.toArray [.agg (List.toArray x.cells), errV 73 none]), .agg (List.toArray x.cells), errV 73 none, .pointer (some ⟨x.b, 0, none⟩), undef, errV 73 none]) (fun x D => on D [11] [] [fact (x.ok F G v k y nl), row (some bm) 84 8 1 [.int .i64 F.vars, slV na no F.nodes.length cap sa, .int .i64 F.top, .int .i64 G.vars, slV nb mo G.nodes.length cbp sb, .int .i64 G.top, slV oa 0 v oc, natV (cnt + 1 + x.B.size)], bundle x.N] ++ (on D [] [11] [row (some bm) 84 8 1 [.int .i64 F.vars, slV na no F.nodes.length cap sa, .int .i64 F.top, .int .i64 G.vars, slV nb mo G.nodes.length cbp sb, .int .i64 G.top, slV oa 0 v oc, natV (cnt + 1)]] ++ (on D [15] [16] [row (some x.b) 27 3 1 [.int .i64 0, slV none 0 0 0, .int .i64 0]] ++ (on D [16] [] [row (some x.b) 27 3 1 x.cells] ++ (row (some b6) 27 3 1 [.int .i64 0, slV none 0 0 0, .int .i64 0] :: row (some b4) 88 2 1 [natV y, natV n] :: H))))) [11, 15, 16] [0, 0, 2, 0, 8, 0, 32, 120, 254, 0, 512, 2047, 4095, 8191, 8191, 0, 49151, 131071] [[], [15], [11], [11, 15], [11, 15, 16]] (AW.leaf 0) [15, 17] rfl rfl (by kernel_rfl) (by kernel_rfl) ⟨rfl, rfl, rfl, rfl, rfl, trivial⟩ trivial (by repeat (first | exact Le.refl _ | assumption | apply Le.drop)) (by
    refine ⟨?_, ?_, ?_, ?_, ?_, ?_, ?_, ?_, ?_, ?_, ?_, ?_, ?_, ?_, ?_, ?_, ?_, ?_, trivial⟩
    · refine ⟨fun x S D he hw hd hD _ => ?_, trivial⟩
      refine TOps.move (he _ _ rfl) rfl ?_
      exact TOps.fdM x rfl rfl
    · refine ⟨fun x S D he hw hd hD _ => ?_, trivial⟩
      refine TOps.field0 (he _ _ rfl) Try.underlying88 rfl rfl ti3 rfl rfl rfl ?_
      exact TOps.fdM x rfl rfl
    · refine ⟨fun x S D he hw hd hD _ => ?_, trivial⟩
      obtain ⟨h1, -⟩ := hd
      refine TOps.load1 h1 ti3 (Rd.fld (rc2.le (hllA x D)) 0 rfl) rfl ?_
      exact TOps.fdM x rfl rfl
    · refine ⟨fun x S D he hw hd hD _ => ?_, trivial⟩
      first | refine TOps.fieldB 1 (he _ _ rfl) Try.underlying88 rfl rfl ti3 rfl rfl rfl ?_ | refine TOps.fieldN 1 (he _ _ rfl) Try.underlying88 rfl rfl ti3 rfl rfl rfl ?_
      exact TOps.fdM x rfl rfl
    · refine ⟨fun x S D he hw hd hD _ => ?_, trivial⟩
      obtain ⟨h3, -⟩ := hd
      refine TOps.load1 h3 ti3 (Rd.fld (rc2.le (hllA x D)) 1 rfl) rfl ?_
      exact TOps.fdM x rfl rfl
    · refine ⟨fun x S D he hw hd hD _ => ?_, trivial⟩
      refine TOps.move (he _ _ rfl) rfl ?_
      exact TOps.fdM x rfl rfl
    · refine ⟨fun x S D he hw hd hD _ => ?_, trivial⟩
      obtain ⟨h5, -⟩ := hd
      refine TOps.shl (r := ((2 ^ e : Nat) : Int)) rfl h5 (by omega) (ishl_one (by omega)) rfl ?_
      exact TOps.fdM x rfl rfl
    · refine ⟨fun x S D he hw hd hD _ => ?_, trivial⟩
      obtain ⟨h4, h6, -⟩ := hd
      refine TOps.or (r := (nl : Int)) h4 h6 ho1 rfl ?_
      exact TOps.fdM x rfl rfl
    · refine ⟨fun x S D he hw hd hD _ => ?_, trivial⟩
      obtain ⟨h2, h7, -⟩ := hd
      refine TOps.buildStruct (vs := [(0, _), (1, _)]) (xs := [_, _]) [(0, 1), (1, 1)] Try.underlying88 ti88 (fun w => by simp) ⟨rfl, h2, rfl, h7, trivial⟩ rfl rfl ?_
      exact TOps.fdM x rfl rfl
    · refine ⟨fun x S D he hw hd hD _ => ?_, trivial⟩
      refine TOps.move (he _ _ rfl) rfl ?_
      exact TOps.fdM x rfl rfl
    · refine ⟨fun x S D he hw hd hD _ => ?_, trivial⟩
      obtain ⟨h9, -⟩ := hd
      refine TOps.add (r := ((d + 1 : Nat) : Int)) h9 rfl (by rw [wrapI (by omega) (by omega)]; omega) rfl ?_
      exact TOps.fdM x rfl rfl
    · refine ⟨fun x S D he hw hd hD _ => ?_, trivial⟩
      obtain ⟨h0, h8, h10, -⟩ := hd
      replace hD := mem_of_eq (L' := [[], [15]]) hD (by kernel_rfl)
      simp only [List.mem_cons, List.not_mem_nil, or_false] at hD
      rcases hD with rfl | rfl
      all_goals refine TOps.call (vs := [_, _, _]) Try.call34 ⟨h0, h8, h10, trivial⟩ (ih (k := k) (by omega) (hF0.le (by repeat (first | exact lBB | apply Le.drop))) (hG0.le (by repeat (first | exact lBB | apply Le.drop))) (hor.le (by repeat (first | exact lBB | apply Le.drop))) (by omega) hcl hkl (by omega)) rfl ?_
      all_goals rintro _ _ ⟨z, rfl, hzok, rfl⟩
      all_goals refine TOps.fin (Nrm.drawM {z with b := x.b} ?_ rfl (Le.addFact hzok))
      all_goals (intro j hj hcj; rcases j with _|_|_|_|_|_|_|_|_|_|_|_|_|_|_|_|_|_|j <;> first | rfl | exact absurd rfl hj | exact absurd hcj (by decide))
      skip
    · refine ⟨fun x S D he hw hd hD _ => ?_, trivial⟩
      obtain ⟨h11, -⟩ := hd
      refine TOps.move h11 rfl ?_
      exact TOps.fdM x rfl rfl
    · refine ⟨fun x S D he hw hd hD _ => ?_, trivial⟩
      obtain ⟨h12, -⟩ := hd
      refine TOps.extract h12 rfl rfl ?_
      exact TOps.fdM x rfl rfl
    · refine ⟨fun x S D he hw hd hD _ => ?_, trivial⟩
      obtain ⟨h12, -⟩ := hd
      refine TOps.extract h12 rfl rfl ?_
      exact TOps.fdM x rfl rfl
    · refine ⟨fun x S D he hw hd hD _ => ?_, trivial⟩
      replace hD := mem_of_eq (L' := [[], [11]]) hD (by kernel_rfl)
      simp only [List.mem_cons, List.not_mem_nil, or_false] at hD
      rcases hD with rfl | rfl
      all_goals refine TOps.alloc ti27 rfl (fun b12 => ?_)
      all_goals refine TOps.fin (Nrm.drawM {x with b := b12} ?_ rfl (Sp.le (by repeat (first | exact Sp.refl _ | exact Sp.sub (by assumption) | refine Sp.cons (by repeat (first | exact Pick.here | apply Pick.there)) ?_ | exact Sp.nil | apply Sp.skip))))
      all_goals (intro j hj hcj; rcases j with _|_|_|_|_|_|_|_|_|_|_|_|_|_|_|_|_|_|j <;> first | rfl | exact absurd rfl hj | exact absurd hcj (by decide))
    · refine ⟨fun x S D he hw hd hD _ => ?_, trivial⟩
      obtain ⟨h15, h13, h11, h0, h1, h2, h3, h4, h5, h6, h7, h8, h9, h10, _, h12, _, _, -⟩ := hd
      replace hD := mem_of_eq (L' := [[11, 15]]) hD (by kernel_rfl)
      simp only [List.mem_cons, List.not_mem_nil, or_false] at hD
      rcases hD with rfl
      refine TOps.storeN h15 h13 ti27 rfl rfl (by repeat (first | exact Upd.here | apply Upd.there)) (by first | decide | (simp; done) | (simp; omega)) ?_
      all_goals refine TOps.fin (Nrm.drawM x ?_ rfl (Sp.le (by repeat (first | exact Sp.refl _ | exact Sp.sub (by assumption) | refine Sp.cons (by repeat (first | exact Pick.here | apply Pick.there)) ?_ | exact Sp.nil | apply Sp.skip))))
      all_goals (intro j hj hcj; rcases j with _|_|_|_|_|_|_|_|_|_|_|_|_|_|_|_|_|_|j <;> first | rfl | exact absurd rfl hj | exact absurd hcj (by decide))
    · refine ⟨fun x S D he hw hd hD _ => ?_, trivial⟩
      obtain ⟨h14, h16, h0, h1, h2, h3, h4, h5, h6, h7, h8, h9, h10, h11, h12, h13, _, h15, _, -⟩ := hd
      refine TOps.assign h14 rfl ?_
      exact TOps.fdM x rfl rfl
    ) (fun w => ?_)
  refine Nrm.fact (List.Mem.head _) (fun f1 => ?_)
  refine Nrm.le (H' := row (some bm) 84 8 1 [.int .i64 F.vars, slV na no F.nodes.length cap sa, .int .i64 F.top, .int .i64 G.vars, slV nb mo G.nodes.length cbp sb, .int .i64 G.top, slV oa 0 v oc, natV (cnt + 1 + w.B.size)] :: bundle w.N :: row (some w.b) 27 3 1 w.cells :: row (some b6) 27 3 1 [.int .i64 0, slV none 0 0 0, .int .i64 0] :: row (some b4) 88 2 1 [natV y, natV n] :: H) (Sp.le (by repeat (first | exact Sp.refl _ | exact Sp.sub (by assumption) | refine Sp.cons (by repeat (first | exact Pick.here | apply Pick.there)) ?_ | exact Sp.nil | apply Sp.skip))) ?_
  refine Nrm.next ?_
  refine Tri.seq ?_
  refine Tri.seq (Tri.region ?_)
  refine TOps.move rfl rfl ?_
  refine TOps.neqNil (T := 73) (o := none) rfl Try.underlying34 rfl ?_
  refine TOps.next ?_
  refine Tri.cond rfl (fun hc6 => ?_) (fun hc6 => ?_)
  · exact absurd hc6 (by first | decide | simp)
  try simp only [decide_eq_true_eq, decide_eq_false_iff_not, Bool.and_eq_true, Bool.or_eq_true, Bool.not_eq_true', Bool.and_eq_false_iff, Bool.or_eq_false_iff, Bool.not_eq_false', Int.not_lt, Int.not_le, ne_eq, Decidable.not_not, Option.isSome_iff_ne_none, Option.isNone_iff_eq_none] at hc6
  refine Tri.fin ?_
  refine Nrm.next ?_
  refine Tri.seq ?_
  have hllB : ∀ (x : AW) (D : List Nat), Le (on D [11] [] [fact (x.ok F G v k yl n), row (some bm) 84 8 1 [.int .i64 F.vars, slV na no F.nodes.length cap sa, .int .i64 F.top, .int .i64 G.vars, slV nb mo G.nodes.length cbp sb, .int .i64 G.top, slV oa 0 v oc, natV (cnt + 1 + w.B.size + x.B.size)], bundle x.N] ++ (on D [] [11] [row (some bm) 84 8 1 [.int .i64 F.vars, slV na no F.nodes.length cap sa, .int .i64 F.top, .int .i64 G.vars, slV nb mo G.nodes.length cbp sb, .int .i64 G.top, slV oa 0 v oc, natV (cnt + 1 + w.B.size)]] ++ (on D [15] [16] [row (some x.b) 27 3 1 [.int .i64 0, slV none 0 0 0, .int .i64 0]] ++ (on D [16] [] [row (some x.b) 27 3 1 x.cells] ++ (bundle w.N :: row (some w.b) 27 3 1 w.cells :: row (some b6) 27 3 1 [.int .i64 0, slV none 0 0 0, .int .i64 0] :: row (some b4) 88 2 1 [natV y, natV n] :: H))))) (bundle w.N :: row (some w.b) 27 3 1 w.cells :: row (some b6) 27 3 1 [.int .i64 0, slV none 0 0 0, .int .i64 0] :: row (some b4) 88 2 1 [natV y, natV n] :: H) := fun x D => Le.sub (by repeat (first | exact List.Sublist.refl _ | apply sub_on))
  have lW1 : Le (bundle w.N :: row (some w.b) 27 3 1 w.cells :: row (some b6) 27 3 1 [.int .i64 0, slV none 0 0 0, .int .i64 0] :: row (some b4) 88 2 1 [natV y, natV n] :: H) H := Le.drop (Le.drop lBB)
  have rc3 : Rd (bundle w.N :: row (some w.b) 27 3 1 w.cells :: row (some b6) 27 3 1 [.int .i64 0, slV none 0 0 0, .int .i64 0] :: row (some b4) 88 2 1 [natV y, natV n] :: H) b4 0 [natV y, natV n] := Rd.all (by repeat (first | exact List.Mem.head _ | apply List.Mem.tail))
  have hws : w.B.size + 1 ≤ 2 ^ (k + 1) := f1.2.2.2.1
  refine Tri.drawM (X := AW) rfl [(0, .pointer (some ⟨bm, 0, none⟩)), (2, natV d), (4, .pointer (some ⟨b4, 0, none⟩)), (6, .pointer (some ⟨b6, 0, none⟩)), (11, natV e), (12, .pointer (some ⟨w.b, 0, none⟩))] [] (fun x => [_, _, _, _, _, _, _, _, .agg (List.toArray [natV yl, natV n]), _, _, .tuple (List.toArray [.agg (List.toArray x.cells), errV 73 none]), .tuple (List.toArray [.agg (List.toArray x.cells), errV 73 none]), .agg (List.toArray x.cells), errV 73 none, .pointer (some ⟨x.b, 0, none⟩), undef, errV 73 none]) (fun x D => on D [11] [] [fact (x.ok F G v k yl n), row (some bm) 84 8 1 [.int .i64 F.vars, slV na no F.nodes.length cap sa, .int .i64 F.top, .int .i64 G.vars, slV nb mo G.nodes.length cbp sb, .int .i64 G.top, slV oa 0 v oc, natV (cnt + 1 + w.B.size + x.B.size)], bundle x.N] ++ (on D [] [11] [row (some bm) 84 8 1 [.int .i64 F.vars, slV na no F.nodes.length cap sa, .int .i64 F.top, .int .i64 G.vars, slV nb mo G.nodes.length cbp sb, .int .i64 G.top, slV oa 0 v oc, natV (cnt + 1 + w.B.size)]] ++ (on D [15] [16] [row (some x.b) 27 3 1 [.int .i64 0, slV none 0 0 0, .int .i64 0]] ++ (on D [16] [] [row (some x.b) 27 3 1 x.cells] ++ (bundle w.N :: row (some w.b) 27 3 1 w.cells :: row (some b6) 27 3 1 [.int .i64 0, slV none 0 0 0, .int .i64 0] :: row (some b4) 88 2 1 [natV y, natV n] :: H))))) [11, 15, 16] [0, 0, 2, 0, 8, 30, 0, 64, 254, 0, 512, 2047, 4095, 8191, 8191, 0, 49151, 131071] [[], [15], [11], [11, 15], [11, 15, 16]] (AW.leaf 0) [15, 17] rfl rfl (by kernel_rfl) (by kernel_rfl) ⟨rfl, rfl, rfl, rfl, rfl, rfl, trivial⟩ trivial (by repeat (first | exact Le.refl _ | assumption | apply Le.drop)) (by
    refine ⟨?_, ?_, ?_, ?_, ?_, ?_, ?_, ?_, ?_, ?_, ?_, ?_, ?_, ?_, ?_, ?_, ?_, ?_, trivial⟩
    · refine ⟨fun x S D he hw hd hD _ => ?_, trivial⟩
      refine TOps.move (he _ _ rfl) rfl ?_
      exact TOps.fdM x rfl rfl
    · refine ⟨fun x S D he hw hd hD _ => ?_, trivial⟩
      refine TOps.field0 (he _ _ rfl) Try.underlying88 rfl rfl ti3 rfl rfl rfl ?_
      exact TOps.fdM x rfl rfl
    · refine ⟨fun x S D he hw hd hD _ => ?_, trivial⟩
      obtain ⟨h1, -⟩ := hd
      refine TOps.load1 h1 ti3 (Rd.fld (rc3.le (hllB x D)) 0 rfl) rfl ?_
      exact TOps.fdM x rfl rfl
    · refine ⟨fun x S D he hw hd hD _ => ?_, trivial⟩
      refine TOps.move (he _ _ rfl) rfl ?_
      exact TOps.fdM x rfl rfl
    · refine ⟨fun x S D he hw hd hD _ => ?_, trivial⟩
      obtain ⟨h3, -⟩ := hd
      refine TOps.shl (r := ((2 ^ e : Nat) : Int)) rfl h3 (by omega) (ishl_one (by omega)) rfl ?_
      exact TOps.fdM x rfl rfl
    · refine ⟨fun x S D he hw hd hD _ => ?_, trivial⟩
      obtain ⟨h2, h4, -⟩ := hd
      refine TOps.or (r := (yl : Int)) h2 h4 ho2 rfl ?_
      exact TOps.fdM x rfl rfl
    · refine ⟨fun x S D he hw hd hD _ => ?_, trivial⟩
      first | refine TOps.fieldB 1 (he _ _ rfl) Try.underlying88 rfl rfl ti3 rfl rfl rfl ?_ | refine TOps.fieldN 1 (he _ _ rfl) Try.underlying88 rfl rfl ti3 rfl rfl rfl ?_
      exact TOps.fdM x rfl rfl
    · refine ⟨fun x S D he hw hd hD _ => ?_, trivial⟩
      obtain ⟨h6, -⟩ := hd
      refine TOps.load1 h6 ti3 (Rd.fld (rc3.le (hllB x D)) 1 rfl) rfl ?_
      exact TOps.fdM x rfl rfl
    · refine ⟨fun x S D he hw hd hD _ => ?_, trivial⟩
      obtain ⟨h5, h7, -⟩ := hd
      refine TOps.buildStruct (vs := [(0, _), (1, _)]) (xs := [_, _]) [(0, 1), (1, 1)] Try.underlying88 ti88 (fun w => by simp) ⟨rfl, h5, rfl, h7, trivial⟩ rfl rfl ?_
      exact TOps.fdM x rfl rfl
    · refine ⟨fun x S D he hw hd hD _ => ?_, trivial⟩
      refine TOps.move (he _ _ rfl) rfl ?_
      exact TOps.fdM x rfl rfl
    · refine ⟨fun x S D he hw hd hD _ => ?_, trivial⟩
      obtain ⟨h9, -⟩ := hd
      refine TOps.add (r := ((d + 1 : Nat) : Int)) h9 rfl (by rw [wrapI (by omega) (by omega)]; omega) rfl ?_
      exact TOps.fdM x rfl rfl
    · refine ⟨fun x S D he hw hd hD _ => ?_, trivial⟩
      obtain ⟨h0, h8, h10, -⟩ := hd
      replace hD := mem_of_eq (L' := [[], [15]]) hD (by kernel_rfl)
      simp only [List.mem_cons, List.not_mem_nil, or_false] at hD
      rcases hD with rfl | rfl
      all_goals refine TOps.call (vs := [_, _, _]) Try.call34 ⟨h0, h8, h10, trivial⟩ (ih (k := k) (by omega) (hF0.le (by repeat (first | exact lW1 | apply Le.drop))) (hG0.le (by repeat (first | exact lW1 | apply Le.drop))) (hor.le (by repeat (first | exact lW1 | apply Le.drop))) (by omega) hcr hkr (by omega)) rfl ?_
      all_goals rintro _ _ ⟨z, rfl, hzok, rfl⟩
      all_goals refine TOps.fin (Nrm.drawM {z with b := x.b} ?_ rfl (Le.addFact hzok))
      all_goals (intro j hj hcj; rcases j with _|_|_|_|_|_|_|_|_|_|_|_|_|_|_|_|_|_|j <;> first | rfl | exact absurd rfl hj | exact absurd hcj (by decide))
      skip
    · refine ⟨fun x S D he hw hd hD _ => ?_, trivial⟩
      obtain ⟨h11, -⟩ := hd
      refine TOps.move h11 rfl ?_
      exact TOps.fdM x rfl rfl
    · refine ⟨fun x S D he hw hd hD _ => ?_, trivial⟩
      obtain ⟨h12, -⟩ := hd
      refine TOps.extract h12 rfl rfl ?_
      exact TOps.fdM x rfl rfl
    · refine ⟨fun x S D he hw hd hD _ => ?_, trivial⟩
      obtain ⟨h12, -⟩ := hd
      refine TOps.extract h12 rfl rfl ?_
      exact TOps.fdM x rfl rfl
    · refine ⟨fun x S D he hw hd hD _ => ?_, trivial⟩
      replace hD := mem_of_eq (L' := [[], [11]]) hD (by kernel_rfl)
      simp only [List.mem_cons, List.not_mem_nil, or_false] at hD
      rcases hD with rfl | rfl
      all_goals refine TOps.alloc ti27 rfl (fun b13 => ?_)
      all_goals refine TOps.fin (Nrm.drawM {x with b := b13} ?_ rfl (Sp.le (by repeat (first | exact Sp.refl _ | exact Sp.sub (by assumption) | refine Sp.cons (by repeat (first | exact Pick.here | apply Pick.there)) ?_ | exact Sp.nil | apply Sp.skip))))
      all_goals (intro j hj hcj; rcases j with _|_|_|_|_|_|_|_|_|_|_|_|_|_|_|_|_|_|j <;> first | rfl | exact absurd rfl hj | exact absurd hcj (by decide))
    · refine ⟨fun x S D he hw hd hD _ => ?_, trivial⟩
      obtain ⟨h15, h13, h11, h0, h1, h2, h3, h4, h5, h6, h7, h8, h9, h10, _, h12, _, _, -⟩ := hd
      replace hD := mem_of_eq (L' := [[11, 15]]) hD (by kernel_rfl)
      simp only [List.mem_cons, List.not_mem_nil, or_false] at hD
      rcases hD with rfl
      refine TOps.storeN h15 h13 ti27 rfl rfl (by repeat (first | exact Upd.here | apply Upd.there)) (by first | decide | (simp; done) | (simp; omega)) ?_
      all_goals refine TOps.fin (Nrm.drawM x ?_ rfl (Sp.le (by repeat (first | exact Sp.refl _ | exact Sp.sub (by assumption) | refine Sp.cons (by repeat (first | exact Pick.here | apply Pick.there)) ?_ | exact Sp.nil | apply Sp.skip))))
      all_goals (intro j hj hcj; rcases j with _|_|_|_|_|_|_|_|_|_|_|_|_|_|_|_|_|_|j <;> first | rfl | exact absurd rfl hj | exact absurd hcj (by decide))
    · refine ⟨fun x S D he hw hd hD _ => ?_, trivial⟩
      obtain ⟨h14, h16, h0, h1, h2, h3, h4, h5, h6, h7, h8, h9, h10, h11, h12, h13, _, h15, _, -⟩ := hd
      refine TOps.assign h14 rfl ?_
      exact TOps.fdM x rfl rfl
    ) (fun z => ?_)
  refine Nrm.fact (List.Mem.head _) (fun f2 => ?_)
  refine Nrm.le (H' := row (some bm) 84 8 1 [.int .i64 F.vars, slV na no F.nodes.length cap sa, .int .i64 F.top, .int .i64 G.vars, slV nb mo G.nodes.length cbp sb, .int .i64 G.top, slV oa 0 v oc, natV (cnt + 1 + w.B.size + z.B.size)] :: bundle z.N :: row (some z.b) 27 3 1 z.cells :: bundle w.N :: row (some w.b) 27 3 1 w.cells :: row (some b6) 27 3 1 [.int .i64 0, slV none 0 0 0, .int .i64 0] :: row (some b4) 88 2 1 [natV y, natV n] :: H) (Sp.le (by repeat (first | exact Sp.refl _ | exact Sp.sub (by assumption) | refine Sp.cons (by repeat (first | exact Pick.here | apply Pick.there)) ?_ | exact Sp.nil | apply Sp.skip))) ?_
  refine Nrm.next ?_
  refine Tri.seq ?_
  refine Tri.seq (Tri.region ?_)
  refine TOps.move rfl rfl ?_
  refine TOps.neqNil (T := 73) (o := none) rfl Try.underlying34 rfl ?_
  refine TOps.next ?_
  refine Tri.cond rfl (fun hc7 => ?_) (fun hc7 => ?_)
  · exact absurd hc7 (by first | decide | simp)
  try simp only [decide_eq_true_eq, decide_eq_false_iff_not, Bool.and_eq_true, Bool.or_eq_true, Bool.not_eq_true', Bool.and_eq_false_iff, Bool.or_eq_false_iff, Bool.not_eq_false', Int.not_lt, Int.not_le, ne_eq, Decidable.not_not, Option.isSome_iff_ne_none, Option.isNone_iff_eq_none] at hc7
  refine Tri.fin ?_
  refine Nrm.next ?_
  refine Tri.seq (Tri.region ?_)
  refine TOps.move rfl rfl ?_
  refine TOps.loadN (vs := w.cells) rfl ti27 (Rd.all (by repeat (first | exact List.Mem.head _ | apply List.Mem.tail))) rfl rfl ?_
  refine TOps.loadN (vs := z.cells) rfl ti27 (Rd.all (by repeat (first | exact List.Mem.head _ | apply List.Mem.tail))) rfl rfl ?_
  refine TOps.buildSlice (vs := [_, _]) (xs := [_, _, _, _, _, _]) Try.underlying25 ti27 ⟨rfl, rfl, rfl, rfl, trivial⟩ rfl rfl rfl rfl rfl rfl (by decide) rfl (fun b112 => ?_)
  refine TOps.buildStruct (vs := [(0, _), (1, _)]) (xs := [_, _, _]) [(0, 1), (1, 1), (2, 1)] Try.underlying27 ti27 (fun w => by simp) ⟨rfl, rfl, rfl, rfl, trivial⟩ rfl rfl ?_
  refine TOps.storeN rfl rfl ti27 rfl rfl (by repeat (first | exact Upd.here | apply Upd.there)) (by first | decide | (simp; done) | (simp; omega)) ?_
  refine TOps.assign rfl rfl ?_
  refine TOps.next ?_
  rw [← hnl] at f1; rw [← hyl] at f2
  have hok := AW.nd_ok (b := b112) (E := 27) hev.1 hfr f1 f2
  refine Tri.ret2 (v1 := .agg (List.toArray (AW.nd b112 e w z (row (some b112) 27 3 2 (w.cells ++ z.cells))).cells)) (H' := row (some bm) 84 8 1 [.int .i64 F.vars, slV na no F.nodes.length cap sa, .int .i64 F.top, .int .i64 G.vars, slV nb mo G.nodes.length cbp sb, .int .i64 G.top, slV oa 0 v oc, natV (cnt + (1 + w.B.size + z.B.size))] :: bundle [row (some b112) 27 3 2 (w.cells ++ z.cells), bundle z.N, bundle w.N] :: H) Try.results34 (fun _ _ h => h) (.cellN rfl rfl ti27 (Rd.all (by repeat (first | exact List.Mem.head _ | apply List.Mem.tail))) rfl) (.tmp rfl) ?_ ⟨AW.nd b112 e w z _, rfl, hok, rfl⟩
  rw [show cnt + (1 + w.B.size + z.B.size) = cnt + 1 + w.B.size + z.B.size by omega]
  exact (show Le _ ([row (some b112) 27 3 2 (w.cells ++ z.cells), bundle z.N, bundle w.N] ++ (row (some bm) 84 8 1 [.int .i64 F.vars, slV na no F.nodes.length cap sa, .int .i64 F.top, .int .i64 G.vars, slV nb mo G.nodes.length cbp sb, .int .i64 G.top, slV oa 0 v oc, natV (cnt + 1 + w.B.size + z.B.size)] :: H)) from (Sp.le (by repeat (first | exact Sp.refl _ | exact Sp.sub (by assumption) | refine Sp.cons (by repeat (first | exact Pick.here | apply Pick.there)) ?_ | exact Sp.nil | apply Sp.skip)))).trans (Le.bundle.trans Le.swap)
end Go.Proofs
namespace Go.Proofs
open Go.GL
set_option linter.unusedVariables false
set_option linter.unusedSimpArgs false
set_option maxHeartbeats 1000000 in
theorem cmake_g {H : List Ent} {fv gv : Value} {F G : Fm} (hF : RF H fv F) (hkF : F.ok) (hgF : F.Good) (hG : RF H gv G) (hkG : G.ok) (hgG : G.Good) {v : Nat} (hvF : F.vars = v) (hvG : G.vars = v) (hv8 : v ≤ 8) (hnF : F.nodes.length ≤ 16) (hnG : G.nodes.length ≤ 16) :
    Gives Try.prog 10 [fv, gv] H (fun u H' => ∃ (x : AW) (made : Bool), u = .tuple (List.toArray [.agg (List.toArray x.cells), .bool made, errV 73 none]) ∧ (made = true → x.ok F G v v 0 0) ∧ (made = true ↔ ∀ z, z < 2 ^ v → F.value (z : Nat) = G.value (z : Nat)) ∧ bundle x.N :: H = H') := by
  have hF0 := hF; have hG0 := hG
  have hvv : F.vars = G.vars := by rw [hvF, hvG]
  have h2v : (2 : Nat) ^ (v + 1) ≤ 2 ^ 9 := Nat.pow_le_pow_right (by decide) (by omega)
  have h29 : (2 : Nat) ^ 9 = 512 := rfl
  obtain ⟨na, no, cap, sa, rfl, hN⟩ := hF
  obtain ⟨nb, mo, cbp, sb, rfl, hM⟩ := hG
  refine Gives.enter Try.func10 rfl (by exact Try.ntmps10) rfl ?_
  refine Tri.seq (Tri.region ?_)
  refine TOps.boxN rfl ti24 rfl rfl (fun b2 => ?_)
  refine TOps.hide (fun H1 l1 s1 r1 => ?_)
  replace hF0 := hF0.le l1; replace hG0 := hG0.le l1
  refine TOps.boxN rfl ti24 rfl rfl (fun b3 => ?_)
  refine TOps.hide (fun H2 l2 s2 r2 => ?_)
  replace hF0 := hF0.le l2; replace hG0 := hG0.le l2; replace r1 := r1.le l2; have l3 := l2.trans l1
  refine TOps.alloc ti27 rfl (fun b4 => ?_)
  refine TOps.assign rfl rfl ?_
  refine TOps.assign rfl rfl ?_
  refine TOps.next ?_
  refine Tri.seq (Tri.region ?_)
  refine TOps.loadN (vs := fc3 F na no cap sa) rfl ti24 r1.up rfl rfl ?_
  refine TOps.loadN (vs := fc3 G nb mo cbp sb) rfl ti24 r2.up rfl rfl ?_
  refine TOps.call (vs := [_, _]) Try.call7 ⟨rfl, rfl, trivial⟩ (compare_g (hF0.le (Le.drop (Le.refl _))) hkF hgF (hG0.le (Le.drop (Le.refl _))) hkG hgG hvF hvG hv8 hnF hnG) rfl ?_
  rintro _ _ ⟨eq, st, ct, gn, ls, rfl, hdf, rfl⟩
  refine TOps.move rfl rfl ?_
  refine TOps.extract rfl rfl rfl ?_
  refine TOps.extract rfl rfl rfl ?_
  refine TOps.alloc ti32 rfl (fun b7 => ?_)
  refine TOps.storeN rfl rfl ti32 rfl rfl (by repeat (first | exact Upd.here | apply Upd.there)) (by first | decide | (simp; done) | (simp; omega)) ?_
  refine TOps.assign rfl rfl ?_
  refine TOps.next ?_
  refine Tri.seq ?_
  refine Tri.seq (Tri.region ?_)
  refine TOps.move rfl rfl ?_
  refine TOps.neqNil (T := 73) (o := none) rfl Try.underlying34 rfl ?_
  refine TOps.move rfl rfl ?_
  refine' TOps.orB 3 rfl rfl rfl rfl (fun hg2_2 => ?_) ?_; rotate_left
  · have hg2_2' := hg2_2
    try simp only [decide_eq_true_eq, decide_eq_false_iff_not, Bool.and_eq_true, Bool.or_eq_true, Bool.not_eq_true', Bool.and_eq_false_iff, Bool.or_eq_false_iff, Bool.not_eq_false', Int.not_lt, Int.not_le, ne_eq, Decidable.not_not] at hg2_2'
    refine TOps.strip 2 false rfl rfl hg2_2 rfl ?_
    refine TOps.field0 rfl Try.underlying32 rfl rfl ti4 rfl rfl rfl ?_
    refine TOps.load1 rfl ti4 (by first | exact Rd.lit (by repeat (first | exact List.Mem.head _ | apply List.Mem.tail)) rfl | (repeat (first | assumption | exact Rd.fld (by assumption) 0 rfl | apply Rd.up))) rfl ?_
    refine TOps.not rfl rfl ?_
    refine TOps.blk rfl (by repeat (first | exact Ext.refl _ | refine Ext.cons rfl ?_)) (by repeat (first | exact Le.refl _ | apply Le.drop))
  refine TOps.next ?_
  refine Tri.cond rfl (fun hc1 => ?_) (fun hc1 => ?_)
  · try simp only [decide_eq_true_eq, decide_eq_false_iff_not, Bool.and_eq_true, Bool.or_eq_true, Bool.not_eq_true', Bool.and_eq_false_iff, Bool.or_eq_false_iff, Bool.not_eq_false', Int.not_lt, Int.not_le, ne_eq, Decidable.not_not, Option.isSome_iff_ne_none, Option.isNone_iff_eq_none] at hc1
    have hef : eq = false := by simpa using hc1
    refine Tri.seq (Tri.region ?_)
    refine TOps.buildStruct (vs := []) (xs := [_, _, _]) [(0, 1), (1, 1), (2, 1)] Try.underlying27 ti27 (fun w => by simp) trivial rfl rfl ?_
    refine TOps.move rfl rfl ?_
    refine TOps.storeN rfl rfl ti27 rfl rfl (by repeat (first | exact Upd.here | apply Upd.there)) (by first | decide | (simp; done) | (simp; omega)) ?_
    refine TOps.assign rfl rfl ?_
    refine TOps.assign rfl rfl ?_
    refine TOps.next ?_
    refine Tri.ret3 (v1 := .agg (List.toArray (AW.leaf 0).cells)) (H' := bundle [] :: H) Try.results10 (fun _ _ h => h) (.cellN rfl rfl ti27 (Rd.all (by repeat (first | exact List.Mem.head _ | apply List.Mem.tail))) rfl) (.tmp rfl) (.tmp rfl) ((show Le _ H from (by repeat (first | exact l3 | apply Le.drop))).trans (Le.bundle (L := []))) ⟨AW.leaf 0, false, rfl, fun h => (by cases h), ⟨fun h => (by cases h), fun h => ?_⟩, rfl⟩
    exact absurd (h st (hdf.st1 hef).1) (by have := (hdf.st1 hef).2.1; unfold difB at this; simpa using this)
  try simp only [decide_eq_true_eq, decide_eq_false_iff_not, Bool.and_eq_true, Bool.or_eq_true, Bool.not_eq_true', Bool.and_eq_false_iff, Bool.or_eq_false_iff, Bool.not_eq_false', Int.not_lt, Int.not_le, ne_eq, Decidable.not_not, Option.isSome_iff_ne_none, Option.isNone_iff_eq_none] at hc1
  have het : eq = true := by simpa using hc1
  have heq := (hdf.eq1 het).1
  refine Tri.fin ?_
  refine Nrm.next ?_
  refine Tri.seq (Tri.region ?_)
  refine TOps.loadN (vs := fc3 F na no cap sa) rfl ti24 r1.up.up rfl rfl ?_
  refine TOps.call (vs := [_]) Try.call21 ⟨rfl, trivial⟩ (orderDepth_g (hF0.le (Le.drop (Le.drop (Le.refl _)))) hkF hgF hvF) rfl ?_
  rintro _ _ ⟨o, oa, oc, rfl, ho, hoa, rfl⟩
  refine TOps.move rfl rfl ?_
  refine TOps.extract rfl rfl rfl ?_
  refine TOps.extract rfl rfl rfl ?_
  refine TOps.assign rfl rfl ?_
  refine TOps.assign rfl rfl ?_
  refine TOps.next ?_
  refine Tri.seq ?_
  refine Tri.seq (Tri.region ?_)
  refine TOps.move rfl rfl ?_
  refine TOps.neqNil (T := 73) (o := none) rfl Try.underlying34 rfl ?_
  refine TOps.next ?_
  refine Tri.cond rfl (fun hc2 => ?_) (fun hc2 => ?_)
  · exact absurd hc2 (by first | decide | simp)
  try simp only [decide_eq_true_eq, decide_eq_false_iff_not, Bool.and_eq_true, Bool.or_eq_true, Bool.not_eq_true', Bool.and_eq_false_iff, Bool.or_eq_false_iff, Bool.not_eq_false', Int.not_lt, Int.not_le, ne_eq, Decidable.not_not, Option.isSome_iff_ne_none, Option.isNone_iff_eq_none] at hc2
  refine Tri.fin ?_
  refine Nrm.next ?_
  refine Tri.seq (Tri.region ?_)
  refine TOps.loadN (vs := fc3 F na no cap sa) rfl ti24 r1.up.up.up rfl rfl ?_
  refine TOps.loadN (vs := fc3 G nb mo cbp sb) rfl ti24 r2.up.up.up rfl rfl ?_
  refine TOps.move rfl rfl ?_
  refine TOps.buildStruct (vs := [(0, _), (1, _), (2, _)]) (xs := [_, _, _, _, _, _, _, _]) [(0, 3), (3, 3), (6, 1), (7, 1)] Try.underlying84 ti84 (fun w => by simp) ⟨rfl, rfl, rfl, rfl, rfl, rfl, trivial⟩ rfl rfl ?_
  refine TOps.boxN rfl ti84 rfl rfl (fun b40 => ?_)
  refine TOps.assign rfl rfl ?_
  refine TOps.next ?_
  refine Tri.seq (Tri.region ?_)
  refine TOps.move rfl rfl ?_
  refine TOps.buildStruct (vs := []) (xs := [_, _]) [(0, 1), (1, 1)] Try.underlying88 ti88 (fun w => by simp) trivial rfl rfl ?_
  refine TOps.call (vs := [_, _, _]) Try.call34 ⟨rfl, rfl, rfl, trivial⟩ (at_g (v := v) (y := 0) (n := 0) (d := 0) (cnt := 0) hkF hgF hkG hgG hvF hvG hv8 ho heq (v + 1) (k := v) (by omega) (hF0.le (by repeat (first | exact Le.refl _ | apply Le.drop))) (hG0.le (by repeat (first | exact Le.refl _ | apply Le.drop))) (RdS.ofRowA (List.Mem.head _) (fun h => hoa (fun e => h (by rw [e]; rfl)))) (by omega) (CubeOk.zero v) Kn.start (by omega)) rfl ?_
  rintro _ _ ⟨x, rfl, hx, rfl⟩
  refine TOps.move rfl rfl ?_
  refine TOps.extract rfl rfl rfl ?_
  refine TOps.extract rfl rfl rfl ?_
  refine TOps.alloc ti27 rfl (fun b11 => ?_)
  refine TOps.storeN rfl rfl ti27 rfl rfl (by repeat (first | exact Upd.here | apply Upd.there)) (by first | decide | (simp; done) | (simp; omega)) ?_
  refine TOps.assign rfl rfl ?_
  refine TOps.next ?_
  refine Tri.seq ?_
  refine Tri.seq (Tri.region ?_)
  refine TOps.move rfl rfl ?_
  refine TOps.neqNil (T := 73) (o := none) rfl Try.underlying34 rfl ?_
  refine TOps.next ?_
  refine Tri.cond rfl (fun hc3 => ?_) (fun hc3 => ?_)
  · exact absurd hc3 (by first | decide | simp)
  try simp only [decide_eq_true_eq, decide_eq_false_iff_not, Bool.and_eq_true, Bool.or_eq_true, Bool.not_eq_true', Bool.and_eq_false_iff, Bool.or_eq_false_iff, Bool.not_eq_false', Int.not_lt, Int.not_le, ne_eq, Decidable.not_not, Option.isSome_iff_ne_none, Option.isNone_iff_eq_none] at hc3
  refine Tri.fin ?_
  refine Nrm.next ?_
  refine Tri.seq (Tri.region ?_)
  refine TOps.loadN (vs := x.cells) rfl ti27 (Rd.all (by repeat (first | exact List.Mem.head _ | apply List.Mem.tail))) rfl rfl ?_
  refine TOps.storeN rfl rfl ti27 rfl rfl (by repeat (first | exact Upd.here | apply Upd.there)) (by first | decide | (simp; done) | (simp; omega)) ?_
  refine TOps.assign rfl rfl ?_
  refine TOps.assign rfl rfl ?_
  refine TOps.next ?_
  refine Tri.ret3 (v1 := .agg (List.toArray x.cells)) (H' := bundle x.N :: H) Try.results10 (fun _ _ h => h) (.cellN rfl rfl ti27 (Rd.all (by repeat (first | exact List.Mem.head _ | apply List.Mem.tail))) rfl) (.tmp rfl) (.tmp rfl) ?_ ⟨x, true, rfl, fun _ => hx, ⟨fun _ => heq, fun _ => rfl⟩, rfl⟩
  exact (show Le _ (bundle x.N :: H2) from (Sp.le (by repeat (first | exact Sp.refl _ | exact Sp.sub (by assumption) | refine Sp.cons (by repeat (first | exact Pick.here | apply Pick.there)) ?_ | exact Sp.nil | apply Sp.skip)))).trans (Le.consOf (s1.trans s2))
end Go.Proofs
