import Derived.Test.YthehdjppejmfcaaWA
import Derived.Test.YthehdjppejmfcaaWD
import Derived.Test.YthehdjppejmfcaaWB
namespace Go.Proofs
open Go.GL
set_option linter.unusedVariables false
set_option linter.unusedSimpArgs false
theorem valid_g {H : List Ent} {fv : Value} {F : Fm} (hF : RF H fv F) (hk : F.ok) (arg : Int) (ha : I64 arg) :
    Gives Try.prog 59 [fv, .int .i64 arg] H (R1 (.bool (F.valid arg)) H) := by
  obtain ⟨a, off, cap, nsp, rfl, hN⟩ := hF
  unfold I64 at ha
  have h1 := hk.1; have h2 := hk.2.1; unfold I64 at h1 h2
  have h3 := hk.2.2.2
  refine Gives.enter Try.func59 rfl (by exact Try.ntmps59) rfl ?_
  refine Tri.seq (Tri.region ?_)
  refine TOps.boxN rfl ti24 rfl rfl (fun b2 => ?_)
  refine TOps.assign rfl rfl ?_
  refine TOps.next ?_
  refine Tri.seq (Tri.region ?_)
  refine TOps.field0 rfl Try.underlying24 rfl rfl ti3 rfl rfl rfl ?_
  refine TOps.load1 rfl ti3 (by first | exact Rd.lit (by repeat (first | exact List.Mem.head _ | apply List.Mem.tail)) rfl | (repeat (first | assumption | exact Rd.fld (by assumption) 0 rfl | apply Rd.up))) rfl ?_
  refine TOps.geq rfl rfl rfl ?_
  refine TOps.move rfl rfl ?_
  refine' TOps.andB 2 rfl rfl rfl rfl (fun hg1_3 => ?_) ?_; rotate_left
  · have hg1_3' := hg1_3
    try simp only [decide_eq_true_eq, decide_eq_false_iff_not, Bool.and_eq_true, Bool.or_eq_true, Bool.not_eq_true', Bool.and_eq_false_iff, Bool.or_eq_false_iff, Bool.not_eq_false', Int.not_lt, Int.not_le, ne_eq, Decidable.not_not] at hg1_3'
    refine TOps.strip 3 true rfl rfl hg1_3 rfl ?_
    refine TOps.move rfl rfl ?_
    refine TOps.geq rfl rfl rfl ?_
    refine TOps.blk rfl (by repeat (first | exact Ext.refl _ | refine Ext.cons rfl ?_)) (by repeat (first | exact Le.refl _ | apply Le.drop))
  refine TOps.move rfl rfl ?_
  refine' TOps.andB 14 rfl rfl rfl rfl (fun hg1_7 => ?_) ?_; rotate_left
  · have hg1_7' := hg1_7
    try simp only [decide_eq_true_eq, decide_eq_false_iff_not, Bool.and_eq_true, Bool.or_eq_true, Bool.not_eq_true', Bool.and_eq_false_iff, Bool.or_eq_false_iff, Bool.not_eq_false', Int.not_lt, Int.not_le, ne_eq, Decidable.not_not] at hg1_7'
    refine TOps.strip 7 true rfl rfl hg1_7 rfl ?_
    refine TOps.move rfl rfl ?_
    refine TOps.field0 rfl Try.underlying24 rfl rfl ti3 rfl rfl rfl ?_
    refine TOps.load1 rfl ti3 (by first | exact Rd.lit (by repeat (first | exact List.Mem.head _ | apply List.Mem.tail)) rfl | (repeat (first | assumption | exact Rd.fld (by assumption) 0 rfl | apply Rd.up))) rfl ?_
    refine TOps.lss rfl rfl rfl ?_
    refine TOps.move rfl rfl ?_
    refine' TOps.orB 8 rfl rfl rfl rfl (fun hg1_12 => ?_) ?_; rotate_left
    · have hg1_12' := hg1_12
      try simp only [decide_eq_true_eq, decide_eq_false_iff_not, Bool.and_eq_true, Bool.or_eq_true, Bool.not_eq_true', Bool.and_eq_false_iff, Bool.or_eq_false_iff, Bool.not_eq_false', Int.not_lt, Int.not_le, ne_eq, Decidable.not_not] at hg1_12'
      refine TOps.strip 12 false rfl rfl hg1_12 rfl ?_
      refine TOps.move rfl rfl ?_
      refine TOps.field0 rfl Try.underlying24 rfl rfl ti3 rfl rfl rfl ?_
      refine TOps.load1 rfl ti3 (by first | exact Rd.lit (by repeat (first | exact List.Mem.head _ | apply List.Mem.tail)) rfl | (repeat (first | assumption | exact Rd.fld (by assumption) 0 rfl | apply Rd.up))) rfl ?_
      refine TOps.sub rfl rfl (wrapI (by omega) (by omega)) rfl ?_
      first | refine TOps.fieldB 1 rfl Try.underlying24 rfl rfl ti22 rfl rfl rfl ?_ | refine TOps.fieldN 1 rfl Try.underlying24 rfl rfl ti22 rfl rfl rfl ?_
      refine TOps.load1 rfl ti22 (by first | exact Rd.lit (by repeat (first | exact List.Mem.head _ | apply List.Mem.tail)) rfl | (repeat (first | assumption | exact Rd.fld (by assumption) 1 rfl | apply Rd.up))) rfl ?_
      refine TOps.len rfl Try.underlying22 rfl ?_
      refine TOps.lss rfl rfl rfl ?_
      refine TOps.blk rfl (by repeat (first | exact Ext.refl _ | refine Ext.cons rfl ?_)) (by repeat (first | exact Le.refl _ | apply Le.drop))
    refine TOps.blk rfl (by repeat (first | exact Ext.refl _ | refine Ext.cons rfl ?_)) (by repeat (first | exact Le.refl _ | apply Le.drop))
  refine TOps.assign rfl rfl ?_
  refine TOps.next ?_
  refine Tri.ret1 (v := .bool (F.valid arg)) (H' := H) Try.results59 (fun _ _ h => h) (.tmp rfl) (by repeat (first | exact Le.refl _ | refine Le.drop ?_)) ⟨rfl, rfl⟩
theorem arguments_g {H : List Ent} (kind m : Int) :
    Gives Try.prog 81 [.int .i64 kind, .int .i64 m] H (R1 (.bool (argsB kind m)) H) := by
  refine Gives.enter Try.func81 rfl (by exact Try.ntmps81) rfl ?_
  refine Tri.seq (Tri.region ?_)
  refine TOps.assign rfl rfl ?_
  refine TOps.next ?_
  refine Tri.seq ?_
  refine Tri.seq (Tri.region ?_)
  refine TOps.move rfl rfl ?_
  refine TOps.next ?_
  refine Tri.block ?_
  refine Tri.seq (Tri.region ?_)
  refine TOps.eqlI rfl rfl rfl ?_
  refine TOps.assign rfl rfl ?_
  refine TOps.next ?_
  refine Tri.cond rfl (fun hc1 => ?_) (fun hc1 => ?_)
  · try simp only [decide_eq_true_eq, decide_eq_false_iff_not, Bool.and_eq_true, Bool.or_eq_true, Bool.not_eq_true', Bool.and_eq_false_iff, Bool.or_eq_false_iff, Bool.not_eq_false', Int.not_lt, Int.not_le, ne_eq, Decidable.not_not, Option.isSome_iff_ne_none, Option.isNone_iff_eq_none] at hc1
    refine Tri.seq (Tri.region ?_)
    refine TOps.move rfl rfl ?_
    refine TOps.eqlI rfl rfl rfl ?_
    refine TOps.assign rfl rfl ?_
    refine TOps.next ?_
    refine Tri.ret1 (H' := H) Try.results81 (fun _ _ h => h) (.tmp rfl) (by repeat (first | exact Le.refl _ | refine Le.drop ?_)) ⟨by simp [argsB, *], rfl⟩
  try simp only [decide_eq_true_eq, decide_eq_false_iff_not, Bool.and_eq_true, Bool.or_eq_true, Bool.not_eq_true', Bool.and_eq_false_iff, Bool.or_eq_false_iff, Bool.not_eq_false', Int.not_lt, Int.not_le, ne_eq, Decidable.not_not, Option.isSome_iff_ne_none, Option.isNone_iff_eq_none] at hc1
  refine Tri.seq (Tri.region ?_)
  refine TOps.eqlI rfl rfl rfl ?_
  refine TOps.assign rfl rfl ?_
  refine TOps.next ?_
  refine Tri.cond rfl (fun hc2 => ?_) (fun hc2 => ?_)
  · try simp only [decide_eq_true_eq, decide_eq_false_iff_not, Bool.and_eq_true, Bool.or_eq_true, Bool.not_eq_true', Bool.and_eq_false_iff, Bool.or_eq_false_iff, Bool.not_eq_false', Int.not_lt, Int.not_le, ne_eq, Decidable.not_not, Option.isSome_iff_ne_none, Option.isNone_iff_eq_none] at hc2
    refine Tri.seq (Tri.region ?_)
    refine TOps.move rfl rfl ?_
    refine TOps.eqlI rfl rfl rfl ?_
    refine TOps.assign rfl rfl ?_
    refine TOps.next ?_
    refine Tri.ret1 (H' := H) Try.results81 (fun _ _ h => h) (.tmp rfl) (by repeat (first | exact Le.refl _ | refine Le.drop ?_)) ⟨by simp [argsB, *], rfl⟩
  try simp only [decide_eq_true_eq, decide_eq_false_iff_not, Bool.and_eq_true, Bool.or_eq_true, Bool.not_eq_true', Bool.and_eq_false_iff, Bool.or_eq_false_iff, Bool.not_eq_false', Int.not_lt, Int.not_le, ne_eq, Decidable.not_not, Option.isSome_iff_ne_none, Option.isNone_iff_eq_none] at hc2
  refine Tri.fin ?_
  refine Nrm.unB ?_
  refine Nrm.next ?_
  refine Tri.seq (Tri.region ?_)
  refine TOps.move rfl rfl ?_
  refine TOps.geq rfl rfl rfl ?_
  refine TOps.move rfl rfl ?_
  refine' TOps.andB 2 rfl rfl rfl rfl (fun hg6_2 => ?_) ?_; rotate_left
  · have hg6_2' := hg6_2
    try simp only [decide_eq_true_eq, decide_eq_false_iff_not, Bool.and_eq_true, Bool.or_eq_true, Bool.not_eq_true', Bool.and_eq_false_iff, Bool.or_eq_false_iff, Bool.not_eq_false', Int.not_lt, Int.not_le, ne_eq, Decidable.not_not] at hg6_2'
    refine TOps.strip 2 true rfl rfl hg6_2 rfl ?_
    refine TOps.move rfl rfl ?_
    refine TOps.leq rfl rfl rfl ?_
    refine TOps.blk rfl (by repeat (first | exact Ext.refl _ | refine Ext.cons rfl ?_)) (by repeat (first | exact Le.refl _ | apply Le.drop))
  refine TOps.assign rfl rfl ?_
  refine TOps.next ?_
  refine Tri.ret1 (H' := H) Try.results81 (fun _ _ h => h) (.tmp rfl) (by repeat (first | exact Le.refl _ | refine Le.drop ?_)) ⟨by simp [argsB, *], rfl⟩
theorem checkNode_g {H : List Ent} {fv : Value} {F : Fm} (hF : RF H fv F) (hk : F.ok) (hv : 0 ≤ F.vars ∧ F.vars ≤ 24) (hn128 : F.nodes.length ≤ 128) (i : Nat) (hi : i < F.nodes.length) :
    Gives Try.prog 58 [fv, .int .i64 i] H (R1 (errV 73 (nodeErr F.vars i F.nodes[i])) H) := by
  obtain ⟨a, off, cap, nsp, rfl, hN⟩ := hF
  have h1 := hk.1; have h2 := hk.2.1; unfold I64 at h1 h2
  have h3 := hk.2.2.2
  obtain ⟨nb, aa, ao, acap, asp, rfl, rfl, hn⟩ := hN.at hi
  have hd := hk.2.2.1 F.nodes[i] (List.getElem_mem hi)
  have d1 := hd.1; have d2 := hd.2.1; have d3 := hd.2.2.1; have d4 := hd.2.2.2; unfold I64 at d1 d2
  have hcells := hn.cells
  generalize F.nodes[i] = d at *
  refine Gives.enter Try.func58 rfl (by exact Try.ntmps58) rfl ?_
  refine Tri.seq (Tri.region ?_)
  refine TOps.boxN rfl ti24 rfl rfl (fun b2 => ?_)
  refine TOps.hide (fun H1 l1 s1 r1 => ?_)
  replace hcells := hcells.le l1; replace hn := hn.le l1
  refine TOps.assign rfl rfl ?_
  refine TOps.next ?_
  refine Tri.seq (Tri.region ?_)
  first | refine TOps.fieldB 1 rfl Try.underlying24 rfl rfl ti22 rfl rfl rfl ?_ | refine TOps.fieldN 1 rfl Try.underlying24 rfl rfl ti22 rfl rfl rfl ?_
  refine TOps.load1 rfl ti22 (by first | exact Rd.lit (by repeat (first | exact List.Mem.head _ | apply List.Mem.tail)) rfl | (repeat (first | assumption | exact Rd.fld (by assumption) 1 rfl | apply Rd.up))) rfl ?_
  refine TOps.move rfl rfl ?_
  refine TOps.indexAddr (off' := off + i * 3) rfl rfl Try.underlying22 ti102 (by omega) (by omega) (by simp) rfl ?_
  refine TOps.loadN rfl ti102 (by first | exact Rd.all (by repeat (first | exact List.Mem.head _ | apply List.Mem.tail)) | (repeat (first | assumption | apply Rd.up))) rfl rfl ?_
  refine TOps.alloc ti102 rfl (fun b5 => ?_)
  refine TOps.storeN rfl rfl ti102 rfl rfl (by repeat (first | exact Upd.here | apply Upd.there)) (by first | decide | (simp; done) | (simp; omega)) ?_
  refine TOps.hide (fun H2 l2 s2 r2 => ?_)
  replace hcells := hcells.le l2; replace hn := hn.le l2; replace r1 := r1.le l2; have l3 := l2.trans l1
  refine TOps.next ?_
  refine Tri.seq ?_
  refine Tri.seq (Tri.region ?_)
  refine TOps.field0 rfl Try.underlying102 rfl rfl ti3 rfl rfl rfl ?_
  refine TOps.load1 rfl ti3 (by first | exact Rd.lit (by repeat (first | exact List.Mem.head _ | apply List.Mem.tail)) rfl | (repeat (first | assumption | exact Rd.fld (by assumption) 0 rfl | apply Rd.up))) rfl ?_
  refine TOps.lss rfl rfl rfl ?_
  refine TOps.move rfl rfl ?_
  refine' TOps.orB 3 rfl rfl rfl rfl (fun hg2_3 => ?_) ?_; rotate_left
  · have hg2_3' := hg2_3
    try simp only [decide_eq_true_eq, decide_eq_false_iff_not, Bool.and_eq_true, Bool.or_eq_true, Bool.not_eq_true', Bool.and_eq_false_iff, Bool.or_eq_false_iff, Bool.not_eq_false', Int.not_lt, Int.not_le, ne_eq, Decidable.not_not] at hg2_3'
    refine TOps.strip 3 false rfl rfl hg2_3 rfl ?_
    refine TOps.field0 rfl Try.underlying102 rfl rfl ti3 rfl rfl rfl ?_
    refine TOps.load1 rfl ti3 (by first | exact Rd.lit (by repeat (first | exact List.Mem.head _ | apply List.Mem.tail)) rfl | (repeat (first | assumption | exact Rd.fld (by assumption) 0 rfl | apply Rd.up))) rfl ?_
    refine TOps.gtr rfl rfl rfl ?_
    refine TOps.blk rfl (by repeat (first | exact Ext.refl _ | refine Ext.cons rfl ?_)) (by repeat (first | exact Le.refl _ | apply Le.drop))
  refine TOps.next ?_
  refine Tri.cond rfl (fun hc1 => ?_) (fun hc1 => ?_)
  · try simp only [decide_eq_true_eq, decide_eq_false_iff_not, Bool.and_eq_true, Bool.or_eq_true, Bool.not_eq_true', Bool.and_eq_false_iff, Bool.or_eq_false_iff, Bool.not_eq_false', Int.not_lt, Int.not_le, ne_eq, Decidable.not_not, Option.isSome_iff_ne_none, Option.isNone_iff_eq_none] at hc1
    refine Tri.seq (Tri.region ?_)
    refine TOps.makeInterface rfl Try.underlying73 rfl rfl ?_
    refine TOps.assign rfl rfl ?_
    refine TOps.next ?_
    refine Tri.ret1 (H' := H) Try.results58 (fun _ _ h => h) (.tmp rfl) (by first | exact l3 | exact l1) ⟨by simp [nodeErr, errV, *], rfl⟩
  try simp only [decide_eq_true_eq, decide_eq_false_iff_not, Bool.and_eq_true, Bool.or_eq_true, Bool.not_eq_true', Bool.and_eq_false_iff, Bool.or_eq_false_iff, Bool.not_eq_false', Int.not_lt, Int.not_le, ne_eq, Decidable.not_not, Option.isSome_iff_ne_none, Option.isNone_iff_eq_none] at hc1
  have q1 : ¬ (d.kind < 0 ∨ 5 < d.kind) := by omega
  refine Tri.fin ?_
  refine Nrm.next ?_
  refine Tri.seq ?_
  refine Tri.seq (Tri.region ?_)
  refine TOps.field0 rfl Try.underlying102 rfl rfl ti3 rfl rfl rfl ?_
  refine TOps.load1 rfl ti3 (by first | exact Rd.lit (by repeat (first | exact List.Mem.head _ | apply List.Mem.tail)) rfl | (repeat (first | assumption | exact Rd.fld (by assumption) 0 rfl | apply Rd.up))) rfl ?_
  first | refine TOps.fieldB 2 rfl Try.underlying102 rfl rfl ti53 rfl rfl rfl ?_ | refine TOps.fieldN 2 rfl Try.underlying102 rfl rfl ti53 rfl rfl rfl ?_
  refine TOps.load1 rfl ti53 (by first | exact Rd.lit (by repeat (first | exact List.Mem.head _ | apply List.Mem.tail)) rfl | (repeat (first | assumption | exact Rd.fld (by assumption) 2 rfl | apply Rd.up))) rfl ?_
  refine TOps.len rfl Try.underlying53 rfl ?_
  refine TOps.call (vs := [_, _]) Try.call81 ⟨rfl, rfl, trivial⟩ (arguments_g _ _) rfl ?_
  rintro _ _ ⟨rfl, rfl⟩
  refine TOps.not rfl rfl ?_
  refine TOps.next ?_
  refine Tri.cond rfl (fun hc2 => ?_) (fun hc2 => ?_)
  · try simp only [decide_eq_true_eq, decide_eq_false_iff_not, Bool.and_eq_true, Bool.or_eq_true, Bool.not_eq_true', Bool.and_eq_false_iff, Bool.or_eq_false_iff, Bool.not_eq_false', Int.not_lt, Int.not_le, ne_eq, Decidable.not_not, Option.isSome_iff_ne_none, Option.isNone_iff_eq_none] at hc2
    refine Tri.seq (Tri.region ?_)
    refine TOps.makeInterface rfl Try.underlying73 rfl rfl ?_
    refine TOps.assign rfl rfl ?_
    refine TOps.next ?_
    refine Tri.ret1 (H' := H) Try.results58 (fun _ _ h => h) (.tmp rfl) (by first | exact l3 | exact l1) ⟨by simp [nodeErr, errV, *], rfl⟩
  try simp only [decide_eq_true_eq, decide_eq_false_iff_not, Bool.and_eq_true, Bool.or_eq_true, Bool.not_eq_true', Bool.and_eq_false_iff, Bool.or_eq_false_iff, Bool.not_eq_false', Int.not_lt, Int.not_le, ne_eq, Decidable.not_not, Option.isSome_iff_ne_none, Option.isNone_iff_eq_none] at hc2
  have q2 : argsB d.kind d.args.length = true := hc2
  refine Tri.fin ?_
  refine Nrm.next ?_
  refine Tri.seq ?_
  refine Tri.seq (Tri.region ?_)
  first | refine TOps.fieldB 2 rfl Try.underlying102 rfl rfl ti53 rfl rfl rfl ?_ | refine TOps.fieldN 2 rfl Try.underlying102 rfl rfl ti53 rfl rfl rfl ?_
  refine TOps.load1 rfl ti53 (by first | exact Rd.lit (by repeat (first | exact List.Mem.head _ | apply List.Mem.tail)) rfl | (repeat (first | assumption | exact Rd.fld (by assumption) 2 rfl | apply Rd.up))) rfl ?_
  refine TOps.len rfl Try.underlying53 rfl ?_
  refine TOps.move rfl rfl ?_
  refine TOps.next ?_
  refine Tri.range (X := Unit) (fun x k => [(1, .int .i64 i), (2, .pointer (some ⟨b2, 0, none⟩)), (5, .pointer (some ⟨b5, 0, none⟩)), (31, slV aa ao d.args.length acap asp)]) (fun x k => H2) (fun x k => ∀ a ∈ d.args.take k, 0 ≤ a ∧ a < F.vars + i) (by omega) rfl rfl rfl (fun _ _ => ⟨rfl, rfl, rfl, rfl⟩) () (by simp) ⟨rfl, rfl, rfl, rfl, trivial⟩ (by repeat (first | exact Le.refl _ | assumption | apply Le.drop)) (fun k x hlt hp => ?_) (fun x ac wc hp hS hM => ?_)
  · skip
    obtain ⟨ab, rfl, rfl, ha⟩ := hn.args.at hlt
    have hab := d3 d.args[k] (List.getElem_mem hlt); unfold I64 at hab
    refine Tri.seq (Tri.region ?_)
    refine TOps.indexAddr (off' := ao + k) rfl rfl Try.underlying53 ti3 (by omega) (by omega) (by simp) rfl ?_
    refine TOps.load1 rfl ti3 (by first | exact Rd.lit (by repeat (first | exact List.Mem.head _ | apply List.Mem.tail)) rfl | (repeat (first | assumption | apply Rd.up))) rfl ?_
    refine TOps.assign rfl rfl ?_
    refine TOps.next ?_
    refine Tri.seq (Tri.region ?_)
    refine TOps.move rfl rfl ?_
    refine TOps.lss rfl rfl rfl ?_
    refine TOps.move rfl rfl ?_
    refine' TOps.orB 6 rfl rfl rfl rfl (fun hg9_2 => ?_) ?_; rotate_left
    · have hg9_2' := hg9_2
      try simp only [decide_eq_true_eq, decide_eq_false_iff_not, Bool.and_eq_true, Bool.or_eq_true, Bool.not_eq_true', Bool.and_eq_false_iff, Bool.or_eq_false_iff, Bool.not_eq_false', Int.not_lt, Int.not_le, ne_eq, Decidable.not_not] at hg9_2'
      refine TOps.strip 2 false rfl rfl hg9_2 rfl ?_
      refine TOps.move rfl rfl ?_
      refine TOps.field0 rfl Try.underlying24 rfl rfl ti3 rfl rfl rfl ?_
      refine TOps.load1 rfl ti3 (by first | exact Rd.lit (by repeat (first | exact List.Mem.head _ | apply List.Mem.tail)) rfl | (repeat (first | assumption | exact Rd.fld (by assumption) 0 rfl | apply Rd.up))) rfl ?_
      refine TOps.move rfl rfl ?_
      refine TOps.add rfl rfl (wrapI (by omega) (by omega)) rfl ?_
      refine TOps.geq rfl rfl rfl ?_
      refine TOps.blk rfl (by repeat (first | exact Ext.refl _ | refine Ext.cons rfl ?_)) (by repeat (first | exact Le.refl _ | apply Le.drop))
    refine TOps.next ?_
    refine Tri.cond rfl (fun hc3 => ?_) (fun hc3 => ?_)
    · try simp only [decide_eq_true_eq, decide_eq_false_iff_not, Bool.and_eq_true, Bool.or_eq_true, Bool.not_eq_true', Bool.and_eq_false_iff, Bool.or_eq_false_iff, Bool.not_eq_false', Int.not_lt, Int.not_le, ne_eq, Decidable.not_not, Option.isSome_iff_ne_none, Option.isNone_iff_eq_none] at hc3
      have q3 : (d.args.any fun a => decide (a < 0) || decide (F.vars + i ≤ a)) = true := List.any_eq_true.2 ⟨d.args[k], List.getElem_mem hlt, by simpa using hc3⟩
      refine Tri.seq (Tri.region ?_)
      refine TOps.makeInterface rfl Try.underlying73 rfl rfl ?_
      refine TOps.assign rfl rfl ?_
      refine TOps.next ?_
      refine Tri.ret1 (H' := H) Try.results58 (fun _ _ h => h) (.tmp rfl) (by first | exact l3 | exact l1) ⟨by simp [nodeErr, errV, *], rfl⟩
    try simp only [decide_eq_true_eq, decide_eq_false_iff_not, Bool.and_eq_true, Bool.or_eq_true, Bool.not_eq_true', Bool.and_eq_false_iff, Bool.or_eq_false_iff, Bool.not_eq_false', Int.not_lt, Int.not_le, ne_eq, Decidable.not_not, Option.isSome_iff_ne_none, Option.isNone_iff_eq_none] at hc3
    refine Tri.fin ?_
    refine Nrm.body () (ball_take_succ hlt hp (by omega)) ⟨rfl, rfl, rfl, rfl, rfl, rfl, trivial⟩ (by repeat (first | exact Le.refl _ | assumption | apply Le.drop))
  have q3 : (d.args.any fun a => decide (a < 0) || decide (F.vars + i ≤ a)) = false := by
    rw [List.any_eq_false]; intro a ha; have := hp a (by simpa using ha); simp; omega
  have q4 : nodeErr F.vars i d = (if d.kind = 0 then (if d.k ≠ 0 ∧ d.k ≠ 1 then some 3 else none)
      else if d.kind = 4 then (if d.k < 1 ∨ (d.args.length : Int) < d.k then some 3 else none) else if d.k ≠ 0 then some 2 else none) := by
    unfold nodeErr; rw [if_neg q1, if_neg (by simp [q2]), if_neg (by simp [q3])]
  refine Nrm.of hS hM ?_
  refine Nrm.next ?_
  refine Tri.seq ?_
  refine Tri.seq (Tri.region ?_)
  refine TOps.field0 rfl Try.underlying102 rfl rfl ti3 rfl rfl rfl ?_
  refine TOps.load1 rfl ti3 (by first | exact Rd.lit (by repeat (first | exact List.Mem.head _ | apply List.Mem.tail)) rfl | (repeat (first | assumption | exact Rd.fld (by assumption) 0 rfl | apply Rd.up))) rfl ?_
  refine TOps.next ?_
  refine Tri.block ?_
  refine Tri.seq (Tri.region ?_)
  refine TOps.eqlI rfl rfl rfl ?_
  refine TOps.assign rfl rfl ?_
  refine TOps.next ?_
  refine Tri.cond rfl (fun hc4 => ?_) (fun hc4 => ?_)
  · try simp only [decide_eq_true_eq, decide_eq_false_iff_not, Bool.and_eq_true, Bool.or_eq_true, Bool.not_eq_true', Bool.and_eq_false_iff, Bool.or_eq_false_iff, Bool.not_eq_false', Int.not_lt, Int.not_le, ne_eq, Decidable.not_not, Option.isSome_iff_ne_none, Option.isNone_iff_eq_none] at hc4
    refine Tri.seq (Tri.region ?_)
    first | refine TOps.fieldB 1 rfl Try.underlying102 rfl rfl ti3 rfl rfl rfl ?_ | refine TOps.fieldN 1 rfl Try.underlying102 rfl rfl ti3 rfl rfl rfl ?_
    refine TOps.load1 rfl ti3 (by first | exact Rd.lit (by repeat (first | exact List.Mem.head _ | apply List.Mem.tail)) rfl | (repeat (first | assumption | exact Rd.fld (by assumption) 1 rfl | apply Rd.up))) rfl ?_
    refine TOps.neqI rfl rfl rfl ?_
    refine TOps.move rfl rfl ?_
    refine' TOps.andB 3 rfl rfl rfl rfl (fun hg16_3 => ?_) ?_; rotate_left
    · have hg16_3' := hg16_3
      try simp only [decide_eq_true_eq, decide_eq_false_iff_not, Bool.and_eq_true, Bool.or_eq_true, Bool.not_eq_true', Bool.and_eq_false_iff, Bool.or_eq_false_iff, Bool.not_eq_false', Int.not_lt, Int.not_le, ne_eq, Decidable.not_not] at hg16_3'
      refine TOps.strip 3 true rfl rfl hg16_3 rfl ?_
      first | refine TOps.fieldB 1 rfl Try.underlying102 rfl rfl ti3 rfl rfl rfl ?_ | refine TOps.fieldN 1 rfl Try.underlying102 rfl rfl ti3 rfl rfl rfl ?_
      refine TOps.load1 rfl ti3 (by first | exact Rd.lit (by repeat (first | exact List.Mem.head _ | apply List.Mem.tail)) rfl | (repeat (first | assumption | exact Rd.fld (by assumption) 1 rfl | apply Rd.up))) rfl ?_
      refine TOps.neqI rfl rfl rfl ?_
      refine TOps.blk rfl (by repeat (first | exact Ext.refl _ | refine Ext.cons rfl ?_)) (by repeat (first | exact Le.refl _ | apply Le.drop))
    refine TOps.next ?_
    refine Tri.cond rfl (fun hc5 => ?_) (fun hc5 => ?_)
    · try simp only [decide_eq_true_eq, decide_eq_false_iff_not, Bool.and_eq_true, Bool.or_eq_true, Bool.not_eq_true', Bool.and_eq_false_iff, Bool.or_eq_false_iff, Bool.not_eq_false', Int.not_lt, Int.not_le, ne_eq, Decidable.not_not, Option.isSome_iff_ne_none, Option.isNone_iff_eq_none] at hc5
      refine Tri.seq (Tri.region ?_)
      refine TOps.makeInterface rfl Try.underlying73 rfl rfl ?_
      refine TOps.assign rfl rfl ?_
      refine TOps.next ?_
      refine Tri.ret1 (H' := H) Try.results58 (fun _ _ h => h) (.tmp rfl) l3 ⟨by rw [q4]; (repeat' split) <;> first | rfl | (exfalso; omega), rfl⟩
    try simp only [decide_eq_true_eq, decide_eq_false_iff_not, Bool.and_eq_true, Bool.or_eq_true, Bool.not_eq_true', Bool.and_eq_false_iff, Bool.or_eq_false_iff, Bool.not_eq_false', Int.not_lt, Int.not_le, ne_eq, Decidable.not_not, Option.isSome_iff_ne_none, Option.isNone_iff_eq_none] at hc5
    refine Tri.fin ?_
    refine Nrm.unB ?_
    refine Nrm.next ?_
    refine Tri.seq (Tri.region ?_)
    refine TOps.assign rfl rfl ?_
    refine TOps.next ?_
    refine Tri.ret1 (H' := H) Try.results58 (fun _ _ h => h) (.tmp rfl) l3 ⟨by rw [q4]; (repeat' split) <;> first | rfl | (exfalso; omega), rfl⟩
  try simp only [decide_eq_true_eq, decide_eq_false_iff_not, Bool.and_eq_true, Bool.or_eq_true, Bool.not_eq_true', Bool.and_eq_false_iff, Bool.or_eq_false_iff, Bool.not_eq_false', Int.not_lt, Int.not_le, ne_eq, Decidable.not_not, Option.isSome_iff_ne_none, Option.isNone_iff_eq_none] at hc4
  refine Tri.seq (Tri.region ?_)
  refine TOps.eqlI rfl rfl rfl ?_
  refine TOps.assign rfl rfl ?_
  refine TOps.next ?_
  refine Tri.cond rfl (fun hc6 => ?_) (fun hc6 => ?_)
  · try simp only [decide_eq_true_eq, decide_eq_false_iff_not, Bool.and_eq_true, Bool.or_eq_true, Bool.not_eq_true', Bool.and_eq_false_iff, Bool.or_eq_false_iff, Bool.not_eq_false', Int.not_lt, Int.not_le, ne_eq, Decidable.not_not, Option.isSome_iff_ne_none, Option.isNone_iff_eq_none] at hc6
    refine Tri.seq (Tri.region ?_)
    first | refine TOps.fieldB 1 rfl Try.underlying102 rfl rfl ti3 rfl rfl rfl ?_ | refine TOps.fieldN 1 rfl Try.underlying102 rfl rfl ti3 rfl rfl rfl ?_
    refine TOps.load1 rfl ti3 (by first | exact Rd.lit (by repeat (first | exact List.Mem.head _ | apply List.Mem.tail)) rfl | (repeat (first | assumption | exact Rd.fld (by assumption) 1 rfl | apply Rd.up))) rfl ?_
    refine TOps.lss rfl rfl rfl ?_
    refine TOps.move rfl rfl ?_
    refine' TOps.orB 6 rfl rfl rfl rfl (fun hg19_3 => ?_) ?_; rotate_left
    · have hg19_3' := hg19_3
      try simp only [decide_eq_true_eq, decide_eq_false_iff_not, Bool.and_eq_true, Bool.or_eq_true, Bool.not_eq_true', Bool.and_eq_false_iff, Bool.or_eq_false_iff, Bool.not_eq_false', Int.not_lt, Int.not_le, ne_eq, Decidable.not_not] at hg19_3'
      refine TOps.strip 3 false rfl rfl hg19_3 rfl ?_
      first | refine TOps.fieldB 1 rfl Try.underlying102 rfl rfl ti3 rfl rfl rfl ?_ | refine TOps.fieldN 1 rfl Try.underlying102 rfl rfl ti3 rfl rfl rfl ?_
      refine TOps.load1 rfl ti3 (by first | exact Rd.lit (by repeat (first | exact List.Mem.head _ | apply List.Mem.tail)) rfl | (repeat (first | assumption | exact Rd.fld (by assumption) 1 rfl | apply Rd.up))) rfl ?_
      first | refine TOps.fieldB 2 rfl Try.underlying102 rfl rfl ti53 rfl rfl rfl ?_ | refine TOps.fieldN 2 rfl Try.underlying102 rfl rfl ti53 rfl rfl rfl ?_
      refine TOps.load1 rfl ti53 (by first | exact Rd.lit (by repeat (first | exact List.Mem.head _ | apply List.Mem.tail)) rfl | (repeat (first | assumption | exact Rd.fld (by assumption) 2 rfl | apply Rd.up))) rfl ?_
      refine TOps.len rfl Try.underlying53 rfl ?_
      refine TOps.gtr rfl rfl rfl ?_
      refine TOps.blk rfl (by repeat (first | exact Ext.refl _ | refine Ext.cons rfl ?_)) (by repeat (first | exact Le.refl _ | apply Le.drop))
    refine TOps.next ?_
    refine Tri.cond rfl (fun hc7 => ?_) (fun hc7 => ?_)
    · try simp only [decide_eq_true_eq, decide_eq_false_iff_not, Bool.and_eq_true, Bool.or_eq_true, Bool.not_eq_true', Bool.and_eq_false_iff, Bool.or_eq_false_iff, Bool.not_eq_false', Int.not_lt, Int.not_le, ne_eq, Decidable.not_not, Option.isSome_iff_ne_none, Option.isNone_iff_eq_none] at hc7
      refine Tri.seq (Tri.region ?_)
      refine TOps.makeInterface rfl Try.underlying73 rfl rfl ?_
      refine TOps.assign rfl rfl ?_
      refine TOps.next ?_
      refine Tri.ret1 (H' := H) Try.results58 (fun _ _ h => h) (.tmp rfl) l3 ⟨by rw [q4]; (repeat' split) <;> first | rfl | (exfalso; omega), rfl⟩
    try simp only [decide_eq_true_eq, decide_eq_false_iff_not, Bool.and_eq_true, Bool.or_eq_true, Bool.not_eq_true', Bool.and_eq_false_iff, Bool.or_eq_false_iff, Bool.not_eq_false', Int.not_lt, Int.not_le, ne_eq, Decidable.not_not, Option.isSome_iff_ne_none, Option.isNone_iff_eq_none] at hc7
    refine Tri.fin ?_
    refine Nrm.unB ?_
    refine Nrm.next ?_
    refine Tri.seq (Tri.region ?_)
    refine TOps.assign rfl rfl ?_
    refine TOps.next ?_
    refine Tri.ret1 (H' := H) Try.results58 (fun _ _ h => h) (.tmp rfl) l3 ⟨by rw [q4]; (repeat' split) <;> first | rfl | (exfalso; omega), rfl⟩
  try simp only [decide_eq_true_eq, decide_eq_false_iff_not, Bool.and_eq_true, Bool.or_eq_true, Bool.not_eq_true', Bool.and_eq_false_iff, Bool.or_eq_false_iff, Bool.not_eq_false', Int.not_lt, Int.not_le, ne_eq, Decidable.not_not, Option.isSome_iff_ne_none, Option.isNone_iff_eq_none] at hc6
  refine Tri.seq (Tri.region ?_)
  first | refine TOps.fieldB 1 rfl Try.underlying102 rfl rfl ti3 rfl rfl rfl ?_ | refine TOps.fieldN 1 rfl Try.underlying102 rfl rfl ti3 rfl rfl rfl ?_
  refine TOps.load1 rfl ti3 (by first | exact Rd.lit (by repeat (first | exact List.Mem.head _ | apply List.Mem.tail)) rfl | (repeat (first | assumption | exact Rd.fld (by assumption) 1 rfl | apply Rd.up))) rfl ?_
  refine TOps.neqI rfl rfl rfl ?_
  refine TOps.next ?_
  refine Tri.cond rfl (fun hc8 => ?_) (fun hc8 => ?_)
  · try simp only [decide_eq_true_eq, decide_eq_false_iff_not, Bool.and_eq_true, Bool.or_eq_true, Bool.not_eq_true', Bool.and_eq_false_iff, Bool.or_eq_false_iff, Bool.not_eq_false', Int.not_lt, Int.not_le, ne_eq, Decidable.not_not, Option.isSome_iff_ne_none, Option.isNone_iff_eq_none] at hc8
    refine Tri.seq (Tri.region ?_)
    refine TOps.makeInterface rfl Try.underlying73 rfl rfl ?_
    refine TOps.assign rfl rfl ?_
    refine TOps.next ?_
    refine Tri.ret1 (H' := H) Try.results58 (fun _ _ h => h) (.tmp rfl) l3 ⟨by rw [q4]; (repeat' split) <;> first | rfl | (exfalso; omega), rfl⟩
  try simp only [decide_eq_true_eq, decide_eq_false_iff_not, Bool.and_eq_true, Bool.or_eq_true, Bool.not_eq_true', Bool.and_eq_false_iff, Bool.or_eq_false_iff, Bool.not_eq_false', Int.not_lt, Int.not_le, ne_eq, Decidable.not_not, Option.isSome_iff_ne_none, Option.isNone_iff_eq_none] at hc8
  refine Tri.fin ?_
  refine Nrm.unB ?_
  refine Nrm.next ?_
  refine Tri.seq (Tri.region ?_)
  refine TOps.assign rfl rfl ?_
  refine TOps.next ?_
  refine Tri.ret1 (H' := H) Try.results58 (fun _ _ h => h) (.tmp rfl) l3 ⟨by rw [q4]; (repeat' split) <;> first | rfl | (exfalso; omega), rfl⟩
theorem check_g {H : List Ent} {fv : Value} {F : Fm} (hF : RF H fv F) (hk : F.ok) :
    Gives Try.prog 30 [fv] H (R1 (errV 73 F.err) H) := by
  have hF0 := hF
  obtain ⟨a, off, cap, nsp, rfl, hN⟩ := hF
  have h1 := hk.1; have h2 := hk.2.1; unfold I64 at h1
  have h3 := hk.2.2.2
  refine Gives.enter Try.func30 rfl (by exact Try.ntmps30) rfl ?_
  refine Tri.seq (Tri.region ?_)
  refine TOps.boxN rfl ti24 rfl rfl (fun b1 => ?_)
  refine TOps.hide (fun H1 l1 s1 r1 => ?_)
  replace hF0 := hF0.le l1
  refine TOps.assign rfl rfl ?_
  refine TOps.next ?_
  refine Tri.seq ?_
  refine Tri.seq (Tri.region ?_)
  refine TOps.field0 rfl Try.underlying24 rfl rfl ti3 rfl rfl rfl ?_
  refine TOps.load1 rfl ti3 (by first | exact Rd.lit (by repeat (first | exact List.Mem.head _ | apply List.Mem.tail)) rfl | (repeat (first | assumption | exact Rd.fld (by assumption) 0 rfl | apply Rd.up))) rfl ?_
  refine TOps.lss rfl rfl rfl ?_
  refine TOps.move rfl rfl ?_
  refine' TOps.orB 3 rfl rfl rfl rfl (fun hg1_3 => ?_) ?_; rotate_left
  · have hg1_3' := hg1_3
    try simp only [decide_eq_true_eq, decide_eq_false_iff_not, Bool.and_eq_true, Bool.or_eq_true, Bool.not_eq_true', Bool.and_eq_false_iff, Bool.or_eq_false_iff, Bool.not_eq_false', Int.not_lt, Int.not_le, ne_eq, Decidable.not_not] at hg1_3'
    refine TOps.strip 3 false rfl rfl hg1_3 rfl ?_
    refine TOps.field0 rfl Try.underlying24 rfl rfl ti3 rfl rfl rfl ?_
    refine TOps.load1 rfl ti3 (by first | exact Rd.lit (by repeat (first | exact List.Mem.head _ | apply List.Mem.tail)) rfl | (repeat (first | assumption | exact Rd.fld (by assumption) 0 rfl | apply Rd.up))) rfl ?_
    refine TOps.gtr rfl rfl rfl ?_
    refine TOps.blk rfl (by repeat (first | exact Ext.refl _ | refine Ext.cons rfl ?_)) (by repeat (first | exact Le.refl _ | apply Le.drop))
  refine TOps.next ?_
  refine Tri.cond rfl (fun hc1 => ?_) (fun hc1 => ?_)
  · try simp only [decide_eq_true_eq, decide_eq_false_iff_not, Bool.and_eq_true, Bool.or_eq_true, Bool.not_eq_true', Bool.and_eq_false_iff, Bool.or_eq_false_iff, Bool.not_eq_false', Int.not_lt, Int.not_le, ne_eq, Decidable.not_not, Option.isSome_iff_ne_none, Option.isNone_iff_eq_none] at hc1
    refine Tri.seq (Tri.region ?_)
    refine TOps.makeInterface rfl Try.underlying73 rfl rfl ?_
    refine TOps.assign rfl rfl ?_
    refine TOps.next ?_
    refine Tri.ret1 (H' := H) Try.results30 (fun _ _ h => h) (.tmp rfl) l1 ⟨by unfold Fm.err; first | (rw [if_pos (by omega)]; rfl) | (rw [if_neg q1, if_pos (by omega)]; rfl) | (rw [if_neg q1, if_neg q2, q3] <;> simp [errV, *]), rfl⟩
  try simp only [decide_eq_true_eq, decide_eq_false_iff_not, Bool.and_eq_true, Bool.or_eq_true, Bool.not_eq_true', Bool.and_eq_false_iff, Bool.or_eq_false_iff, Bool.not_eq_false', Int.not_lt, Int.not_le, ne_eq, Decidable.not_not, Option.isSome_iff_ne_none, Option.isNone_iff_eq_none] at hc1
  have q1 : ¬ (F.vars < 0 ∨ 24 < F.vars) := by omega
  refine Tri.fin ?_
  refine Nrm.next ?_
  refine Tri.seq ?_
  refine Tri.seq (Tri.region ?_)
  first | refine TOps.fieldB 1 rfl Try.underlying24 rfl rfl ti22 rfl rfl rfl ?_ | refine TOps.fieldN 1 rfl Try.underlying24 rfl rfl ti22 rfl rfl rfl ?_
  refine TOps.load1 rfl ti22 (by first | exact Rd.lit (by repeat (first | exact List.Mem.head _ | apply List.Mem.tail)) rfl | (repeat (first | assumption | exact Rd.fld (by assumption) 1 rfl | apply Rd.up))) rfl ?_
  refine TOps.len rfl Try.underlying22 rfl ?_
  refine TOps.gtr rfl rfl rfl ?_
  refine TOps.next ?_
  refine Tri.cond rfl (fun hc2 => ?_) (fun hc2 => ?_)
  · try simp only [decide_eq_true_eq, decide_eq_false_iff_not, Bool.and_eq_true, Bool.or_eq_true, Bool.not_eq_true', Bool.and_eq_false_iff, Bool.or_eq_false_iff, Bool.not_eq_false', Int.not_lt, Int.not_le, ne_eq, Decidable.not_not, Option.isSome_iff_ne_none, Option.isNone_iff_eq_none] at hc2
    refine Tri.seq (Tri.region ?_)
    refine TOps.makeInterface rfl Try.underlying73 rfl rfl ?_
    refine TOps.assign rfl rfl ?_
    refine TOps.next ?_
    refine Tri.ret1 (H' := H) Try.results30 (fun _ _ h => h) (.tmp rfl) l1 ⟨by unfold Fm.err; first | (rw [if_pos (by omega)]; rfl) | (rw [if_neg q1, if_pos (by omega)]; rfl) | (rw [if_neg q1, if_neg q2, q3] <;> simp [errV, *]), rfl⟩
  try simp only [decide_eq_true_eq, decide_eq_false_iff_not, Bool.and_eq_true, Bool.or_eq_true, Bool.not_eq_true', Bool.and_eq_false_iff, Bool.or_eq_false_iff, Bool.not_eq_false', Int.not_lt, Int.not_le, ne_eq, Decidable.not_not, Option.isSome_iff_ne_none, Option.isNone_iff_eq_none] at hc2
  have q2 : ¬ (128 < F.nodes.length) := by omega
  refine Tri.fin ?_
  refine Nrm.next ?_
  refine Tri.seq ?_
  refine Tri.seq (Tri.region ?_)
  first | refine TOps.fieldB 1 rfl Try.underlying24 rfl rfl ti22 rfl rfl rfl ?_ | refine TOps.fieldN 1 rfl Try.underlying24 rfl rfl ti22 rfl rfl rfl ?_
  refine TOps.load1 rfl ti22 (by first | exact Rd.lit (by repeat (first | exact List.Mem.head _ | apply List.Mem.tail)) rfl | (repeat (first | assumption | exact Rd.fld (by assumption) 1 rfl | apply Rd.up))) rfl ?_
  refine TOps.len rfl Try.underlying22 rfl ?_
  refine TOps.move rfl rfl ?_
  refine TOps.next ?_
  refine Tri.range (X := Unit) (fun x k => [(1, .pointer (some ⟨b1, 0, none⟩))]) (fun x k => H1) (fun x k => ∀ j (h : j < F.nodes.length), j < k → nodeErr F.vars j F.nodes[j] = none) (by omega) rfl rfl rfl (fun _ _ => ⟨rfl, rfl, rfl, rfl⟩) () (by intro j h h0; omega) ⟨rfl, trivial⟩ (by repeat (first | exact Le.refl _ | assumption | apply Le.drop)) (fun k x hlt hp => ?_) (fun x ac wc hp hS hM => ?_)
  · skip
    refine Tri.seq (Tri.region ?_)
    refine TOps.move rfl rfl ?_
    refine TOps.assign rfl rfl ?_
    refine TOps.next ?_
    refine Tri.seq (Tri.region ?_)
    refine TOps.loadN rfl ti24 (by first | exact Rd.all (by repeat (first | exact List.Mem.head _ | apply List.Mem.tail)) | (repeat (first | assumption | apply Rd.up))) rfl rfl ?_
    refine TOps.move rfl rfl ?_
    refine TOps.call (vs := [_, _]) Try.call58 ⟨rfl, rfl, trivial⟩ (checkNode_g hF0 hk (by omega) (by omega) k hlt) rfl ?_
    rintro _ _ ⟨rfl, rfl⟩
    refine TOps.assign rfl rfl ?_
    refine TOps.next ?_
    refine Tri.seq (Tri.region ?_)
    refine TOps.move rfl rfl ?_
    refine TOps.neqNil rfl Try.underlying34 rfl ?_
    refine TOps.next ?_
    refine Tri.cond rfl (fun hc3 => ?_) (fun hc3 => ?_)
    · try simp only [decide_eq_true_eq, decide_eq_false_iff_not, Bool.and_eq_true, Bool.or_eq_true, Bool.not_eq_true', Bool.and_eq_false_iff, Bool.or_eq_false_iff, Bool.not_eq_false', Int.not_lt, Int.not_le, ne_eq, Decidable.not_not, Option.isSome_iff_ne_none, Option.isNone_iff_eq_none] at hc3
      obtain ⟨e, he⟩ := Option.ne_none_iff_exists'.1 hc3
      have q3 := nodesErr_some F.vars e F.nodes 0 k hlt (fun j hj hjk => by simpa using hp j hj hjk) (by simpa using he)
      rw [he]
      refine Tri.seq (Tri.region ?_)
      refine TOps.move rfl rfl ?_
      refine TOps.assign rfl rfl ?_
      refine TOps.next ?_
      refine Tri.ret1 (H' := H) Try.results30 (fun _ _ h => h) (.tmp rfl) l1 ⟨by unfold Fm.err; first | (rw [if_pos (by omega)]; rfl) | (rw [if_neg q1, if_pos (by omega)]; rfl) | (rw [if_neg q1, if_neg q2, q3] <;> simp [errV, *]), rfl⟩
    try simp only [decide_eq_true_eq, decide_eq_false_iff_not, Bool.and_eq_true, Bool.or_eq_true, Bool.not_eq_true', Bool.and_eq_false_iff, Bool.or_eq_false_iff, Bool.not_eq_false', Int.not_lt, Int.not_le, ne_eq, Decidable.not_not, Option.isSome_iff_ne_none, Option.isNone_iff_eq_none] at hc3
    refine Tri.fin ?_
    refine Nrm.body () (by intro j h hj; rcases Nat.lt_succ_iff_lt_or_eq.1 hj with hj | rfl; exact hp j h hj; simpa using hc3) ⟨rfl, rfl, rfl, trivial⟩ (by repeat (first | exact Le.refl _ | assumption | apply Le.drop))
  have q3 := nodesErr_none F.vars F.nodes 0 (fun j hj => by simpa using hp j hj hj)
  refine Nrm.of hS hM ?_
  refine Nrm.next ?_
  refine Tri.seq ?_
  refine Tri.seq (Tri.region ?_)
  refine TOps.loadN rfl ti24 (by first | exact Rd.all (by repeat (first | exact List.Mem.head _ | apply List.Mem.tail)) | (repeat (first | assumption | apply Rd.up))) rfl rfl ?_
  first | refine TOps.fieldB 2 rfl Try.underlying24 rfl rfl ti3 rfl rfl rfl ?_ | refine TOps.fieldN 2 rfl Try.underlying24 rfl rfl ti3 rfl rfl rfl ?_
  refine TOps.load1 rfl ti3 (by first | exact Rd.lit (by repeat (first | exact List.Mem.head _ | apply List.Mem.tail)) rfl | (repeat (first | assumption | exact Rd.fld (by assumption) 2 rfl | apply Rd.up))) rfl ?_
  refine TOps.call (vs := [_, _]) Try.call59 ⟨rfl, rfl, trivial⟩ (valid_g hF0 hk _ h2) rfl ?_
  rintro _ _ ⟨rfl, rfl⟩
  refine TOps.not rfl rfl ?_
  refine TOps.next ?_
  refine Tri.cond rfl (fun hc4 => ?_) (fun hc4 => ?_)
  · try simp only [decide_eq_true_eq, decide_eq_false_iff_not, Bool.and_eq_true, Bool.or_eq_true, Bool.not_eq_true', Bool.and_eq_false_iff, Bool.or_eq_false_iff, Bool.not_eq_false', Int.not_lt, Int.not_le, ne_eq, Decidable.not_not, Option.isSome_iff_ne_none, Option.isNone_iff_eq_none] at hc4
    refine Tri.seq (Tri.region ?_)
    refine TOps.makeInterface rfl Try.underlying73 rfl rfl ?_
    refine TOps.assign rfl rfl ?_
    refine TOps.next ?_
    refine Tri.ret1 (H' := H) Try.results30 (fun _ _ h => h) (.tmp rfl) l1 ⟨by unfold Fm.err; first | (rw [if_pos (by omega)]; rfl) | (rw [if_neg q1, if_pos (by omega)]; rfl) | (rw [if_neg q1, if_neg q2, q3] <;> simp [errV, *]), rfl⟩
  try simp only [decide_eq_true_eq, decide_eq_false_iff_not, Bool.and_eq_true, Bool.or_eq_true, Bool.not_eq_true', Bool.and_eq_false_iff, Bool.or_eq_false_iff, Bool.not_eq_false', Int.not_lt, Int.not_le, ne_eq, Decidable.not_not, Option.isSome_iff_ne_none, Option.isNone_iff_eq_none] at hc4
  refine Tri.fin ?_
  refine Nrm.next ?_
  refine Tri.seq (Tri.region ?_)
  refine TOps.assign rfl rfl ?_
  refine TOps.next ?_
  refine Tri.ret1 (H' := H) Try.results30 (fun _ _ h => h) (.tmp rfl) l1 ⟨by unfold Fm.err; first | (rw [if_pos (by omega)]; rfl) | (rw [if_neg q1, if_pos (by omega)]; rfl) | (rw [if_neg q1, if_neg q2, q3] <;> simp [errV, *]), rfl⟩
end Go.Proofs
namespace Go.Proofs
open Go.GL
set_option linter.unusedVariables false
set_option linter.unusedSimpArgs false
theorem values_g {H : List Ent} {fv : Value} {F : Fm} (hF : RF H fv F) (hk : F.ok) (hg : F.Good) (failed : Int) :
    Gives Try.prog 33 [fv, .int .i64 failed] H (fun u H' => ∃ b cap, u = slV (some b) 0 (F.values failed).length cap ∧ row (some b) 4 1 cap (bools (F.values failed)) :: H = H') := by
  obtain ⟨vars, nodes, top⟩ := F
  obtain ⟨na, noff, ncap, nsp, rfl, hN⟩ := hF
  have g0 := hg.v0; have g1 := hg.v1; have g2 := hg.n1
  simp only at g0 g1 g2 hN
  obtain ⟨v, rfl⟩ := Int.eq_ofNat_of_zero_le g0
  have e0 : Fm.values ⟨v, nodes, top⟩ failed = valsFrom (events v failed) nodes := by simp [Fm.values]
  rw [e0]
  dsimp only
  have hlen : ∀ k, (valsFrom (events v failed) (nodes.take k)).length = v + min k nodes.length := by intro k; rw [valsFrom_length, events_length, List.length_take]
  refine Gives.enter Try.func33 rfl (by exact Try.ntmps33) rfl ?_
  refine Tri.seq (Tri.region ?_)
  refine TOps.boxN rfl ti24 rfl rfl (fun b2 => ?_)
  refine TOps.hide (fun H1 l1 s1 r1 => ?_)
  replace hN := hN.le l1
  refine TOps.assign rfl rfl ?_
  refine TOps.next ?_
  refine Tri.seq (Tri.region ?_)
  refine TOps.field0 rfl Try.underlying24 rfl rfl ti3 rfl rfl rfl ?_
  refine TOps.load1 rfl ti3 (by first | exact Rd.lit (by repeat (first | exact List.Mem.head _ | apply List.Mem.tail)) rfl | (repeat (first | assumption | exact Rd.fld (by assumption) 0 rfl | apply Rd.up))) rfl ?_
  refine TOps.field0 rfl Try.underlying24 rfl rfl ti3 rfl rfl rfl ?_
  refine TOps.load1 rfl ti3 (by first | exact Rd.lit (by repeat (first | exact List.Mem.head _ | apply List.Mem.tail)) rfl | (repeat (first | assumption | exact Rd.fld (by assumption) 0 rfl | apply Rd.up))) rfl ?_
  first | refine TOps.fieldB 1 rfl Try.underlying24 rfl rfl ti22 rfl rfl rfl ?_ | refine TOps.fieldN 1 rfl Try.underlying24 rfl rfl ti22 rfl rfl rfl ?_
  refine TOps.load1 rfl ti22 (by first | exact Rd.lit (by repeat (first | exact List.Mem.head _ | apply List.Mem.tail)) rfl | (repeat (first | assumption | exact Rd.fld (by assumption) 1 rfl | apply Rd.up))) rfl ?_
  refine TOps.len rfl Try.underlying22 rfl ?_
  refine TOps.add (r := ((v + nodes.length : Nat) : Int)) rfl rfl (by rw [wrapI (by omega) (by omega)]; omega) rfl ?_
  refine TOps.make1 rfl rfl Try.underlying77 ti4 (by omega) (by omega) (by omega) rfl (fun b21 => ?_)
  refine TOps.assign rfl rfl ?_
  refine TOps.next ?_
  refine Tri.seq ?_
  refine Tri.seq (Tri.region ?_)
  refine TOps.move rfl rfl ?_
  refine TOps.len rfl Try.underlying77 rfl ?_
  refine TOps.move rfl rfl ?_
  refine TOps.next ?_
  refine Tri.range (X := Unit) (fun x k => [(1, .int .i64 failed), (2, .pointer (some ⟨b2, 0, none⟩)), (5, slV (some b21) 0 v (v + nodes.length))]) (fun x k => row (some b21) 4 1 (v + nodes.length) (bools ((List.range k).map (bitB failed) ++ List.replicate (v - k) false)) :: H1) (fun x k => True) (by omega) rfl rfl rfl (fun _ _ => ⟨rfl, rfl, rfl, rfl⟩) () trivial ⟨rfl, rfl, rfl, trivial⟩ (Le.rowEq (by simp)) (fun k x hlt hp => ?_) (fun x ac wc hp hS hM => ?_)
  · skip
    refine Tri.seq (Tri.region ?_)
    refine TOps.move rfl rfl ?_
    refine TOps.assign rfl rfl ?_
    refine TOps.next ?_
    refine Tri.region ?_
    refine TOps.move rfl rfl ?_
    refine TOps.move rfl rfl ?_
    refine TOps.move rfl rfl ?_
    refine TOps.move rfl rfl ?_
    refine TOps.shr rfl rfl (by omega) rfl rfl ?_
    refine TOps.and rfl rfl rfl rfl ?_
    refine TOps.eqlI rfl rfl rfl ?_
    refine TOps.indexAddr (off' := k) rfl rfl Try.underlying77 ti4 (by omega) (by omega) (by simp) rfl ?_
    refine TOps.store1 rfl rfl ti4 rfl rfl (by repeat (first | exact Upd.here | apply Upd.there)) (by first | decide | (simp; done) | (simp; omega)) ?_
    refine TOps.fin ?_
    refine Nrm.body () trivial ⟨rfl, rfl, rfl, rfl, rfl, trivial⟩ (Le.rowEq (by rw [← fill_set (bitB failed) false hlt]; simp [bitB, bools]))
  have el : bools ((List.range v).map (bitB failed) ++ List.replicate (v - v) false) = bools (valsFrom (events v failed) (nodes.take 0)) := by simp [valsFrom, events]
  rw [el] at hM
  refine Nrm.of hS hM ?_
  refine Nrm.next ?_
  refine Tri.seq ?_
  refine Tri.seq (Tri.region ?_)
  first | refine TOps.fieldB 1 rfl Try.underlying24 rfl rfl ti22 rfl rfl rfl ?_ | refine TOps.fieldN 1 rfl Try.underlying24 rfl rfl ti22 rfl rfl rfl ?_
  refine TOps.load1 rfl ti22 (by first | exact Rd.lit (by repeat (first | exact List.Mem.head _ | apply List.Mem.tail)) rfl | (repeat (first | assumption | exact Rd.fld (by assumption) 1 rfl | apply Rd.up))) rfl ?_
  refine TOps.len rfl Try.underlying22 rfl ?_
  refine TOps.move rfl rfl ?_
  refine TOps.next ?_
  refine Tri.range (X := Nat × Nat) (fun x k => [(2, .pointer (some ⟨b2, 0, none⟩)), (5, slV (some x.1) 0 (v + k) x.2), (37, slV na noff nodes.length ncap nsp)]) (fun x k => row (some x.1) 4 1 x.2 (bools (valsFrom (events v failed) (nodes.take k))) :: H1) (fun x k => True) (by omega) rfl rfl rfl (fun _ _ => ⟨rfl, rfl, rfl, rfl⟩) (b21, v + nodes.length) trivial ⟨rfl, rfl, rfl, trivial⟩ (by repeat (first | exact Le.refl _ | assumption | apply Le.drop)) (fun k x hlt hp => ?_) (fun x ac wc hp hS hM => ?_)
  · skip
    obtain ⟨xb, xc⟩ := x
    obtain ⟨nb, aa, ao, acap, asp, rfl, rfl, hn⟩ := hN.at hlt
    have hfit := hg.fits k hlt
    have hal := hfit.len
    have hcells := hn.cells
    have hvl := hlen k
    have htk := values_take_succ (v := events v failed) hlt
    simp only at hfit
    generalize nodes[k] = d at *
    generalize valsFrom (events v failed) (nodes.take k) = vs at *
    refine Tri.seq (Tri.region ?_)
    refine TOps.indexAddr (off' := noff + k * 3) rfl rfl Try.underlying22 ti102 (by omega) (by omega) (by simp) rfl ?_
    refine TOps.loadN rfl ti102 (by first | exact Rd.all (by repeat (first | exact List.Mem.head _ | apply List.Mem.tail)) | (repeat (first | assumption | apply Rd.up))) rfl rfl ?_
    refine TOps.alloc ti102 rfl (fun b8 => ?_)
    refine TOps.storeN rfl rfl ti102 rfl rfl (by repeat (first | exact Upd.here | apply Upd.there)) (by first | decide | (simp; done) | (simp; omega)) ?_
    refine TOps.next ?_
    refine Tri.seq (Tri.region ?_)
    refine TOps.assign rfl rfl ?_
    refine TOps.next ?_
    refine Tri.seq ?_
    refine Tri.seq (Tri.region ?_)
    first | refine TOps.fieldB 2 rfl Try.underlying102 rfl rfl ti53 rfl rfl rfl ?_ | refine TOps.fieldN 2 rfl Try.underlying102 rfl rfl ti53 rfl rfl rfl ?_
    refine TOps.load1 rfl ti53 (by first | exact Rd.lit (by repeat (first | exact List.Mem.head _ | apply List.Mem.tail)) rfl | (repeat (first | assumption | exact Rd.fld (by assumption) 2 rfl | apply Rd.up))) rfl ?_
    refine TOps.len rfl Try.underlying53 rfl ?_
    refine TOps.move rfl rfl ?_
    refine TOps.next ?_
    refine Tri.range (X := Unit) (fun y j => [(2, .pointer (some ⟨b2, 0, none⟩)), (5, slV (some xb) 0 (v + k) xc), (37, slV (some nb) noff nodes.length ncap), (38, .int .i64 nodes.length), (39, .int .i64 k), (8, .pointer (some ⟨b8, 0, none⟩)), (9, .int .i64 (cnt vs (d.args.take j) : Nat)), (44, slV aa ao d.args.length acap asp)]) (fun y j => row (some b8) 102 3 1 [.int .i64 d.kind, .int .i64 d.k, slV aa ao d.args.length acap asp] :: row (some xb) 4 1 xc (bools vs) :: H1) (fun y j => True) (by omega) rfl rfl rfl (fun _ _ => ⟨rfl, rfl, rfl, rfl⟩) () trivial ⟨rfl, rfl, rfl, rfl, rfl, rfl, rfl, rfl, trivial⟩ (by repeat (first | exact Le.refl _ | assumption | apply Le.drop)) (fun j y hltj hpj => ?_) (fun y ac wc hpj hS hM => ?_)
    · skip
      obtain ⟨ab, rfl, rfl, ha⟩ := hn.args.at hltj
      have hb := hfit.args _ (List.getElem_mem hltj)
      have hct := cnt_take_succ (v := vs) hltj
      have hcl := cnt_le vs (d.args.take j); rw [List.length_take] at hcl; have hcl2 := Nat.min_le_right j d.args.length
      refine Tri.seq (Tri.region ?_)
      refine TOps.indexAddr (off' := ao + j) rfl rfl Try.underlying53 ti3 (by omega) (by omega) (by simp) rfl ?_
      refine TOps.load1 rfl ti3 (by first | exact Rd.lit (by repeat (first | exact List.Mem.head _ | apply List.Mem.tail)) rfl | (repeat (first | assumption | apply Rd.up))) rfl ?_
      refine TOps.assign rfl rfl ?_
      refine TOps.next ?_
      refine Tri.seq (Tri.region ?_)
      refine TOps.move rfl rfl ?_
      refine TOps.move rfl rfl ?_
      refine TOps.indexAddr (off' := d.args[j].toNat) rfl rfl Try.underlying77 ti4 (by omega) (by omega) (by simp) rfl ?_
      refine TOps.load1 (v := .bool (vs.getD d.args[j].toNat false)) rfl ti4 (Rd.lit (.tail _ (.head _)) (bools_get (by omega))) rfl ?_
      refine TOps.next ?_
      refine Tri.cond rfl (fun hc1 => ?_) (fun hc1 => ?_)
      · try simp only [decide_eq_true_eq, decide_eq_false_iff_not, Bool.and_eq_true, Bool.or_eq_true, Bool.not_eq_true', Bool.and_eq_false_iff, Bool.or_eq_false_iff, Bool.not_eq_false', Int.not_lt, Int.not_le, ne_eq, Decidable.not_not, Option.isSome_iff_ne_none, Option.isNone_iff_eq_none] at hc1
        rw [hc1] at hct
        refine Tri.region ?_
        refine TOps.move rfl rfl ?_
        refine TOps.add rfl rfl (wrapI (by omega) (by omega)) rfl ?_
        refine TOps.assign rfl rfl ?_
        refine TOps.fin ?_
        refine Nrm.body () trivial ⟨rfl, rfl, rfl, rfl, rfl, rfl, rfl, rfl, (by refine congrArg (fun z : Int => some (Value.int .i64 z)) ?_; rw [hct]; simp), rfl, trivial⟩ (by repeat (first | exact Le.refl _ | assumption | apply Le.drop))
      try simp only [decide_eq_true_eq, decide_eq_false_iff_not, Bool.and_eq_true, Bool.or_eq_true, Bool.not_eq_true', Bool.and_eq_false_iff, Bool.or_eq_false_iff, Bool.not_eq_false', Int.not_lt, Int.not_le, ne_eq, Decidable.not_not, Option.isSome_iff_ne_none, Option.isNone_iff_eq_none] at hc1
      rw [hc1] at hct
      refine Tri.fin ?_
      refine Nrm.body () trivial ⟨rfl, rfl, rfl, rfl, rfl, rfl, rfl, rfl, (by refine congrArg (fun z : Int => some (Value.int .i64 z)) ?_; rw [hct]; simp), rfl, trivial⟩ (by repeat (first | exact Le.refl _ | assumption | apply Le.drop))
    rw [List.take_length] at hS
    refine Nrm.of hS hM ?_
    refine Nrm.next ?_
    refine Tri.seq (Tri.region ?_)
    refine TOps.assign rfl rfl ?_
    refine TOps.next ?_
    refine Tri.seqMid (X := Unit) (fun y => [(12, .bool (nodeVal d (cnt vs d.args : Nat))), (2, .pointer (some ⟨b2, 0, none⟩)), (5, slV (some xb) 0 (v + k) xc), (37, slV (some nb) noff nodes.length ncap), (38, .int .i64 nodes.length), (39, .int .i64 k)]) (fun y => row (some b8) 102 3 1 [.int .i64 d.kind, .int .i64 d.k, slV aa ao d.args.length acap asp] :: row (some xb) 4 1 xc (bools vs) :: H1) (fun y => True) ?_ (fun y hmid => ?_)
    · skip
      refine Tri.seq (Tri.region ?_)
      refine TOps.field0 rfl Try.underlying102 rfl rfl ti3 rfl rfl rfl ?_
      refine TOps.load1 rfl ti3 (by first | exact Rd.lit (by repeat (first | exact List.Mem.head _ | apply List.Mem.tail)) rfl | (repeat (first | assumption | exact Rd.fld (by assumption) 0 rfl | apply Rd.up))) rfl ?_
      refine TOps.next ?_
      refine Tri.block ?_
      refine Tri.seq (Tri.region ?_)
      refine TOps.eqlI rfl rfl rfl ?_
      refine TOps.assign rfl rfl ?_
      refine TOps.next ?_
      refine Tri.cond rfl (fun hc2 => ?_) (fun hc2 => ?_)
      · try simp only [decide_eq_true_eq, decide_eq_false_iff_not, Bool.and_eq_true, Bool.or_eq_true, Bool.not_eq_true', Bool.and_eq_false_iff, Bool.or_eq_false_iff, Bool.not_eq_false', Int.not_lt, Int.not_le, ne_eq, Decidable.not_not, Option.isSome_iff_ne_none, Option.isNone_iff_eq_none] at hc2
        refine Tri.region ?_
        first | refine TOps.fieldB 1 rfl Try.underlying102 rfl rfl ti3 rfl rfl rfl ?_ | refine TOps.fieldN 1 rfl Try.underlying102 rfl rfl ti3 rfl rfl rfl ?_
        refine TOps.load1 rfl ti3 (by first | exact Rd.lit (by repeat (first | exact List.Mem.head _ | apply List.Mem.tail)) rfl | (repeat (first | assumption | exact Rd.fld (by assumption) 1 rfl | apply Rd.up))) rfl ?_
        refine TOps.eqlI rfl rfl rfl ?_
        refine TOps.assign rfl rfl ?_
        refine TOps.fin ?_
        refine Nrm.unB ?_
        refine Nrm.mid () trivial (by exact ⟨(by refine congrArg (fun z : Bool => some (Value.bool z)) ?_; unfold nodeVal; (repeat' split) <;> first | rfl | (exfalso; omega)), rfl, rfl, rfl, rfl, rfl, trivial⟩) (by repeat (first | exact Le.refl _ | assumption | apply Le.drop))
      try simp only [decide_eq_true_eq, decide_eq_false_iff_not, Bool.and_eq_true, Bool.or_eq_true, Bool.not_eq_true', Bool.and_eq_false_iff, Bool.or_eq_false_iff, Bool.not_eq_false', Int.not_lt, Int.not_le, ne_eq, Decidable.not_not, Option.isSome_iff_ne_none, Option.isNone_iff_eq_none] at hc2
      refine Tri.seq (Tri.region ?_)
      refine TOps.eqlI rfl rfl rfl ?_
      refine TOps.assign rfl rfl ?_
      refine TOps.next ?_
      refine Tri.cond rfl (fun hc3 => ?_) (fun hc3 => ?_)
      · try simp only [decide_eq_true_eq, decide_eq_false_iff_not, Bool.and_eq_true, Bool.or_eq_true, Bool.not_eq_true', Bool.and_eq_false_iff, Bool.or_eq_false_iff, Bool.not_eq_false', Int.not_lt, Int.not_le, ne_eq, Decidable.not_not, Option.isSome_iff_ne_none, Option.isNone_iff_eq_none] at hc3
        refine Tri.region ?_
        refine TOps.move rfl rfl ?_
        refine TOps.eqlI rfl rfl rfl ?_
        refine TOps.assign rfl rfl ?_
        refine TOps.fin ?_
        refine Nrm.unB ?_
        refine Nrm.mid () trivial (by exact ⟨(by refine congrArg (fun z : Bool => some (Value.bool z)) ?_; unfold nodeVal; (repeat' split) <;> first | rfl | (exfalso; omega)), rfl, rfl, rfl, rfl, rfl, trivial⟩) (by repeat (first | exact Le.refl _ | assumption | apply Le.drop))
      try simp only [decide_eq_true_eq, decide_eq_false_iff_not, Bool.and_eq_true, Bool.or_eq_true, Bool.not_eq_true', Bool.and_eq_false_iff, Bool.or_eq_false_iff, Bool.not_eq_false', Int.not_lt, Int.not_le, ne_eq, Decidable.not_not, Option.isSome_iff_ne_none, Option.isNone_iff_eq_none] at hc3
      refine Tri.seq (Tri.region ?_)
      refine TOps.eqlI rfl rfl rfl ?_
      refine TOps.assign rfl rfl ?_
      refine TOps.next ?_
      refine Tri.cond rfl (fun hc4 => ?_) (fun hc4 => ?_)
      · try simp only [decide_eq_true_eq, decide_eq_false_iff_not, Bool.and_eq_true, Bool.or_eq_true, Bool.not_eq_true', Bool.and_eq_false_iff, Bool.or_eq_false_iff, Bool.not_eq_false', Int.not_lt, Int.not_le, ne_eq, Decidable.not_not, Option.isSome_iff_ne_none, Option.isNone_iff_eq_none] at hc4
        refine Tri.region ?_
        refine TOps.move rfl rfl ?_
        first | refine TOps.fieldB 2 rfl Try.underlying102 rfl rfl ti53 rfl rfl rfl ?_ | refine TOps.fieldN 2 rfl Try.underlying102 rfl rfl ti53 rfl rfl rfl ?_
        refine TOps.load1 rfl ti53 (by first | exact Rd.lit (by repeat (first | exact List.Mem.head _ | apply List.Mem.tail)) rfl | (repeat (first | assumption | exact Rd.fld (by assumption) 2 rfl | apply Rd.up))) rfl ?_
        refine TOps.len rfl Try.underlying53 rfl ?_
        refine TOps.eqlI rfl rfl rfl ?_
        refine TOps.assign rfl rfl ?_
        refine TOps.fin ?_
        refine Nrm.unB ?_
        refine Nrm.mid () trivial (by exact ⟨(by refine congrArg (fun z : Bool => some (Value.bool z)) ?_; unfold nodeVal; (repeat' split) <;> first | rfl | (exfalso; omega)), rfl, rfl, rfl, rfl, rfl, trivial⟩) (by repeat (first | exact Le.refl _ | assumption | apply Le.drop))
      try simp only [decide_eq_true_eq, decide_eq_false_iff_not, Bool.and_eq_true, Bool.or_eq_true, Bool.not_eq_true', Bool.and_eq_false_iff, Bool.or_eq_false_iff, Bool.not_eq_false', Int.not_lt, Int.not_le, ne_eq, Decidable.not_not, Option.isSome_iff_ne_none, Option.isNone_iff_eq_none] at hc4
      refine Tri.seq (Tri.region ?_)
      refine TOps.eqlI rfl rfl rfl ?_
      refine TOps.assign rfl rfl ?_
      refine TOps.next ?_
      refine Tri.cond rfl (fun hc5 => ?_) (fun hc5 => ?_)
      · try simp only [decide_eq_true_eq, decide_eq_false_iff_not, Bool.and_eq_true, Bool.or_eq_true, Bool.not_eq_true', Bool.and_eq_false_iff, Bool.or_eq_false_iff, Bool.not_eq_false', Int.not_lt, Int.not_le, ne_eq, Decidable.not_not, Option.isSome_iff_ne_none, Option.isNone_iff_eq_none] at hc5
        refine Tri.region ?_
        refine TOps.move rfl rfl ?_
        refine TOps.gtr rfl rfl rfl ?_
        refine TOps.assign rfl rfl ?_
        refine TOps.fin ?_
        refine Nrm.unB ?_
        refine Nrm.mid () trivial (by exact ⟨(by refine congrArg (fun z : Bool => some (Value.bool z)) ?_; unfold nodeVal; (repeat' split) <;> first | rfl | (exfalso; omega)), rfl, rfl, rfl, rfl, rfl, trivial⟩) (by repeat (first | exact Le.refl _ | assumption | apply Le.drop))
      try simp only [decide_eq_true_eq, decide_eq_false_iff_not, Bool.and_eq_true, Bool.or_eq_true, Bool.not_eq_true', Bool.and_eq_false_iff, Bool.or_eq_false_iff, Bool.not_eq_false', Int.not_lt, Int.not_le, ne_eq, Decidable.not_not, Option.isSome_iff_ne_none, Option.isNone_iff_eq_none] at hc5
      refine Tri.seq (Tri.region ?_)
      refine TOps.eqlI rfl rfl rfl ?_
      refine TOps.assign rfl rfl ?_
      refine TOps.next ?_
      refine Tri.cond rfl (fun hc6 => ?_) (fun hc6 => ?_)
      · try simp only [decide_eq_true_eq, decide_eq_false_iff_not, Bool.and_eq_true, Bool.or_eq_true, Bool.not_eq_true', Bool.and_eq_false_iff, Bool.or_eq_false_iff, Bool.not_eq_false', Int.not_lt, Int.not_le, ne_eq, Decidable.not_not, Option.isSome_iff_ne_none, Option.isNone_iff_eq_none] at hc6
        refine Tri.region ?_
        refine TOps.move rfl rfl ?_
        first | refine TOps.fieldB 1 rfl Try.underlying102 rfl rfl ti3 rfl rfl rfl ?_ | refine TOps.fieldN 1 rfl Try.underlying102 rfl rfl ti3 rfl rfl rfl ?_
        refine TOps.load1 rfl ti3 (by first | exact Rd.lit (by repeat (first | exact List.Mem.head _ | apply List.Mem.tail)) rfl | (repeat (first | assumption | exact Rd.fld (by assumption) 1 rfl | apply Rd.up))) rfl ?_
        refine TOps.geq rfl rfl rfl ?_
        refine TOps.assign rfl rfl ?_
        refine TOps.fin ?_
        refine Nrm.unB ?_
        refine Nrm.mid () trivial (by exact ⟨(by refine congrArg (fun z : Bool => some (Value.bool z)) ?_; unfold nodeVal; (repeat' split) <;> first | rfl | (exfalso; omega)), rfl, rfl, rfl, rfl, rfl, trivial⟩) (by repeat (first | exact Le.refl _ | assumption | apply Le.drop))
      try simp only [decide_eq_true_eq, decide_eq_false_iff_not, Bool.and_eq_true, Bool.or_eq_true, Bool.not_eq_true', Bool.and_eq_false_iff, Bool.or_eq_false_iff, Bool.not_eq_false', Int.not_lt, Int.not_le, ne_eq, Decidable.not_not, Option.isSome_iff_ne_none, Option.isNone_iff_eq_none] at hc6
      refine Tri.seq (Tri.region ?_)
      refine TOps.eqlI rfl rfl rfl ?_
      refine TOps.assign rfl rfl ?_
      refine TOps.next ?_
      refine Tri.cond rfl (fun hc7 => ?_) (fun hc7 => ?_)
      · try simp only [decide_eq_true_eq, decide_eq_false_iff_not, Bool.and_eq_true, Bool.or_eq_true, Bool.not_eq_true', Bool.and_eq_false_iff, Bool.or_eq_false_iff, Bool.not_eq_false', Int.not_lt, Int.not_le, ne_eq, Decidable.not_not, Option.isSome_iff_ne_none, Option.isNone_iff_eq_none] at hc7
        refine Tri.region ?_
        refine TOps.move rfl rfl ?_
        refine TOps.rem rfl rfl (by decide) rfl rfl ?_
        refine TOps.eqlI rfl rfl rfl ?_
        refine TOps.assign rfl rfl ?_
        refine TOps.fin ?_
        refine Nrm.unB ?_
        refine Nrm.mid () trivial (by exact ⟨(by refine congrArg (fun z : Bool => some (Value.bool z)) ?_; unfold nodeVal; (repeat' split) <;> first | rfl | (exfalso; omega)), rfl, rfl, rfl, rfl, rfl, trivial⟩) (by repeat (first | exact Le.refl _ | assumption | apply Le.drop))
      try simp only [decide_eq_true_eq, decide_eq_false_iff_not, Bool.and_eq_true, Bool.or_eq_true, Bool.not_eq_true', Bool.and_eq_false_iff, Bool.or_eq_false_iff, Bool.not_eq_false', Int.not_lt, Int.not_le, ne_eq, Decidable.not_not, Option.isSome_iff_ne_none, Option.isNone_iff_eq_none] at hc7
      refine Tri.fin ?_
      refine Nrm.unB ?_
      refine Nrm.mid () trivial (by exact ⟨(by refine congrArg (fun z : Bool => some (Value.bool z)) ?_; unfold nodeVal; (repeat' split) <;> first | rfl | (exfalso; omega)), rfl, rfl, rfl, rfl, rfl, trivial⟩) (by repeat (first | exact Le.refl _ | assumption | apply Le.drop))
    refine Tri.region ?_
    refine TOps.move rfl rfl ?_
    refine TOps.move rfl rfl ?_
    refine TOps.buildSlice (vs := [_]) (xs := [_]) Try.underlying77 ti4 ⟨rfl, rfl, trivial⟩ rfl rfl rfl rfl rfl rfl (by decide) rfl (fun b92 => ?_)
    refine TOps.appendLit rfl rfl Try.underlying77 ti4 rfl (fun _ _ => (by repeat (first | exact Upd.here | apply Upd.there))) rfl (by simp [hvl]; omega) rfl (by omega) (by omega) (by simp) rfl (fun b93 cap93 => ?_)
    refine TOps.assign rfl rfl ?_
    refine TOps.fin ?_
    refine Nrm.body (b93, cap93) trivial ⟨rfl, rfl, rfl, rfl, rfl, trivial⟩ (Le.drop (Le.rowEq (by rw [htk]; simp [bools])))
  rw [List.take_length] at hM
  refine Nrm.of hS hM ?_
  refine Nrm.next ?_
  refine Tri.seq (Tri.region ?_)
  refine TOps.move rfl rfl ?_
  refine TOps.assign rfl rfl ?_
  refine TOps.next ?_
  refine Tri.ret1 (H' := _) Try.results33 (fun _ _ h => h) (.tmp rfl) (Le.consOf s1) ⟨x.1, x.2, by rw [valsFrom_length, events_length], rfl⟩
end Go.Proofs
namespace Go.Proofs
open Go.GL
set_option linter.unusedVariables false
set_option linter.unusedSimpArgs false
theorem fcheck_g {H : List Ent} {fv : Value} {F : Fm} (hF : RF H fv F) (hk : F.ok) (failed : Int) :
    Gives Try.prog 32 [fv, .int .i64 failed] H (R1 (errV 73 (F.setErr failed)) H) := by
  have hF0 := hF
  obtain ⟨a, off, cap, nsp, rfl, hN⟩ := hF
  refine Gives.enter Try.func32 rfl (by exact Try.ntmps32) rfl ?_
  refine Tri.seq (Tri.region ?_)
  refine TOps.boxN rfl ti24 rfl rfl (fun b2 => ?_)
  refine TOps.hide (fun H1 l1 s1 r1 => ?_)
  replace hF0 := hF0.le l1
  refine TOps.assign rfl rfl ?_
  refine TOps.next ?_
  refine Tri.seq ?_
  refine Tri.seq (Tri.region ?_)
  refine TOps.loadN rfl ti24 (by first | exact Rd.all (by repeat (first | exact List.Mem.head _ | apply List.Mem.tail)) | (repeat (first | assumption | apply Rd.up))) rfl rfl ?_
  refine TOps.call (vs := [_]) Try.call30 ⟨rfl, trivial⟩ (check_g hF0 hk) rfl ?_
  rintro _ _ ⟨rfl, rfl⟩
  refine TOps.assign rfl rfl ?_
  refine TOps.next ?_
  refine Tri.seq (Tri.region ?_)
  refine TOps.move rfl rfl ?_
  refine TOps.neqNil rfl Try.underlying34 rfl ?_
  refine TOps.next ?_
  refine Tri.cond rfl (fun hc1 => ?_) (fun hc1 => ?_)
  · try simp only [decide_eq_true_eq, decide_eq_false_iff_not, Bool.and_eq_true, Bool.or_eq_true, Bool.not_eq_true', Bool.and_eq_false_iff, Bool.or_eq_false_iff, Bool.not_eq_false', Int.not_lt, Int.not_le, ne_eq, Decidable.not_not, Option.isSome_iff_ne_none, Option.isNone_iff_eq_none] at hc1
    obtain ⟨e, he⟩ := Option.ne_none_iff_exists'.1 hc1
    refine Tri.seq (Tri.region ?_)
    refine TOps.move rfl rfl ?_
    refine TOps.assign rfl rfl ?_
    refine TOps.next ?_
    refine Tri.ret1 (H' := H) Try.results32 (fun _ _ h => h) (.tmp rfl) l1 ⟨by unfold Fm.setErr; rw [he], rfl⟩
  try simp only [decide_eq_true_eq, decide_eq_false_iff_not, Bool.and_eq_true, Bool.or_eq_true, Bool.not_eq_true', Bool.and_eq_false_iff, Bool.or_eq_false_iff, Bool.not_eq_false', Int.not_lt, Int.not_le, ne_eq, Decidable.not_not, Option.isSome_iff_ne_none, Option.isNone_iff_eq_none] at hc1
  have he : F.err = none := by simpa using hc1
  have hg := (Fm.good_iff F).1 he
  have g0 := hg.v0; have g1 := hg.v1
  refine Tri.fin ?_
  refine Nrm.next ?_
  refine Tri.seq ?_
  refine Tri.seq (Tri.region ?_)
  refine TOps.move rfl rfl ?_
  refine TOps.lss rfl rfl rfl ?_
  refine TOps.move rfl rfl ?_
  refine' TOps.orB 5 rfl rfl rfl rfl (fun hg4_2 => ?_) ?_; rotate_left
  · have hg4_2' := hg4_2
    try simp only [decide_eq_true_eq, decide_eq_false_iff_not, Bool.and_eq_true, Bool.or_eq_true, Bool.not_eq_true', Bool.and_eq_false_iff, Bool.or_eq_false_iff, Bool.not_eq_false', Int.not_lt, Int.not_le, ne_eq, Decidable.not_not] at hg4_2'
    refine TOps.strip 2 false rfl rfl hg4_2 rfl ?_
    refine TOps.move rfl rfl ?_
    refine TOps.field0 rfl Try.underlying24 rfl rfl ti3 rfl rfl rfl ?_
    refine TOps.load1 rfl ti3 (by first | exact Rd.lit (by repeat (first | exact List.Mem.head _ | apply List.Mem.tail)) rfl | (repeat (first | assumption | exact Rd.fld (by assumption) 0 rfl | apply Rd.up))) rfl ?_
    refine TOps.shl (r := ((2 ^ F.vars.toNat : Nat) : Int)) rfl rfl (by omega) (ishl_one (by omega)) rfl ?_
    refine TOps.geq rfl rfl rfl ?_
    refine TOps.blk rfl (by repeat (first | exact Ext.refl _ | refine Ext.cons rfl ?_)) (by repeat (first | exact Le.refl _ | apply Le.drop))
  refine TOps.next ?_
  refine Tri.cond rfl (fun hc2 => ?_) (fun hc2 => ?_)
  · try simp only [decide_eq_true_eq, decide_eq_false_iff_not, Bool.and_eq_true, Bool.or_eq_true, Bool.not_eq_true', Bool.and_eq_false_iff, Bool.or_eq_false_iff, Bool.not_eq_false', Int.not_lt, Int.not_le, ne_eq, Decidable.not_not, Option.isSome_iff_ne_none, Option.isNone_iff_eq_none] at hc2
    refine Tri.seq (Tri.region ?_)
    refine TOps.makeInterface rfl Try.underlying73 rfl rfl ?_
    refine TOps.assign rfl rfl ?_
    refine TOps.next ?_
    refine Tri.ret1 (H' := H) Try.results32 (fun _ _ h => h) (.tmp rfl) l1 ⟨by unfold Fm.setErr; rw [he]; simp only; first | (rw [if_pos (by omega)]; rfl) | (rw [if_neg (by omega)]; rfl), rfl⟩
  try simp only [decide_eq_true_eq, decide_eq_false_iff_not, Bool.and_eq_true, Bool.or_eq_true, Bool.not_eq_true', Bool.and_eq_false_iff, Bool.or_eq_false_iff, Bool.not_eq_false', Int.not_lt, Int.not_le, ne_eq, Decidable.not_not, Option.isSome_iff_ne_none, Option.isNone_iff_eq_none] at hc2
  refine Tri.fin ?_
  refine Nrm.next ?_
  refine Tri.seq (Tri.region ?_)
  refine TOps.assign rfl rfl ?_
  refine TOps.next ?_
  refine Tri.ret1 (H' := H) Try.results32 (fun _ _ h => h) (.tmp rfl) l1 ⟨by unfold Fm.setErr; rw [he]; simp only; first | (rw [if_pos (by omega)]; rfl) | (rw [if_neg (by omega)]; rfl), rfl⟩
theorem value_g {H : List Ent} {fv : Value} {F : Fm} (hF : RF H fv F) (hk : F.ok) (failed : Int) :
    Gives Try.prog 9 [fv, .int .i64 failed] H (R1 (.tuple (List.toArray [.bool ((F.setErr failed).isNone && F.value failed), errV 73 (F.setErr failed)])) H) := by
  have hF0 := hF
  obtain ⟨a, off, cap, nsp, rfl, hN⟩ := hF
  refine Gives.enter Try.func9 rfl (by exact Try.ntmps9) rfl ?_
  refine Tri.seq (Tri.region ?_)
  refine TOps.boxN rfl ti24 rfl rfl (fun b2 => ?_)
  refine TOps.hide (fun H1 l1 s1 r1 => ?_)
  replace hF0 := hF0.le l1
  refine TOps.assign rfl rfl ?_
  refine TOps.assign rfl rfl ?_
  refine TOps.next ?_
  refine Tri.seq ?_
  refine Tri.seq (Tri.region ?_)
  refine TOps.loadN rfl ti24 (by first | exact Rd.all (by repeat (first | exact List.Mem.head _ | apply List.Mem.tail)) | (repeat (first | assumption | apply Rd.up))) rfl rfl ?_
  refine TOps.move rfl rfl ?_
  refine TOps.call (vs := [_, _]) Try.call32 ⟨rfl, rfl, trivial⟩ (fcheck_g hF0 hk _) rfl ?_
  rintro _ _ ⟨rfl, rfl⟩
  refine TOps.assign rfl rfl ?_
  refine TOps.next ?_
  refine Tri.seq (Tri.region ?_)
  refine TOps.move rfl rfl ?_
  refine TOps.neqNil rfl Try.underlying34 rfl ?_
  refine TOps.next ?_
  refine Tri.cond rfl (fun hc1 => ?_) (fun hc1 => ?_)
  · try simp only [decide_eq_true_eq, decide_eq_false_iff_not, Bool.and_eq_true, Bool.or_eq_true, Bool.not_eq_true', Bool.and_eq_false_iff, Bool.or_eq_false_iff, Bool.not_eq_false', Int.not_lt, Int.not_le, ne_eq, Decidable.not_not, Option.isSome_iff_ne_none, Option.isNone_iff_eq_none] at hc1
    obtain ⟨e, he⟩ := Option.ne_none_iff_exists'.1 hc1
    refine Tri.seq (Tri.region ?_)
    refine TOps.move rfl rfl ?_
    refine TOps.assign rfl rfl ?_
    refine TOps.assign rfl rfl ?_
    refine TOps.next ?_
    refine Tri.ret2 (H' := H) Try.results9 (fun _ _ h => h) (.tmp rfl) (.tmp rfl) l1 ⟨by rw [he]; rfl, rfl⟩
  try simp only [decide_eq_true_eq, decide_eq_false_iff_not, Bool.and_eq_true, Bool.or_eq_true, Bool.not_eq_true', Bool.and_eq_false_iff, Bool.or_eq_false_iff, Bool.not_eq_false', Int.not_lt, Int.not_le, ne_eq, Decidable.not_not, Option.isSome_iff_ne_none, Option.isNone_iff_eq_none] at hc1
  have he : F.setErr failed = none := by simpa using hc1
  have hg := (Fm.setErr_none he).1
  have g0 := hg.v0; have g1 := hg.v1; have gt := hg.topLt
  have hvl : (F.values failed).length = F.vars.toNat + F.nodes.length := by unfold Fm.values; rw [valsFrom_length, events_length]
  refine Tri.fin ?_
  refine Nrm.next ?_
  refine Tri.seq ?_
  have hle : ∀ (x : Nat × Nat) (c : Nat), Le (match c with | 0 => H1 | _ + 1 => row (some x.1) 4 1 x.2 (bools (F.values failed)) :: H1) H1 := by
    intro x c; cases c; exact Le.refl _; exact Le.drop (Le.refl _)
  refine Tri.drawN (X := Nat × Nat) rfl [(2, .pointer (some ⟨b2, 0, none⟩)), (1, .int .i64 failed)] [] (fun x i => ([.agg (List.toArray [.int .i64 F.vars, slV a off F.nodes.length cap nsp, .int .i64 F.top]), .int .i64 failed, slV (some x.1) 0 (F.values failed).length x.2, .pointer (some ⟨b2, 2, none⟩), .int .i64 F.top, .pointer (some ⟨x.1, F.top.toNat, none⟩), .bool ((F.values failed).getD F.top.toNat false), .bool ((F.values failed).getD F.top.toNat false), .nilIface] : List Value).getD i undef) (fun x c => match c with | 0 => H1 | _ + 1 => row (some x.1) 4 1 x.2 (bools (F.values failed)) :: H1) [2] (0, 0) [7, 8] rfl rfl ⟨rfl, rfl, trivial⟩ trivial (by repeat (first | exact Le.refl _ | assumption | apply Le.drop)) ?_ (fun x => ?_)
  · refine ⟨?_, ?_, ?_, ?_, ?_, ?_, ?_, ?_, ?_, trivial⟩
    · refine ⟨fun x S c he hw hd hc hcu hm _ => ?_, trivial⟩
      refine TOps.loadN (he _ _ rfl) ti24 (Rd.le (by first | exact Rd.all (by repeat (first | exact List.Mem.head _ | apply List.Mem.tail)) | (repeat (first | assumption | apply Rd.up))) (hle x c)) rfl rfl ?_
      exact TOps.fd x rfl rfl
    · refine ⟨fun x S c he hw hd hc hcu hm _ => ?_, trivial⟩
      refine TOps.move (he _ _ rfl) rfl ?_
      exact TOps.fd x rfl rfl
    · refine ⟨fun x S c he hw hd hc hcu hm _ => ?_, trivial⟩
      obtain ⟨h0, h1, -⟩ := hd
      obtain rfl : c = 0 := hm rfl
      refine TOps.call (vs := [_, _]) Try.call33 ⟨h0, h1, trivial⟩ (values_g hF0 hk hg _) rfl ?_
      rintro _ _ ⟨b, cp, rfl, rfl⟩
      refine TOps.fin (Nrm.draw (b, cp) ?_ rfl (Le.refl _))
      intro j hj hcj
      rcases j with _|_|_|_|_|_|_|_|_|j <;> first | rfl | exact absurd rfl hj | exact absurd hcj (by decide)
    · refine ⟨fun x S c he hw hd hc hcu hm _ => ?_, trivial⟩
      first | refine TOps.fieldB 2 (he _ _ rfl) Try.underlying24 rfl rfl ti3 rfl rfl rfl ?_ | refine TOps.fieldN 2 (he _ _ rfl) Try.underlying24 rfl rfl ti3 rfl rfl rfl ?_
      exact TOps.fd x rfl rfl
    · refine ⟨fun x S c he hw hd hc hcu hm _ => ?_, trivial⟩
      obtain ⟨h3, -⟩ := hd
      refine TOps.load1 h3 ti3 (Rd.le (by first | exact Rd.lit (by repeat (first | exact List.Mem.head _ | apply List.Mem.tail)) rfl | (repeat (first | assumption | exact Rd.fld (by assumption) 2 rfl | apply Rd.up))) (hle x c)) rfl ?_
      exact TOps.fd x rfl rfl
    · refine ⟨fun x S c he hw hd hc hcu hm _ => ?_, trivial⟩
      obtain ⟨h2, h4, -⟩ := hd
      obtain ⟨c', rfl⟩ : ∃ c', c = c' + 1 := ⟨c - 1, by have : 1 ≤ c := hc; omega⟩
      refine TOps.indexAddr (off' := F.top.toNat) h2 h4 Try.underlying77 ti4 (by omega) (by rw [hvl]; omega) (by simp) rfl ?_
      exact TOps.fd x rfl rfl
    · refine ⟨fun x S c he hw hd hc hcu hm _ => ?_, trivial⟩
      obtain ⟨h5, -⟩ := hd
      obtain ⟨c', rfl⟩ : ∃ c', c = c' + 1 := ⟨c - 1, by have : 1 ≤ c := hc; omega⟩
      refine TOps.load1 (v := .bool ((F.values failed).getD F.top.toNat false)) h5 ti4 (Rd.lit (List.Mem.head _) (bools_get (by rw [hvl]; omega))) rfl ?_
      exact TOps.fd x rfl rfl
    · refine ⟨fun x S c he hw hd hc hcu hm _ => ?_, trivial⟩
      obtain ⟨h6, h2, h0, h1, _, h3, h4, h5, _, -⟩ := hd
      refine TOps.assign h6 rfl ?_
      exact TOps.fd x rfl rfl
    · refine ⟨fun x S c he hw hd hc hcu hm _ => ?_, trivial⟩
      obtain ⟨h7, h0, h1, h2, h3, h4, h5, h6, _, -⟩ := hd
      refine TOps.assign rfl rfl ?_
      exact TOps.fd x rfl rfl
  refine Nrm.next ?_
  refine Tri.ret2 (H' := H) Try.results9 (fun _ _ h => h) (.tmp rfl) (.tmp rfl) (Le.drop l1) ⟨by rw [he]; rfl, rfl⟩
end Go.Proofs
namespace Go.Proofs
open Go.GL
set_option linter.unusedVariables false
set_option linter.unusedSimpArgs false
theorem below_g {H : List Ent} {fv : Value} {F : Fm} (hF : RF H fv F) (hk : F.ok) (hg : F.Good) :
    Gives Try.prog 73 [fv] H (fun u H' => ∃ b cap, u = slV (some b) 0 (F.vars.toNat + F.nodes.length) cap ∧ row (some b) 4 1 cap (bools F.below) :: H = H') := by
  have hfit := hg.fits
  obtain ⟨vars, nodes, top⟩ := F
  obtain ⟨na, noff, ncap, nsp, rfl, hN⟩ := hF
  have g0 := hg.v0; have g1 := hg.v1; have g2 := hg.n1; have gt := hg.topLt
  simp only at g0 g1 g2 hN gt hfit
  obtain ⟨v, rfl⟩ := Int.eq_ofNat_of_zero_le g0
  obtain ⟨t, rfl⟩ := Int.eq_ofNat_of_zero_le gt.1
  have eb : Fm.below ⟨v, nodes, t⟩ = belowL v nodes nodes.length ((List.replicate (v + nodes.length) false).set t true) := by simp [Fm.below]
  dsimp only
  rw [eb, Int.toNat_natCast]
  generalize hbe : belowL v nodes nodes.length ((List.replicate (v + nodes.length) false).set t true) = res
  refine Gives.enter Try.func73 rfl (by exact Try.ntmps73) rfl ?_
  refine Tri.seq (Tri.region ?_)
  refine TOps.boxN rfl ti24 rfl rfl (fun b1 => ?_)
  refine TOps.hide (fun H1 l1 s1 r1 => ?_)
  replace hN := hN.le l1
  refine TOps.assign rfl rfl ?_
  refine TOps.next ?_
  refine Tri.seq (Tri.region ?_)
  refine TOps.field0 rfl Try.underlying24 rfl rfl ti3 rfl rfl rfl ?_
  refine TOps.load1 rfl ti3 (by first | exact Rd.lit (by repeat (first | exact List.Mem.head _ | apply List.Mem.tail)) rfl | (repeat (first | assumption | exact Rd.fld (by assumption) 0 rfl | apply Rd.up))) rfl ?_
  first | refine TOps.fieldB 1 rfl Try.underlying24 rfl rfl ti22 rfl rfl rfl ?_ | refine TOps.fieldN 1 rfl Try.underlying24 rfl rfl ti22 rfl rfl rfl ?_
  refine TOps.load1 rfl ti22 (by first | exact Rd.lit (by repeat (first | exact List.Mem.head _ | apply List.Mem.tail)) rfl | (repeat (first | assumption | exact Rd.fld (by assumption) 1 rfl | apply Rd.up))) rfl ?_
  refine TOps.len rfl Try.underlying22 rfl ?_
  refine TOps.add (r := ((v + nodes.length : Nat) : Int)) rfl rfl (by rw [wrapI (by omega) (by omega)]; omega) rfl ?_
  refine TOps.make1 rfl rfl Try.underlying77 ti4 (by omega) (by omega) (by omega) rfl (fun b13 => ?_)
  refine TOps.assign rfl rfl ?_
  refine TOps.next ?_
  refine Tri.seq (Tri.region ?_)
  refine TOps.move rfl rfl ?_
  first | refine TOps.fieldB 2 rfl Try.underlying24 rfl rfl ti3 rfl rfl rfl ?_ | refine TOps.fieldN 2 rfl Try.underlying24 rfl rfl ti3 rfl rfl rfl ?_
  refine TOps.load1 rfl ti3 (by first | exact Rd.lit (by repeat (first | exact List.Mem.head _ | apply List.Mem.tail)) rfl | (repeat (first | assumption | exact Rd.fld (by assumption) 2 rfl | apply Rd.up))) rfl ?_
  refine TOps.indexAddr (off' := t) rfl rfl Try.underlying77 ti4 (by omega) (by omega) (by simp) rfl ?_
  refine TOps.store1 rfl rfl ti4 rfl rfl (by repeat (first | exact Upd.here | apply Upd.there)) (by first | decide | (simp; done) | (simp; omega) | exact (show (1 : Nat) < 3 by decide)) ?_
  refine TOps.next ?_
  refine Tri.seq ?_
  refine Tri.seq (Tri.region ?_)
  first | refine TOps.fieldB 1 rfl Try.underlying24 rfl rfl ti22 rfl rfl rfl ?_ | refine TOps.fieldN 1 rfl Try.underlying24 rfl rfl ti22 rfl rfl rfl ?_
  refine TOps.load1 rfl ti22 (by first | exact Rd.lit (by repeat (first | exact List.Mem.head _ | apply List.Mem.tail)) rfl | (repeat (first | assumption | exact Rd.fld (by assumption) 1 rfl | apply Rd.up))) rfl ?_
  refine TOps.len rfl Try.underlying22 rfl ?_
  refine TOps.sub rfl rfl (wrapI (by omega) (by omega)) rfl ?_
  refine TOps.assign rfl rfl ?_
  refine TOps.next ?_
  refine Tri.block ?_
  refine Tri.loop (X := Nat × List Bool) (fun x => [(1, .pointer (some ⟨b1, 0, none⟩)), (3, slV (some b13) 0 (v + nodes.length) (v + nodes.length)), (4, .int .i64 ((x.1 : Int) - 1))]) (fun x => row (some b13) 4 1 (v + nodes.length) (bools x.2) :: H1) (fun x => x.1 ≤ nodes.length ∧ x.2.length = v + nodes.length ∧ belowL v nodes x.1 x.2 = res) (fun x => x.1) (nodes.length, (List.replicate (v + nodes.length) false).set t true) ⟨Nat.le_refl _, by simp, hbe⟩ ⟨rfl, rfl, rfl, trivial⟩ (Le.rowEq (by simp)) (fun x hp => ?_)
  obtain ⟨i, m⟩ := x
  obtain ⟨hp1, hp2, hp3⟩ := hp
  dsimp only at hp1 hp2 hp3 ⊢
  refine Tri.seq ?_
  refine Tri.seq (Tri.region ?_)
  refine TOps.move rfl rfl ?_
  refine TOps.geq rfl rfl rfl ?_
  refine TOps.next ?_
  refine Tri.cond rfl (fun hc1 => ?_) (fun hc1 => ?_)
  · try simp only [decide_eq_true_eq, decide_eq_false_iff_not, Bool.and_eq_true, Bool.or_eq_true, Bool.not_eq_true', Bool.and_eq_false_iff, Bool.or_eq_false_iff, Bool.not_eq_false', Int.not_lt, Int.not_le, ne_eq, Decidable.not_not, Option.isSome_iff_ne_none, Option.isNone_iff_eq_none] at hc1
    obtain ⟨i, rfl⟩ : ∃ j, i = j + 1 := ⟨i - 1, by omega⟩
    have hi : i < nodes.length := by omega
    have e1 : ((i + 1 : Nat) : Int) - 1 = i := by omega
    refine Tri.fin ?_
    refine Nrm.next ?_
    refine Tri.seq ?_
    refine Tri.block ?_
    refine Tri.seq (Tri.region ?_)
    refine TOps.move rfl rfl ?_
    refine TOps.field0 rfl Try.underlying24 rfl rfl ti3 rfl rfl rfl ?_
    refine TOps.load1 rfl ti3 (by first | exact Rd.lit (by repeat (first | exact List.Mem.head _ | apply List.Mem.tail)) rfl | (repeat (first | assumption | exact Rd.fld (by assumption) 0 rfl | apply Rd.up))) rfl ?_
    refine TOps.move rfl rfl ?_
    refine TOps.add (r := ((v + i : Nat) : Int)) rfl rfl (by rw [wrapI (by omega) (by omega)]; omega) rfl ?_
    refine TOps.indexAddr (off' := v + i) rfl rfl Try.underlying77 ti4 (by omega) (by omega) (by omega) rfl ?_
    refine TOps.load1 (v := .bool (m.getD (v + i) false)) rfl ti4 (Rd.lit (List.Mem.head _) (bools_get (by omega))) rfl ?_
    refine TOps.next ?_
    refine Tri.cond rfl (fun hc2 => ?_) (fun hc2 => ?_)
    · try simp only [decide_eq_true_eq, decide_eq_false_iff_not, Bool.and_eq_true, Bool.or_eq_true, Bool.not_eq_true', Bool.and_eq_false_iff, Bool.or_eq_false_iff, Bool.not_eq_false', Int.not_lt, Int.not_le, ne_eq, Decidable.not_not, Option.isSome_iff_ne_none, Option.isNone_iff_eq_none] at hc2
      refine Tri.seq (Tri.region ?_)
      obtain ⟨nb, aa, ao, acap, asp, rfl, rfl, hn⟩ := hN.at hi
      have hfi := hfit i hi
      have hcells := hn.cells
      have hal := hfi.len
      first | refine TOps.fieldB 1 rfl Try.underlying24 rfl rfl ti22 rfl rfl rfl ?_ | refine TOps.fieldN 1 rfl Try.underlying24 rfl rfl ti22 rfl rfl rfl ?_
      refine TOps.load1 rfl ti22 (by first | exact Rd.lit (by repeat (first | exact List.Mem.head _ | apply List.Mem.tail)) rfl | (repeat (first | assumption | exact Rd.fld (by assumption) 1 rfl | apply Rd.up))) rfl ?_
      refine TOps.move rfl rfl ?_
      refine TOps.indexAddr (off' := noff + i * 3) rfl rfl Try.underlying22 ti102 (by omega) (by omega) (by rw [e1]; simp) rfl ?_
      refine TOps.fieldN 2 rfl Try.underlying102 rfl rfl ti53 rfl rfl rfl ?_
      refine TOps.load1 rfl ti53 (Rd.up (hcells.part 2 rfl)) rfl ?_
      refine TOps.len rfl Try.underlying53 rfl ?_
      refine TOps.move rfl rfl ?_
      refine TOps.next ?_
      refine Tri.range (X := Unit) (fun y j => [(1, .pointer (some ⟨b1, 0, none⟩)), (3, slV (some b13) 0 (v + nodes.length) (v + nodes.length)), (4, .int .i64 (((i + 1 : Nat) : Int) - 1)), (38, slV aa ao nodes[i].args.length acap asp)]) (fun y j => row (some b13) 4 1 (v + nodes.length) (bools (markArgs m (nodes[i].args.take j))) :: H1) (fun y j => True) (by omega) rfl rfl rfl (fun _ _ => ⟨rfl, rfl, rfl, rfl⟩) () trivial ⟨rfl, rfl, rfl, rfl, trivial⟩ (by repeat (first | exact Le.refl _ | assumption | apply Le.drop)) (fun j y hltj hpj => ?_) (fun y ac wc hpj hS hM => ?_)
      · skip
        obtain ⟨ab, rfl, rfl, ha⟩ := hn.args.at hltj
        have hb := hfi.args _ (List.getElem_mem hltj)
        have hml := markArgs_length (nodes[i].args.take j) m
        refine Tri.seq (Tri.region ?_)
        refine TOps.indexAddr (off' := ao + j) rfl rfl Try.underlying53 ti3 (by omega) (by omega) (by simp) rfl ?_
        refine TOps.load1 rfl ti3 (by first | exact Rd.lit (by repeat (first | exact List.Mem.head _ | apply List.Mem.tail)) rfl | (repeat (first | assumption | apply Rd.up))) rfl ?_
        refine TOps.assign rfl rfl ?_
        refine TOps.next ?_
        refine Tri.region ?_
        refine TOps.move rfl rfl ?_
        refine TOps.move rfl rfl ?_
        refine TOps.indexAddr (off' := nodes[i].args[j].toNat) rfl rfl Try.underlying77 ti4 (by omega) (by omega) (by simp) rfl ?_
        refine TOps.store1 rfl rfl ti4 rfl rfl Upd.here (by simp; omega) ?_
        refine TOps.fin ?_
        refine Nrm.body () trivial ⟨rfl, rfl, rfl, rfl, rfl, rfl, trivial⟩ (Le.rowEq (by rw [markArgs_take_succ hltj]; simp [bools]))
      rw [List.take_length] at hM
      refine Nrm.of hS hM ?_
      refine Nrm.unB ?_
      refine Nrm.next ?_
      refine Tri.region ?_
      refine TOps.move rfl rfl ?_
      refine TOps.sub rfl rfl (wrapI (by omega) (by omega)) rfl ?_
      refine TOps.assign rfl rfl ?_
      refine TOps.fin ?_
      refine Nrm.loop (i, bif m.getD (v + i) false then markArgs m (nodes.getD i ⟨0, 0, []⟩).args else m) ⟨by simp only; omega, by cases m.getD (v + i) false <;> simp [markArgs_length, hp2], hp3⟩ (by simp) ⟨rfl, rfl, (by refine congrArg (fun z : Int => some (Value.int .i64 z)) ?_; simp), trivial⟩ (by rw [show nodes.getD i ⟨0, 0, []⟩ = nodes[i] from by simp [hi], hc2]; exact Le.refl _)
    try simp only [decide_eq_true_eq, decide_eq_false_iff_not, Bool.and_eq_true, Bool.or_eq_true, Bool.not_eq_true', Bool.and_eq_false_iff, Bool.or_eq_false_iff, Bool.not_eq_false', Int.not_lt, Int.not_le, ne_eq, Decidable.not_not, Option.isSome_iff_ne_none, Option.isNone_iff_eq_none] at hc2
    refine Tri.fin ?_
    refine Nrm.unB ?_
    refine Nrm.next ?_
    refine Tri.region ?_
    refine TOps.move rfl rfl ?_
    refine TOps.sub rfl rfl (wrapI (by omega) (by omega)) rfl ?_
    refine TOps.assign rfl rfl ?_
    refine TOps.fin ?_
    refine Nrm.loop (i, bif m.getD (v + i) false then markArgs m (nodes.getD i ⟨0, 0, []⟩).args else m) ⟨by simp only; omega, by cases m.getD (v + i) false <;> simp [markArgs_length, hp2], hp3⟩ (by simp) ⟨rfl, rfl, (by refine congrArg (fun z : Int => some (Value.int .i64 z)) ?_; simp), trivial⟩ (by rw [show nodes.getD i ⟨0, 0, []⟩ = nodes[i] from by simp [hi], hc2]; exact Le.refl _)
  try simp only [decide_eq_true_eq, decide_eq_false_iff_not, Bool.and_eq_true, Bool.or_eq_true, Bool.not_eq_true', Bool.and_eq_false_iff, Bool.or_eq_false_iff, Bool.not_eq_false', Int.not_lt, Int.not_le, ne_eq, Decidable.not_not, Option.isSome_iff_ne_none, Option.isNone_iff_eq_none] at hc1
  obtain rfl : i = 0 := by omega
  have hp3' : m = res := hp3
  subst hp3'
  first | refine Tri.exitW ?_ | (refine Tri.exitTo ?_; repeat (with_reducible first | refine ExitTo.blk ?_ | refine ExitTo.blkNe rfl ?_ | refine ExitTo.body ?_ | refine ExitTo.brk rfl ?_ | refine ExitTo.bodyNe rfl rfl ?_ | refine ExitTo.seq ?_ | refine ExitTo.loop ?_))
  refine Nrm.next ?_
  refine Tri.seq (Tri.region ?_)
  refine TOps.move rfl rfl ?_
  refine TOps.assign rfl rfl ?_
  refine TOps.next ?_
  refine Tri.ret1 (H' := _) Try.results73 (fun _ _ h => h) (.tmp rfl) (Le.consOf s1) ⟨b13, v + nodes.length, rfl, rfl⟩
end Go.Proofs
namespace Go.Proofs
open Go.GL
set_option linter.unusedVariables false
set_option linter.unusedSimpArgs false
end Go.Proofs
namespace Go.Proofs
open Go.GL
set_option linter.unusedVariables false
set_option linter.unusedSimpArgs false
set_option maxHeartbeats 1000000 in
theorem visit_g {H : List Ent} {F : Fm} (hg : F.Good) {v N : Nat} (hv : F.vars = v) (hN : v + F.nodes.length = N) {na nsp : Option Nat} {no cap : Nat} (hns : RNodes H na no F.nodes nsp) {bw sa : Nat} :
    ∀ (k : Nat) {arg : Nat} {ev : List Nat} {sn : List Bool} {ea : Option Nat} {ec : Nat}, arg < k → arg < N → VOk v N ev sn → (ev ≠ [] → ∃ b, ea = some b) →
    Gives Try.prog 72 [.pointer (some ⟨bw, 0, none⟩), natV arg] (row (some bw) 144 5 1 [.int .i64 F.vars, slV na no F.nodes.length cap nsp, .int .i64 F.top, slV ea 0 ev.length ec, slV (some sa) 0 N N] :: row ea 3 1 ec (nats ev) :: row (some sa) 4 1 N (bools sn) :: H) (fun u H' => ∃ ev' sn' ea' ec', u = Value.tuple (List.toArray []) ∧ VOk v N ev' sn' ∧ (ev' ≠ [] → ∃ b, ea' = some b) ∧ (∀ i, sn.getD i false = true → sn'.getD i false = true) ∧ row (some bw) 144 5 1 [.int .i64 F.vars, slV na no F.nodes.length cap nsp, .int .i64 F.top, slV ea' 0 ev'.length ec', slV (some sa) 0 N N] :: row ea' 3 1 ec' (nats ev') :: row (some sa) 4 1 N (bools sn') :: H = H') := by
  have hn1 := hg.n1; have hv1 := hg.v1
  intro k
  induction k with
  | zero => intro arg ev sn ea ec hk; omega
  | succ k ih =>
  intro arg ev sn ea ec hk ha hV hea
  have hsl := hV.len
  have hel := hV.le
  refine Gives.enter Try.func72 rfl (by exact Try.ntmps72) rfl ?_
  refine Tri.seq ?_
  refine Tri.seq (Tri.region ?_)
  refine TOps.move rfl rfl ?_
  refine TOps.nilCheck rfl rfl ?_
  first | refine TOps.fieldB 4 rfl Try.underlying144 rfl rfl ti77 rfl rfl rfl ?_ | refine TOps.fieldN 4 rfl Try.underlying144 rfl rfl ti77 rfl rfl rfl ?_
  refine TOps.load1 rfl ti77 (by first | exact Rd.lit (by repeat (first | exact List.Mem.head _ | apply List.Mem.tail)) rfl | (repeat (first | assumption | exact Rd.fld (by assumption) 4 rfl | apply Rd.up))) rfl ?_
  refine TOps.move rfl rfl ?_
  refine TOps.indexAddr (off' := arg) rfl rfl Try.underlying77 ti4 (by omega) (by omega) (by simp) rfl ?_
  refine TOps.load1 rfl ti4 (Rd.lit (by repeat (first | exact List.Mem.head _ | apply List.Mem.tail)) (bools_get (by omega))) rfl ?_
  refine TOps.next ?_
  refine Tri.cond rfl (fun hc1 => ?_) (fun hc1 => ?_)
  · try simp only [decide_eq_true_eq, decide_eq_false_iff_not, Bool.and_eq_true, Bool.or_eq_true, Bool.not_eq_true', Bool.and_eq_false_iff, Bool.or_eq_false_iff, Bool.not_eq_false', Int.not_lt, Int.not_le, ne_eq, Decidable.not_not, Option.isSome_iff_ne_none, Option.isNone_iff_eq_none] at hc1
    refine Tri.ret0 (H' := row (some bw) 144 5 1 [.int .i64 F.vars, slV na no F.nodes.length cap nsp, .int .i64 F.top, slV ea 0 ev.length ec, slV (some sa) 0 N N] :: row ea 3 1 ec (nats ev) :: row (some sa) 4 1 N (bools sn) :: H) Try.results72 (fun _ _ h => h) (Le.refl _) ⟨ev, sn, ea, ec, rfl, hV, hea, fun i h => h, rfl⟩
  try simp only [decide_eq_true_eq, decide_eq_false_iff_not, Bool.and_eq_true, Bool.or_eq_true, Bool.not_eq_true', Bool.and_eq_false_iff, Bool.or_eq_false_iff, Bool.not_eq_false', Int.not_lt, Int.not_le, ne_eq, Decidable.not_not, Option.isSome_iff_ne_none, Option.isNone_iff_eq_none] at hc1
  have hf : sn.getD arg false = false := by simpa using hc1
  have hm : ∀ i, sn.getD i false = true → (sn.set arg true).getD i false = true := fun i h => by rw [getD_set (by omega), h]; simp
  refine Tri.fin ?_
  refine Nrm.next ?_
  refine Tri.seq (Tri.region ?_)
  refine TOps.move rfl rfl ?_
  refine TOps.nilCheck rfl rfl ?_
  first | refine TOps.fieldB 4 rfl Try.underlying144 rfl rfl ti77 rfl rfl rfl ?_ | refine TOps.fieldN 4 rfl Try.underlying144 rfl rfl ti77 rfl rfl rfl ?_
  refine TOps.load1 rfl ti77 (by first | exact Rd.lit (by repeat (first | exact List.Mem.head _ | apply List.Mem.tail)) rfl | (repeat (first | assumption | exact Rd.fld (by assumption) 4 rfl | apply Rd.up))) rfl ?_
  refine TOps.move rfl rfl ?_
  refine TOps.indexAddr (off' := arg) rfl rfl Try.underlying77 ti4 (by omega) (by omega) (by simp) rfl ?_
  refine TOps.store1 rfl rfl ti4 rfl rfl (by repeat (first | exact Upd.here | apply Upd.there)) (by simp; omega) ?_
  rw [← bools_set]
  refine TOps.next ?_
  refine Tri.seq ?_
  refine Tri.seq (Tri.region ?_)
  refine TOps.move rfl rfl ?_
  refine TOps.move rfl rfl ?_
  refine TOps.nilCheck rfl rfl ?_
  refine TOps.field0 rfl Try.underlying144 rfl rfl ti24 rfl rfl rfl ?_
  refine TOps.field0 rfl Try.underlying24 rfl rfl ti3 rfl rfl rfl ?_
  refine TOps.load1 rfl ti3 (by first | exact Rd.lit (by repeat (first | exact List.Mem.head _ | apply List.Mem.tail)) rfl | (repeat (first | assumption | exact Rd.fld (by assumption) 0 rfl | apply Rd.up))) rfl ?_
  refine TOps.lss rfl rfl rfl ?_
  refine TOps.next ?_
  refine Tri.cond rfl (fun hc2 => ?_) (fun hc2 => ?_)
  · try simp only [decide_eq_true_eq, decide_eq_false_iff_not, Bool.and_eq_true, Bool.or_eq_true, Bool.not_eq_true', Bool.and_eq_false_iff, Bool.or_eq_false_iff, Bool.not_eq_false', Int.not_lt, Int.not_le, ne_eq, Decidable.not_not, Option.isSome_iff_ne_none, Option.isNone_iff_eq_none] at hc2
    have hav : arg < v := by omega
    refine Tri.seq (Tri.region ?_)
    refine TOps.move rfl rfl ?_
    refine TOps.move rfl rfl ?_
    refine TOps.nilCheck rfl rfl ?_
    first | refine TOps.fieldB 3 rfl Try.underlying144 rfl rfl ti53 rfl rfl rfl ?_ | refine TOps.fieldN 3 rfl Try.underlying144 rfl rfl ti53 rfl rfl rfl ?_
    refine TOps.load1 rfl ti53 (by first | exact Rd.lit (by repeat (first | exact List.Mem.head _ | apply List.Mem.tail)) rfl | (repeat (first | assumption | exact Rd.fld (by assumption) 3 rfl | apply Rd.up))) rfl ?_
    refine TOps.move rfl rfl ?_
    refine TOps.buildSlice (vs := [_]) (xs := [_]) Try.underlying53 ti3 ⟨rfl, rfl, trivial⟩ rfl rfl rfl rfl rfl rfl (by decide) rfl (fun b32 => ?_)
    refine TOps.appendLit rfl rfl Try.underlying53 ti3 rfl (fun _ _ => (by repeat (first | exact Upd.here | apply Upd.there))) rfl (by simp) rfl (by omega) (by omega) (by simp) rfl (fun b33 cap33 => ?_)
    obtain ⟨E1, hE1⟩ : ∃ E1, E1 = ev ++ [arg] := ⟨_, rfl⟩
    have hVe := hV.event (by omega) hav hf
    rw [← hE1] at hVe
    refine TOps.nilCheck rfl rfl ?_
    first | refine TOps.fieldB 3 rfl Try.underlying144 rfl rfl ti53 rfl rfl rfl ?_ | refine TOps.fieldN 3 rfl Try.underlying144 rfl rfl ti53 rfl rfl rfl ?_
    refine TOps.store1 rfl rfl ti53 rfl rfl (by repeat (first | exact Upd.here | apply Upd.there)) (by first | decide | (simp; done) | (simp; omega) | exact (show (3 : Nat) < 5 by decide)) ?_
    refine TOps.next ?_
    refine Tri.ret0 (H' := row (some bw) 144 5 1 [.int .i64 F.vars, slV na no F.nodes.length cap nsp, .int .i64 F.top, slV (some b33) 0 E1.length cap33, slV (some sa) 0 N N] :: row (some b33) 3 1 cap33 (nats E1) :: row (some sa) 4 1 N (bools (sn.set arg true)) :: H) Try.results72 (fun _ _ h => h) ?_ ⟨E1, sn.set arg true, some b33, cap33, rfl, hVe, fun _ => ⟨_, rfl⟩, hm, rfl⟩
    rw [hE1, List.length_append, nats_snoc]
    exact Le.refl _
  try simp only [decide_eq_true_eq, decide_eq_false_iff_not, Bool.and_eq_true, Bool.or_eq_true, Bool.not_eq_true', Bool.and_eq_false_iff, Bool.or_eq_false_iff, Bool.not_eq_false', Int.not_lt, Int.not_le, ne_eq, Decidable.not_not, Option.isSome_iff_ne_none, Option.isNone_iff_eq_none] at hc2
  have hav : v ≤ arg := by omega
  have hVn := hV.node hav ha hf
  obtain ⟨i, rfl⟩ : ∃ i, arg = v + i := ⟨arg - v, by omega⟩
  have hi : i < F.nodes.length := by omega
  obtain ⟨nb, aa, ao, acap, asp, hna, hnsp, hnd⟩ := hns.at hi
  have hfi := hg.fits i hi
  have hal := hfi.len
  have hin : ∀ a ∈ F.nodes[i].args, 0 ≤ a ∧ a.toNat < v + i := fun a ha => by have := hfi.args a ha; omega
  refine Tri.fin ?_
  refine Nrm.next ?_
  refine Tri.seq ?_
  refine Tri.drawC rfl [(0, .pointer (some ⟨bw, 0, none⟩)), (1, natV (v + i))] [] [_, _, _, _, _, _, _, _, _, _, _, _, _, _, _, _, _] (row (some bw) 144 5 1 [.int .i64 F.vars, slV na no F.nodes.length cap nsp, .int .i64 F.top, slV ea 0 ev.length ec, slV (some sa) 0 N N] :: row ea 3 1 ec (nats ev) :: row (some sa) 4 1 N (bools (sn.set (v + i) true)) :: H) [14, 15, 16] rfl ⟨rfl, rfl, trivial⟩ trivial (by repeat (first | exact Le.refl _ | assumption | apply Le.drop)) (by
    refine ⟨?_, ?_, ?_, ?_, ?_, ?_, ?_, ?_, ?_, ?_, ?_, ?_, ?_, ?_, ?_, ?_, ?_, trivial⟩
    · refine ⟨fun x S c he hw hd hc hcu hm _ => ?_, trivial⟩
      refine TOps.move (he _ _ rfl) rfl ?_
      exact TOps.fd x rfl rfl
    · refine ⟨fun x S c he hw hd hc hcu hm _ => ?_, trivial⟩
      obtain ⟨h0, -⟩ := hd
      refine TOps.nilCheck h0 rfl ?_
      exact TOps.fd x rfl rfl
    · refine ⟨fun x S c he hw hd hc hcu hm _ => ?_, trivial⟩
      obtain ⟨h1, -⟩ := hd
      refine TOps.field0 h1 Try.underlying144 rfl rfl ti24 rfl rfl rfl ?_
      exact TOps.fd x rfl rfl
    · refine ⟨fun x S c he hw hd hc hcu hm _ => ?_, trivial⟩
      obtain ⟨h2, -⟩ := hd
      first | refine TOps.fieldB 1 h2 Try.underlying24 rfl rfl ti22 rfl rfl rfl ?_ | refine TOps.fieldN 1 h2 Try.underlying24 rfl rfl ti22 rfl rfl rfl ?_
      exact TOps.fd x rfl rfl
    · refine ⟨fun x S c he hw hd hc hcu hm _ => ?_, trivial⟩
      obtain ⟨h3, -⟩ := hd
      refine TOps.load1 h3 ti22 (by first | exact Rd.lit (by repeat (first | exact List.Mem.head _ | apply List.Mem.tail)) rfl | (repeat (first | assumption | exact Rd.fld (by assumption) 1 rfl | apply Rd.up))) rfl ?_
      exact TOps.fd x rfl rfl
    · refine ⟨fun x S c he hw hd hc hcu hm _ => ?_, trivial⟩
      refine TOps.move (he _ _ rfl) rfl ?_
      exact TOps.fd x rfl rfl
    · refine ⟨fun x S c he hw hd hc hcu hm _ => ?_, trivial⟩
      refine TOps.move (he _ _ rfl) rfl ?_
      exact TOps.fd x rfl rfl
    · refine ⟨fun x S c he hw hd hc hcu hm _ => ?_, trivial⟩
      obtain ⟨h6, -⟩ := hd
      refine TOps.nilCheck h6 rfl ?_
      exact TOps.fd x rfl rfl
    · refine ⟨fun x S c he hw hd hc hcu hm _ => ?_, trivial⟩
      obtain ⟨h7, -⟩ := hd
      refine TOps.field0 h7 Try.underlying144 rfl rfl ti24 rfl rfl rfl ?_
      exact TOps.fd x rfl rfl
    · refine ⟨fun x S c he hw hd hc hcu hm _ => ?_, trivial⟩
      obtain ⟨h8, -⟩ := hd
      refine TOps.field0 h8 Try.underlying24 rfl rfl ti3 rfl rfl rfl ?_
      exact TOps.fd x rfl rfl
    · refine ⟨fun x S c he hw hd hc hcu hm _ => ?_, trivial⟩
      obtain ⟨h9, -⟩ := hd
      refine TOps.load1 h9 ti3 (by first | exact Rd.lit (by repeat (first | exact List.Mem.head _ | apply List.Mem.tail)) rfl | (repeat (first | assumption | exact Rd.fld (by assumption) 0 rfl | apply Rd.up))) rfl ?_
      exact TOps.fd x rfl rfl
    · refine ⟨fun x S c he hw hd hc hcu hm _ => ?_, trivial⟩
      obtain ⟨h5, h10, -⟩ := hd
      refine TOps.sub (r := (i : Int)) h5 h10 (by rw [hv, wrapI (by omega) (by omega)]; omega) rfl ?_
      exact TOps.fd x rfl rfl
    · refine ⟨fun x S c he hw hd hc hcu hm _ => ?_, trivial⟩
      obtain ⟨h4, h11, -⟩ := hd
      refine TOps.indexAddr (b := nb) (off := no) (m := F.nodes.length) (cap := cap) (off' := no + i * 3) (by have e : opv _ (.tmp _) = some (slV na no F.nodes.length cap nsp) := h4; rw [hna, hnsp] at e; exact e) h11 Try.underlying22 ti102 (by omega) (by omega) (by simp) rfl ?_
      exact TOps.fd x rfl rfl
    · refine ⟨fun x S c he hw hd hc hcu hm _ => ?_, trivial⟩
      obtain ⟨h12, -⟩ := hd
      first | refine TOps.fieldB 2 h12 Try.underlying102 rfl rfl ti53 rfl rfl rfl ?_ | refine TOps.fieldN 2 h12 Try.underlying102 rfl rfl ti53 rfl rfl rfl ?_
      exact TOps.fd x rfl rfl
    · refine ⟨fun x S c he hw hd hc hcu hm _ => ?_, trivial⟩
      obtain ⟨h13, -⟩ := hd
      refine TOps.load1 h13 ti53 ((Rd.part hnd.cells 2 rfl).up.up.up) rfl ?_
      exact TOps.fd x rfl rfl
    · refine ⟨fun x S c he hw hd hc hcu hm _ => ?_, trivial⟩
      obtain ⟨h14, -⟩ := hd
      refine TOps.len h14 Try.underlying53 rfl ?_
      exact TOps.fd x rfl rfl
    · refine ⟨fun x S c he hw hd hc hcu hm _ => ?_, trivial⟩
      refine TOps.move rfl rfl ?_
      exact TOps.fd x rfl rfl
    ) ?_
  refine Nrm.next ?_
  refine Tri.range (X := (List Nat × List Bool) × Option Nat × Nat) (fun y j => [(0, .pointer (some ⟨bw, 0, none⟩)), (50, slV aa ao F.nodes[i].args.length acap asp)]) (fun y j => row (some bw) 144 5 1 [.int .i64 F.vars, slV na no F.nodes.length cap nsp, .int .i64 F.top, slV y.2.1 0 y.1.1.length y.2.2, slV (some sa) 0 N N] :: row y.2.1 3 1 y.2.2 (nats y.1.1) :: row (some sa) 4 1 N (bools y.1.2) :: H) (fun y j => VOk v N y.1.1 y.1.2 ∧ (y.1.1 ≠ [] → ∃ b, y.2.1 = some b) ∧ (∀ i, sn.getD i false = true → y.1.2.getD i false = true)) (by omega) rfl rfl rfl (fun _ _ => ⟨rfl, rfl, rfl, rfl⟩) ((ev, sn.set (v + i) true), ea, ec) ⟨hVn, hea, hm⟩ ⟨rfl, rfl, trivial⟩ (Le.refl _) (fun j y hltj hpj => ?_) (fun y ac wc hpj hS hM => ?_)
  · skip
    obtain ⟨⟨ev1, sn1⟩, ea1, ec1⟩ := y
    obtain ⟨p1, p2, p3⟩ := hpj
    simp only at p1 p2 p3
    obtain ⟨ab, rfl, rfl, hxa⟩ := hnd.args.at hltj
    obtain ⟨h00, h01⟩ := hin _ (List.getElem_mem hltj)
    obtain ⟨a, ha'⟩ := Int.eq_ofNat_of_zero_le h00
    rw [ha'] at hxa h01
    rw [Int.toNat_natCast] at h01
    refine Tri.seq (Tri.region ?_)
    refine TOps.indexAddr (off' := ao + j) rfl rfl Try.underlying53 ti3 (by omega) (by omega) (by simp) rfl ?_
    refine TOps.load1 rfl ti3 hxa.up.up.up rfl ?_
    refine TOps.assign rfl rfl ?_
    refine TOps.next ?_
    refine Tri.region ?_
    refine TOps.move rfl rfl ?_
    refine TOps.move rfl rfl ?_
    refine TOps.call (vs := [_, _]) Try.call72 ⟨rfl, rfl, trivial⟩ (ih (by omega) (by omega) p1 p2) rfl ?_
    rintro _ _ ⟨ev2, sn2, ea2, ec2, rfl, k1, k2, k3, rfl⟩
    refine TOps.fin ?_
    refine Nrm.body ((ev2, sn2), ea2, ec2) ⟨k1, k2, fun i h => k3 i (p3 i h)⟩ ⟨rfl, rfl, rfl, rfl, trivial⟩ (Le.refl _)
  obtain ⟨⟨ev1, sn1⟩, ea1, ec1⟩ := y
  obtain ⟨p1, p2, p3⟩ := hpj
  refine Nrm.of hS hM ?_
  exact Nrm.ret0 (H' := row (some bw) 144 5 1 [.int .i64 F.vars, slV na no F.nodes.length cap nsp, .int .i64 F.top, slV ea1 0 ev1.length ec1, slV (some sa) 0 N N] :: row ea1 3 1 ec1 (nats ev1) :: row (some sa) 4 1 N (bools sn1) :: H) Try.results72 (Le.refl _) ⟨ev1, sn1, ea1, ec1, rfl, p1, p2, p3, rfl⟩
theorem odepth_g {H : List Ent} {fv : Value} {F : Fm} (hF : RF H fv F) (hg : F.Good) {v : Nat} (hv : F.vars = v) :
    Gives Try.prog 45 [fv] H (fun u H' => ∃ o oa oc sv, u = .tuple (List.toArray [slV oa 0 v oc, sv]) ∧ OP v o (plOf v o) ∧ (o ≠ [] → ∃ b, oa = some b) ∧ row oa 3 1 oc (nats o) :: H = H') := by
  have hF0 := hF
  obtain ⟨na, no, cap, nsp, rfl, hns⟩ := hF
  obtain ⟨N, hN⟩ : ∃ N, v + F.nodes.length = N := ⟨_, rfl⟩
  have hn1 := hg.n1; have hv1 := hg.v1
  have htl := hg.topLt
  obtain ⟨tp, htp⟩ := Int.eq_ofNat_of_zero_le htl.1
  refine Gives.enter Try.func45 rfl (by exact Try.ntmps45) rfl ?_
  refine Tri.seq (Tri.region ?_)
  refine TOps.boxN rfl ti24 rfl rfl (fun b1 => ?_)
  refine TOps.hide (fun H1 l1 s1 r1 => ?_)
  replace hF0 := hF0.le l1; replace hns := hns.le l1
  refine TOps.assign rfl rfl ?_
  refine TOps.assign rfl rfl ?_
  refine TOps.next ?_
  refine Tri.seq ?_
  have hle : ∀ (x : Nat × Nat) (c : Nat), Le (match c with | 0 => H1 | 1 => row (some x.1) 4 1 N (List.replicate N (.bool false)) :: H1 | _ + 2 => row (some x.2) 144 5 1 [.int .i64 F.vars, slV na no F.nodes.length cap nsp, .int .i64 F.top, slV none 0 0 0, slV (some x.1) 0 N N] :: row (some x.1) 4 1 N (List.replicate N (.bool false)) :: H1) H1 := by intro x c; match c with | 0 => exact Le.refl _ | 1 => exact Le.drop (Le.refl _) | _ + 2 => exact Le.drop (Le.drop (Le.refl _))
  refine Tri.drawX (X := Nat × Nat) rfl [(1, .pointer (some ⟨b1, 0, none⟩))] [] (fun x => [_, _, _, _, _, _, _, slV (some x.1) 0 N N, .agg (List.toArray [.int .i64 F.vars, slV na no F.nodes.length cap nsp, .int .i64 F.top, slV none 0 0 0, slV (some x.1) 0 N N]), .pointer (some ⟨x.2, 0, none⟩), .pointer (some ⟨x.2, 0, none⟩)]) (fun x c => match c with | 0 => H1 | 1 => row (some x.1) 4 1 N (List.replicate N (.bool false)) :: H1 | _ + 2 => row (some x.2) 144 5 1 [.int .i64 F.vars, slV na no F.nodes.length cap nsp, .int .i64 F.top, slV none 0 0 0, slV (some x.1) 0 N N] :: row (some x.1) 4 1 N (List.replicate N (.bool false)) :: H1) [7, 9] (0, 0) [10] rfl rfl ⟨rfl, trivial⟩ trivial (by repeat (first | exact Le.refl _ | assumption | apply Le.drop)) (by
    refine ⟨?_, ?_, ?_, ?_, ?_, ?_, ?_, ?_, ?_, ?_, ?_, trivial⟩
    · refine ⟨fun x S c he hw hd hc hcu hm _ => ?_, trivial⟩
      refine TOps.loadN (vs := [.int .i64 F.vars, slV na no F.nodes.length cap nsp, .int .i64 F.top]) (he _ _ rfl) ti24 (r1.le (hle x c)) rfl rfl ?_
      exact TOps.fd x rfl rfl
    · refine ⟨fun x S c he hw hd hc hcu hm _ => ?_, trivial⟩
      refine TOps.field0 (he _ _ rfl) Try.underlying24 rfl rfl ti3 rfl rfl rfl ?_
      exact TOps.fd x rfl rfl
    · refine ⟨fun x S c he hw hd hc hcu hm _ => ?_, trivial⟩
      obtain ⟨h1, -⟩ := hd
      refine TOps.load1 h1 ti3 (Rd.fld (r1.le (hle x c)) 0 rfl) rfl ?_
      exact TOps.fd x rfl rfl
    · refine ⟨fun x S c he hw hd hc hcu hm _ => ?_, trivial⟩
      first | refine TOps.fieldB 1 (he _ _ rfl) Try.underlying24 rfl rfl ti22 rfl rfl rfl ?_ | refine TOps.fieldN 1 (he _ _ rfl) Try.underlying24 rfl rfl ti22 rfl rfl rfl ?_
      exact TOps.fd x rfl rfl
    · refine ⟨fun x S c he hw hd hc hcu hm _ => ?_, trivial⟩
      obtain ⟨h3, -⟩ := hd
      refine TOps.load1 h3 ti22 (Rd.fld (r1.le (hle x c)) 1 rfl) rfl ?_
      exact TOps.fd x rfl rfl
    · refine ⟨fun x S c he hw hd hc hcu hm _ => ?_, trivial⟩
      obtain ⟨h4, -⟩ := hd
      refine TOps.len h4 Try.underlying22 rfl ?_
      exact TOps.fd x rfl rfl
    · refine ⟨fun x S c he hw hd hc hcu hm _ => ?_, trivial⟩
      obtain ⟨h2, h5, -⟩ := hd
      refine TOps.add (r := (N : Int)) h2 h5 (by rw [hv, wrapI (by omega) (by omega)]; omega) rfl ?_
      exact TOps.fd x rfl rfl
    · refine ⟨fun x S c he hw hd hc hcu hm _ => ?_, trivial⟩
      obtain ⟨h6, _, -⟩ := hd
      obtain rfl : c = 0 := hm rfl
      refine TOps.make1 h6 h6 Try.underlying77 ti4 (by omega) (by omega) (by omega) rfl (fun b13 => ?_)
      refine TOps.fin (Nrm.draw (b13, x.2) ?_ rfl (Le.refl _))
      intro j hj hcj; rcases j with _|_|_|_|_|_|_|_|_|_|_|j <;> first | rfl | exact absurd rfl hj | exact absurd hcj (by decide)
    · refine ⟨fun x S c he hw hd hc hcu hm _ => ?_, trivial⟩
      obtain ⟨h0, h7, -⟩ := hd
      refine TOps.buildStruct (vs := [(0, _), (2, _)]) (xs := [_, _, _, _, _]) [(0, 3), (3, 1), (4, 1)] Try.underlying144 ti144 (fun w => by simp) ⟨rfl, h0, rfl, h7, trivial⟩ rfl rfl ?_
      exact TOps.fd x rfl rfl
    · refine ⟨fun x S c he hw hd hc hcu hm _ => ?_, trivial⟩
      obtain ⟨h8, -⟩ := hd
      obtain rfl : c = 1 := hm rfl
      refine TOps.boxN h8 ti144 rfl rfl (fun b15 => ?_)
      refine TOps.fin (Nrm.draw (x.1, b15) ?_ rfl (Le.refl _))
      intro j hj hcj; rcases j with _|_|_|_|_|_|_|_|_|_|_|j <;> first | rfl | exact absurd rfl hj | exact absurd hcj (by decide)
    · refine ⟨fun x S c he hw hd hc hcu hm _ => ?_, trivial⟩
      obtain ⟨h9, h0, h1, h2, h3, h4, h5, h6, h7, h8, _, -⟩ := hd
      refine TOps.assign h9 rfl ?_
      exact TOps.fd x rfl rfl
    ) (fun w => ?_)
  refine Nrm.le (H' := row (some w.2) 144 5 1 [.int .i64 F.vars, slV na no F.nodes.length cap nsp, .int .i64 F.top, slV none 0 0 0, slV (some w.1) 0 N N] :: row none 3 1 0 (nats []) :: row (some w.1) 4 1 N (bools (List.replicate N false)) :: H1) ((Le.addNil (E := 3) (sz := 1)).trans (by rw [show bools (List.replicate N false) = List.replicate N (Value.bool false) by simp]; exact (Sp.le (by repeat (first | exact Sp.refl _ | exact Sp.sub (by assumption) | refine Sp.cons (by repeat (first | exact Pick.here | apply Pick.there)) ?_ | exact Sp.nil | apply Sp.skip))))) ?_
  refine Nrm.next ?_
  refine Tri.seq (Tri.region ?_)
  refine TOps.move rfl rfl ?_
  first | refine TOps.fieldB 2 rfl Try.underlying24 rfl rfl ti3 rfl rfl rfl ?_ | refine TOps.fieldN 2 rfl Try.underlying24 rfl rfl ti3 rfl rfl rfl ?_
  refine TOps.load1 rfl ti3 (Rd.fld r1.up.up.up 2 rfl) rfl ?_
  refine TOps.call (vs := [_, natV tp]) Try.call72 ⟨rfl, (by show some (Value.int .i64 F.top) = _; rw [htp]), trivial⟩ (visit_g (H := H1) (cap := cap) hg hv hN hns (bw := w.2) (sa := w.1) (tp + 1) (arg := tp) (ev := []) (sn := List.replicate N false) (ea := none) (ec := 0) (by omega) (by omega) (VOk.start (by omega)) (fun h => absurd rfl h)) rfl ?_
  rintro _ _ ⟨ev, sn, ea, ec, rfl, k1, k2, k3, rfl⟩
  have hsl := k1.len
  refine TOps.next ?_
  refine Tri.seq ?_
  refine Tri.seq (Tri.region ?_)
  refine TOps.field0 rfl Try.underlying24 rfl rfl ti3 rfl rfl rfl ?_
  refine TOps.load1 rfl ti3 (Rd.fld r1.up.up.up 0 rfl) rfl ?_
  refine TOps.move rfl rfl ?_
  rw [hv]
  refine TOps.next ?_
  refine Tri.range (X := Option Nat × Nat) (fun y k => [(4, .pointer (some ⟨w.2, 0, none⟩))]) (fun y k => row (some w.2) 144 5 1 [.int .i64 (v : Nat), slV na no F.nodes.length cap nsp, .int .i64 F.top, slV y.1 0 (evAll ev sn k).length y.2, slV (some w.1) 0 N N] :: row y.1 3 1 y.2 (nats (evAll ev sn k)) :: row (some w.1) 4 1 N (bools sn) :: H1) (fun y k => evAll ev sn k ≠ [] → ∃ b, y.1 = some b) (by omega) rfl rfl rfl (fun _ _ => ⟨rfl, rfl, rfl, rfl⟩) (ea, ec) (by rw [evAll_zero]; exact k2) ⟨rfl, trivial⟩ (by rw [evAll_zero]; exact Le.refl _) (fun k y hlt hp => ?_) (fun y ac wc hp hS hM => ?_)
  · skip
    have hel := evAll_le k1 k
    refine Tri.seq (Tri.region ?_)
    refine TOps.move rfl rfl ?_
    refine TOps.assign rfl rfl ?_
    refine TOps.next ?_
    refine Tri.seq (Tri.region ?_)
    refine TOps.move rfl rfl ?_
    refine TOps.nilCheck rfl rfl ?_
    first | refine TOps.fieldB 4 rfl Try.underlying144 rfl rfl ti77 rfl rfl rfl ?_ | refine TOps.fieldN 4 rfl Try.underlying144 rfl rfl ti77 rfl rfl rfl ?_
    refine TOps.load1 rfl ti77 (by first | exact Rd.lit (by repeat (first | exact List.Mem.head _ | apply List.Mem.tail)) rfl | (repeat (first | assumption | exact Rd.fld (by assumption) 4 rfl | apply Rd.up))) rfl ?_
    refine TOps.move rfl rfl ?_
    refine TOps.indexAddr (off' := k) rfl rfl Try.underlying77 ti4 (by omega) (by omega) (by simp) rfl ?_
    refine TOps.load1 rfl ti4 (Rd.lit (by repeat (first | exact List.Mem.head _ | apply List.Mem.tail)) (bools_get (by omega))) rfl ?_
    refine TOps.not rfl rfl ?_
    refine TOps.next ?_
    refine Tri.cond rfl (fun hc1 => ?_) (fun hc1 => ?_)
    · try simp only [decide_eq_true_eq, decide_eq_false_iff_not, Bool.and_eq_true, Bool.or_eq_true, Bool.not_eq_true', Bool.and_eq_false_iff, Bool.or_eq_false_iff, Bool.not_eq_false', Int.not_lt, Int.not_le, ne_eq, Decidable.not_not, Option.isSome_iff_ne_none, Option.isNone_iff_eq_none] at hc1
      have hsk : sn.getD k false = false := by simpa using hc1
      have hev := evAll_new (ev := ev) hsk
      refine Tri.region ?_
      refine TOps.move rfl rfl ?_
      refine TOps.move rfl rfl ?_
      refine TOps.nilCheck rfl rfl ?_
      first | refine TOps.fieldB 3 rfl Try.underlying144 rfl rfl ti53 rfl rfl rfl ?_ | refine TOps.fieldN 3 rfl Try.underlying144 rfl rfl ti53 rfl rfl rfl ?_
      refine TOps.load1 rfl ti53 (by first | exact Rd.lit (by repeat (first | exact List.Mem.head _ | apply List.Mem.tail)) rfl | (repeat (first | assumption | exact Rd.fld (by assumption) 3 rfl | apply Rd.up))) rfl ?_
      refine TOps.move rfl rfl ?_
      refine TOps.buildSlice (vs := [_]) (xs := [_]) Try.underlying53 ti3 ⟨rfl, rfl, trivial⟩ rfl rfl rfl rfl rfl rfl (by decide) rfl (fun b39 => ?_)
      refine TOps.appendLit rfl rfl Try.underlying53 ti3 rfl (fun _ _ => (by repeat (first | exact Upd.here | apply Upd.there))) rfl (by simp) rfl (by omega) (by omega) (by simp) rfl (fun b33 cap33 => ?_)
      refine TOps.nilCheck rfl rfl ?_
      first | refine TOps.fieldB 3 rfl Try.underlying144 rfl rfl ti53 rfl rfl rfl ?_ | refine TOps.fieldN 3 rfl Try.underlying144 rfl rfl ti53 rfl rfl rfl ?_
      refine TOps.store1 rfl rfl ti53 rfl rfl (by repeat (first | exact Upd.here | apply Upd.there)) (by first | decide | (simp; done) | (simp; omega) | exact (show (3 : Nat) < 5 by decide)) ?_
      refine TOps.fin ?_
      first
       | refine Nrm.body (some b33, cap33) (fun _ => ⟨_, rfl⟩) ⟨rfl, rfl, rfl, trivial⟩ (by rw [hev, List.length_append, nats_snoc]; exact Le.refl _)
       | refine Nrm.body y (by rw [hev]; exact hp) ⟨rfl, rfl, rfl, trivial⟩ (by rw [hev]; exact Le.refl _)
    try simp only [decide_eq_true_eq, decide_eq_false_iff_not, Bool.and_eq_true, Bool.or_eq_true, Bool.not_eq_true', Bool.and_eq_false_iff, Bool.or_eq_false_iff, Bool.not_eq_false', Int.not_lt, Int.not_le, ne_eq, Decidable.not_not, Option.isSome_iff_ne_none, Option.isNone_iff_eq_none] at hc1
    have hsk : sn.getD k false = true := by simpa using hc1
    have hev := evAll_seen (ev := ev) hsk
    refine Tri.fin ?_
    first
     | refine Nrm.body (some b33, cap33) (fun _ => ⟨_, rfl⟩) ⟨rfl, rfl, rfl, trivial⟩ (by rw [hev, List.length_append, nats_snoc]; exact Le.refl _)
     | refine Nrm.body y (by rw [hev]; exact hp) ⟨rfl, rfl, rfl, trivial⟩ (by rw [hev]; exact Le.refl _)
  have hop := evAll_op k1
  have hol := hop.lo
  refine Nrm.of hS hM ?_
  refine Nrm.next ?_
  refine Tri.seq ?_
  refine Tri.drawC rfl [(4, .pointer (some ⟨w.2, 0, none⟩))] [] [_, _, _, _, _, _, _, _, _, _] (row (some w.2) 144 5 1 [.int .i64 (v : Nat), slV na no F.nodes.length cap nsp, .int .i64 F.top, slV y.1 0 (evAll ev sn v).length y.2, slV (some w.1) 0 N N] :: row y.1 3 1 y.2 (nats (evAll ev sn v)) :: row (some w.1) 4 1 N (bools sn) :: H1) [8, 9] rfl ⟨rfl, trivial⟩ trivial (by repeat (first | exact Le.refl _ | assumption | apply Le.drop)) (by
    refine ⟨?_, ?_, ?_, ?_, ?_, ?_, ?_, ?_, ?_, ?_, trivial⟩
    · refine ⟨fun x S c he hw hd hc hcu hm _ => ?_, trivial⟩
      refine TOps.move (he _ _ rfl) rfl ?_
      exact TOps.fd x rfl rfl
    · refine ⟨fun x S c he hw hd hc hcu hm _ => ?_, trivial⟩
      obtain ⟨h0, -⟩ := hd
      refine TOps.nilCheck h0 rfl ?_
      exact TOps.fd x rfl rfl
    · refine ⟨fun x S c he hw hd hc hcu hm _ => ?_, trivial⟩
      obtain ⟨h1, -⟩ := hd
      first | refine TOps.fieldB 3 h1 Try.underlying144 rfl rfl ti53 rfl rfl rfl ?_ | refine TOps.fieldN 3 h1 Try.underlying144 rfl rfl ti53 rfl rfl rfl ?_
      exact TOps.fd x rfl rfl
    · refine ⟨fun x S c he hw hd hc hcu hm _ => ?_, trivial⟩
      obtain ⟨h2, -⟩ := hd
      refine TOps.load1 h2 ti53 (by first | exact Rd.lit (by repeat (first | exact List.Mem.head _ | apply List.Mem.tail)) rfl | (repeat (first | assumption | exact Rd.fld (by assumption) 3 rfl | apply Rd.up))) rfl ?_
      exact TOps.fd x rfl rfl
    · refine ⟨fun x S c he hw hd hc hcu hm _ => ?_, trivial⟩
      refine TOps.move (he _ _ rfl) rfl ?_
      exact TOps.fd x rfl rfl
    · refine ⟨fun x S c he hw hd hc hcu hm _ => ?_, trivial⟩
      obtain ⟨h4, -⟩ := hd
      refine TOps.nilCheck h4 rfl ?_
      exact TOps.fd x rfl rfl
    · refine ⟨fun x S c he hw hd hc hcu hm _ => ?_, trivial⟩
      obtain ⟨h5, -⟩ := hd
      first | refine TOps.fieldB 4 h5 Try.underlying144 rfl rfl ti77 rfl rfl rfl ?_ | refine TOps.fieldN 4 h5 Try.underlying144 rfl rfl ti77 rfl rfl rfl ?_
      exact TOps.fd x rfl rfl
    · refine ⟨fun x S c he hw hd hc hcu hm _ => ?_, trivial⟩
      obtain ⟨h6, -⟩ := hd
      refine TOps.load1 h6 ti77 (by first | exact Rd.lit (by repeat (first | exact List.Mem.head _ | apply List.Mem.tail)) rfl | (repeat (first | assumption | exact Rd.fld (by assumption) 4 rfl | apply Rd.up))) rfl ?_
      exact TOps.fd x rfl rfl
    · refine ⟨fun x S c he hw hd hc hcu hm _ => ?_, trivial⟩
      obtain ⟨h3, h0, h1, h2, _, -⟩ := hd
      refine TOps.assign h3 rfl ?_
      exact TOps.fd x rfl rfl
    · refine ⟨fun x S c he hw hd hc hcu hm _ => ?_, trivial⟩
      obtain ⟨h7, h8, h0, h1, h2, h3, h4, h5, h6, _, _, -⟩ := hd
      refine TOps.assign h7 rfl ?_
      exact TOps.fd x rfl rfl
    ) ?_
  refine Nrm.next ?_
  refine Tri.ret2 (v1 := slV y.1 0 (evAll ev sn v).length y.2) (v2 := slV (some w.1) 0 N N) (H' := row y.1 3 1 y.2 (nats (evAll ev sn v)) :: H) Try.results45 (fun _ _ h => h) (.tmp rfl) (.tmp rfl) (Le.drop (Le.sub (List.Sublist.cons_cons _ (List.Sublist.cons _ s1)))) ⟨evAll ev sn v, y.1, y.2, slV (some w.1) 0 N N, by rw [hol], hop, hp, rfl⟩
theorem orderDepth_g {H : List Ent} {fv : Value} {F : Fm} (hF : RF H fv F) (hk : F.ok) (hg : F.Good) {v : Nat} (hv : F.vars = v) :
    Gives Try.prog 21 [fv] H (fun u H' => ∃ o oa oc, u = .tuple (List.toArray [slV oa 0 v oc, errV 73 none]) ∧ OP v o (plOf v o) ∧ (o ≠ [] → ∃ b, oa = some b) ∧ row oa 3 1 oc (nats o) :: H = H') := by
  have hF0 := hF
  have he := (Fm.good_iff F).2 hg
  obtain ⟨na, no, cap, nsp, rfl, hns⟩ := hF
  refine Gives.enter Try.func21 rfl (by exact Try.ntmps21) rfl ?_
  refine Tri.seq (Tri.region ?_)
  refine TOps.boxN rfl ti24 rfl rfl (fun b1 => ?_)
  refine TOps.hide (fun H1 l1 s1 r1 => ?_)
  replace hF0 := hF0.le l1
  refine TOps.assign rfl rfl ?_
  refine TOps.assign rfl rfl ?_
  refine TOps.next ?_
  refine Tri.seq ?_
  refine Tri.seq (Tri.region ?_)
  refine TOps.loadN rfl ti24 (by first | exact Rd.all (by repeat (first | exact List.Mem.head _ | apply List.Mem.tail)) | (repeat (first | assumption | apply Rd.up))) rfl rfl ?_
  refine TOps.call (vs := [_]) Try.call30 ⟨rfl, trivial⟩ (check_g hF0 hk) rfl ?_
  rintro _ _ ⟨rfl, rfl⟩
  rw [he]
  refine TOps.assign rfl rfl ?_
  refine TOps.next ?_
  refine Tri.seq (Tri.region ?_)
  refine TOps.move rfl rfl ?_
  refine TOps.neqNil (T := 73) (o := none) rfl Try.underlying34 rfl ?_
  refine TOps.next ?_
  refine Tri.cond rfl (fun hc1 => ?_) (fun hc1 => ?_)
  · exact absurd hc1 (by first | decide | simp)
  try simp only [decide_eq_true_eq, decide_eq_false_iff_not, Bool.and_eq_true, Bool.or_eq_true, Bool.not_eq_true', Bool.and_eq_false_iff, Bool.or_eq_false_iff, Bool.not_eq_false', Int.not_lt, Int.not_le, ne_eq, Decidable.not_not, Option.isSome_iff_ne_none, Option.isNone_iff_eq_none] at hc1
  refine Tri.fin ?_
  refine Nrm.next ?_
  refine Tri.seq (Tri.region ?_)
  refine TOps.loadN rfl ti24 (by first | exact Rd.all (by repeat (first | exact List.Mem.head _ | apply List.Mem.tail)) | (repeat (first | assumption | apply Rd.up))) rfl rfl ?_
  refine TOps.call (vs := [_]) Try.call45 ⟨rfl, trivial⟩ (odepth_g hF0 hg hv) rfl ?_
  rintro _ _ ⟨o, oa, oc, sv, rfl, k1, k2, rfl⟩
  refine TOps.move rfl rfl ?_
  refine TOps.extract rfl rfl rfl ?_
  refine TOps.extract rfl rfl rfl ?_
  refine TOps.assign rfl rfl ?_
  refine TOps.assign rfl rfl ?_
  refine TOps.next ?_
  refine Tri.seq (Tri.region ?_)
  refine TOps.move rfl rfl ?_
  refine TOps.assign rfl rfl ?_
  refine TOps.assign rfl rfl ?_
  refine TOps.next ?_
  refine Tri.ret2 (H' := row oa 3 1 oc (nats o) :: H) Try.results21 (fun _ _ h => h) (.tmp rfl) (.tmp rfl) (Le.consOf s1) ⟨o, oa, oc, rfl, k1, k2, rfl⟩
theorem orderCheck_g {H : List Ent} {n : Nat} {o pl : List Nat} (ho : OP n o pl) (hn24 : n ≤ 24) {xa sp : Option Nat} {xo xc : Nat} (hr : RdS H xa xo (nats o) sp) :
    Gives Try.prog 47 [slV xa xo n xc sp, natV n] H (R1 (errV 73 none) H) := by
  have hol := ho.lo
  refine Gives.enter Try.func47 rfl (by exact Try.ntmps47) rfl ?_
  refine Tri.seq (Tri.region ?_)
  refine TOps.assign rfl rfl ?_
  refine TOps.next ?_
  refine Tri.seq ?_
  refine Tri.block ?_
  refine Tri.seq (Tri.region ?_)
  refine TOps.move rfl rfl ?_
  refine TOps.lss rfl rfl rfl ?_
  refine TOps.move rfl rfl ?_
  refine' TOps.orB 2 rfl rfl rfl rfl (fun hg1_2 => ?_) ?_; rotate_left
  · have hg1_2' := hg1_2
    try simp only [decide_eq_true_eq, decide_eq_false_iff_not, Bool.and_eq_true, Bool.or_eq_true, Bool.not_eq_true', Bool.and_eq_false_iff, Bool.or_eq_false_iff, Bool.not_eq_false', Int.not_lt, Int.not_le, ne_eq, Decidable.not_not] at hg1_2'
    refine TOps.strip 2 false rfl rfl hg1_2 rfl ?_
    refine TOps.move rfl rfl ?_
    refine TOps.gtr rfl rfl rfl ?_
    refine TOps.blk rfl (by repeat (first | exact Ext.refl _ | refine Ext.cons rfl ?_)) (by repeat (first | exact Le.refl _ | apply Le.drop))
  refine TOps.assign rfl rfl ?_
  refine TOps.next ?_
  refine Tri.cond rfl (fun hc1 => ?_) (fun hc1 => ?_)
  · try simp only [decide_eq_true_eq, decide_eq_false_iff_not, Bool.and_eq_true, Bool.or_eq_true, Bool.not_eq_true', Bool.and_eq_false_iff, Bool.or_eq_false_iff, Bool.not_eq_false', Int.not_lt, Int.not_le, ne_eq, Decidable.not_not, Option.isSome_iff_ne_none, Option.isNone_iff_eq_none] at hc1
    have hfalse : False := by omega
    refine Tri.seq (Tri.region ?_)
    refine TOps.makeInterface rfl Try.underlying73 rfl rfl ?_
    refine TOps.assign rfl rfl ?_
    refine TOps.next ?_
    exact hfalse.elim
  try simp only [decide_eq_true_eq, decide_eq_false_iff_not, Bool.and_eq_true, Bool.or_eq_true, Bool.not_eq_true', Bool.and_eq_false_iff, Bool.or_eq_false_iff, Bool.not_eq_false', Int.not_lt, Int.not_le, ne_eq, Decidable.not_not, Option.isSome_iff_ne_none, Option.isNone_iff_eq_none] at hc1
  refine Tri.seq (Tri.region ?_)
  refine TOps.move rfl rfl ?_
  refine TOps.len rfl Try.underlying53 rfl ?_
  refine TOps.move rfl rfl ?_
  refine TOps.neqI rfl rfl rfl ?_
  refine TOps.assign rfl rfl ?_
  refine TOps.next ?_
  refine Tri.cond rfl (fun hc2 => ?_) (fun hc2 => ?_)
  · exact absurd hc2 (by first | decide | simp)
  try simp only [decide_eq_true_eq, decide_eq_false_iff_not, Bool.and_eq_true, Bool.or_eq_true, Bool.not_eq_true', Bool.and_eq_false_iff, Bool.or_eq_false_iff, Bool.not_eq_false', Int.not_lt, Int.not_le, ne_eq, Decidable.not_not, Option.isSome_iff_ne_none, Option.isNone_iff_eq_none] at hc2
  refine Tri.fin ?_
  refine Nrm.unB ?_
  refine Nrm.next ?_
  refine Tri.seq (Tri.region ?_)
  refine TOps.move rfl rfl ?_
  refine TOps.make1 rfl rfl Try.underlying77 ti4 (by omega) (by omega) (by omega) rfl (fun b23 => ?_)
  refine TOps.assign rfl rfl ?_
  refine TOps.next ?_
  refine Tri.seq ?_
  refine Tri.seq (Tri.region ?_)
  refine TOps.move rfl rfl ?_
  refine TOps.len rfl Try.underlying53 rfl ?_
  refine TOps.move rfl rfl ?_
  refine TOps.next ?_
  refine Tri.range (X := List Bool) (fun sn k => [(1, natV n), (5, slV (some b23) 0 n n), (24, slV xa xo n xc sp)]) (fun sn k => row (some b23) 4 1 n (bools sn) :: H) (fun sn k => SnOk n o sn k) (by omega) rfl rfl rfl (fun _ _ => ⟨rfl, rfl, rfl, rfl⟩) (List.replicate n false) ⟨by simp, fun j _ hj => by simp [List.getD_eq_getElem?_getD, List.getElem?_replicate]; split <;> rfl⟩ ⟨rfl, rfl, rfl, trivial⟩ (Le.rowEq (by simp)) (fun k sn hlt hp => ?_) (fun sn ac wc hp hS hM => ?_)
  · skip
    obtain ⟨xb, hxa, hsp, hxb⟩ := hr.at (i := k) (by simp; omega)
    have hxk : (nats o)[k]'(by simp; omega) = natV (o.getD k 0) := by simp [hol, hlt]
    rw [hxk] at hxb
    have hok := (ho.op k hlt).1
    have hsl := hp.1
    have hsf := hp.2 k (Nat.le_refl _) hlt
    subst hxa hsp
    refine Tri.seq (Tri.region ?_)
    refine TOps.indexAddr (off' := xo + k) rfl rfl Try.underlying53 ti3 (by omega) (by omega) (by simp) rfl ?_
    refine TOps.load1 rfl ti3 (hxb.le (Le.drop (Le.refl _))) rfl ?_
    refine TOps.assign rfl rfl ?_
    refine TOps.next ?_
    refine Tri.seq ?_
    refine Tri.seq (Tri.region ?_)
    refine TOps.move rfl rfl ?_
    refine TOps.lss rfl rfl rfl ?_
    refine TOps.move rfl rfl ?_
    refine' TOps.orB 3 rfl rfl rfl rfl (fun hg9_2 => ?_) ?_; rotate_left
    · have hg9_2' := hg9_2
      try simp only [decide_eq_true_eq, decide_eq_false_iff_not, Bool.and_eq_true, Bool.or_eq_true, Bool.not_eq_true', Bool.and_eq_false_iff, Bool.or_eq_false_iff, Bool.not_eq_false', Int.not_lt, Int.not_le, ne_eq, Decidable.not_not] at hg9_2'
      refine TOps.strip 2 false rfl rfl hg9_2 rfl ?_
      refine TOps.move rfl rfl ?_
      refine TOps.move rfl rfl ?_
      refine TOps.geq rfl rfl rfl ?_
      refine TOps.blk rfl (by repeat (first | exact Ext.refl _ | refine Ext.cons rfl ?_)) (by repeat (first | exact Le.refl _ | apply Le.drop))
    refine TOps.next ?_
    refine Tri.cond rfl (fun hc3 => ?_) (fun hc3 => ?_)
    · try simp only [decide_eq_true_eq, decide_eq_false_iff_not, Bool.and_eq_true, Bool.or_eq_true, Bool.not_eq_true', Bool.and_eq_false_iff, Bool.or_eq_false_iff, Bool.not_eq_false', Int.not_lt, Int.not_le, ne_eq, Decidable.not_not, Option.isSome_iff_ne_none, Option.isNone_iff_eq_none] at hc3
      have hfalse : False := by omega
      refine Tri.seq (Tri.region ?_)
      refine TOps.makeInterface rfl Try.underlying73 rfl rfl ?_
      refine TOps.assign rfl rfl ?_
      refine TOps.next ?_
      exact hfalse.elim
    try simp only [decide_eq_true_eq, decide_eq_false_iff_not, Bool.and_eq_true, Bool.or_eq_true, Bool.not_eq_true', Bool.and_eq_false_iff, Bool.or_eq_false_iff, Bool.not_eq_false', Int.not_lt, Int.not_le, ne_eq, Decidable.not_not, Option.isSome_iff_ne_none, Option.isNone_iff_eq_none] at hc3
    refine Tri.fin ?_
    refine Nrm.next ?_
    refine Tri.seq ?_
    refine Tri.seq (Tri.region ?_)
    refine TOps.move rfl rfl ?_
    refine TOps.move rfl rfl ?_
    refine TOps.indexAddr (off' := o.getD k 0) rfl rfl Try.underlying77 ti4 (by omega) (by omega) (by simp) rfl ?_
    refine TOps.load1 rfl ti4 (Rd.lit (by repeat (first | exact List.Mem.head _ | apply List.Mem.tail)) (bools_get (by omega))) rfl ?_
    rw [hsf]
    refine TOps.next ?_
    refine Tri.cond rfl (fun hc4 => ?_) (fun hc4 => ?_)
    · exact absurd hc4 (by first | decide | simp)
    try simp only [decide_eq_true_eq, decide_eq_false_iff_not, Bool.and_eq_true, Bool.or_eq_true, Bool.not_eq_true', Bool.and_eq_false_iff, Bool.or_eq_false_iff, Bool.not_eq_false', Int.not_lt, Int.not_le, ne_eq, Decidable.not_not, Option.isSome_iff_ne_none, Option.isNone_iff_eq_none] at hc4
    refine Tri.fin ?_
    refine Nrm.next ?_
    refine Tri.region ?_
    refine TOps.move rfl rfl ?_
    refine TOps.move rfl rfl ?_
    refine TOps.indexAddr (off' := o.getD k 0) rfl rfl Try.underlying77 ti4 (by omega) (by omega) (by simp) rfl ?_
    refine TOps.store1 rfl rfl ti4 rfl rfl Upd.here (by rw [List.length_map]; omega) ?_
    refine TOps.fin ?_
    refine Nrm.body (sn.set (o.getD k 0) true) (hp.step ho hlt) ⟨rfl, rfl, rfl, rfl, rfl, trivial⟩ (Le.rowEq (by rw [bools_set]))
  refine Nrm.of hS hM ?_
  refine Nrm.next ?_
  refine Tri.seq (Tri.region ?_)
  refine TOps.assign rfl rfl ?_
  refine TOps.next ?_
  refine Tri.ret1 (H' := H) Try.results47 (fun _ _ h => h) (.tmp rfl) (Le.drop (Le.refl _)) ⟨rfl, rfl⟩
end Go.Proofs
namespace Go.Proofs
open Go.GL
set_option linter.unusedVariables false
set_option linter.unusedSimpArgs false
end Go.Proofs
namespace Go.Proofs
open Go.GL
set_option linter.unusedVariables false
set_option linter.unusedSimpArgs false
theorem rvalid_g {H : List Ent} {fv : Value} {F : Fm} (hF : RF H fv F) (hk : F.ok) (arg : Int) (ha : I64 arg) :
    Gives Try.prog 44 [fv, .int .i64 arg] H (R1 (.bool (F.valid arg)) H) := by
  obtain ⟨a, off, cap, nsp, rfl, hN⟩ := hF
  unfold I64 at ha
  have h1 := hk.1; have h2 := hk.2.1; unfold I64 at h1 h2
  have h3 := hk.2.2.2
  refine Gives.enter Try.func44 rfl (by exact Try.ntmps44) rfl ?_
  refine Tri.seq (Tri.region ?_)
  refine TOps.boxN rfl ti24 rfl rfl (fun b2 => ?_)
  refine TOps.assign rfl rfl ?_
  refine TOps.next ?_
  refine Tri.seq (Tri.region ?_)
  refine TOps.field0 rfl Try.underlying24 rfl rfl ti3 rfl rfl rfl ?_
  refine TOps.load1 rfl ti3 (by first | exact Rd.lit (by repeat (first | exact List.Mem.head _ | apply List.Mem.tail)) rfl | (repeat (first | assumption | exact Rd.fld (by assumption) 0 rfl | apply Rd.up))) rfl ?_
  refine TOps.geq rfl rfl rfl ?_
  refine TOps.move rfl rfl ?_
  refine' TOps.andB 2 rfl rfl rfl rfl (fun hg1_3 => ?_) ?_; rotate_left
  · have hg1_3' := hg1_3
    try simp only [decide_eq_true_eq, decide_eq_false_iff_not, Bool.and_eq_true, Bool.or_eq_true, Bool.not_eq_true', Bool.and_eq_false_iff, Bool.or_eq_false_iff, Bool.not_eq_false', Int.not_lt, Int.not_le, ne_eq, Decidable.not_not] at hg1_3'
    refine TOps.strip 3 true rfl rfl hg1_3 rfl ?_
    refine TOps.move rfl rfl ?_
    refine TOps.geq rfl rfl rfl ?_
    refine TOps.blk rfl (by repeat (first | exact Ext.refl _ | refine Ext.cons rfl ?_)) (by repeat (first | exact Le.refl _ | apply Le.drop))
  refine TOps.move rfl rfl ?_
  refine' TOps.andB 14 rfl rfl rfl rfl (fun hg1_7 => ?_) ?_; rotate_left
  · have hg1_7' := hg1_7
    try simp only [decide_eq_true_eq, decide_eq_false_iff_not, Bool.and_eq_true, Bool.or_eq_true, Bool.not_eq_true', Bool.and_eq_false_iff, Bool.or_eq_false_iff, Bool.not_eq_false', Int.not_lt, Int.not_le, ne_eq, Decidable.not_not] at hg1_7'
    refine TOps.strip 7 true rfl rfl hg1_7 rfl ?_
    refine TOps.move rfl rfl ?_
    refine TOps.field0 rfl Try.underlying24 rfl rfl ti3 rfl rfl rfl ?_
    refine TOps.load1 rfl ti3 (by first | exact Rd.lit (by repeat (first | exact List.Mem.head _ | apply List.Mem.tail)) rfl | (repeat (first | assumption | exact Rd.fld (by assumption) 0 rfl | apply Rd.up))) rfl ?_
    refine TOps.lss rfl rfl rfl ?_
    refine TOps.move rfl rfl ?_
    refine' TOps.orB 8 rfl rfl rfl rfl (fun hg1_12 => ?_) ?_; rotate_left
    · have hg1_12' := hg1_12
      try simp only [decide_eq_true_eq, decide_eq_false_iff_not, Bool.and_eq_true, Bool.or_eq_true, Bool.not_eq_true', Bool.and_eq_false_iff, Bool.or_eq_false_iff, Bool.not_eq_false', Int.not_lt, Int.not_le, ne_eq, Decidable.not_not] at hg1_12'
      refine TOps.strip 12 false rfl rfl hg1_12 rfl ?_
      refine TOps.move rfl rfl ?_
      refine TOps.field0 rfl Try.underlying24 rfl rfl ti3 rfl rfl rfl ?_
      refine TOps.load1 rfl ti3 (by first | exact Rd.lit (by repeat (first | exact List.Mem.head _ | apply List.Mem.tail)) rfl | (repeat (first | assumption | exact Rd.fld (by assumption) 0 rfl | apply Rd.up))) rfl ?_
      refine TOps.sub rfl rfl (wrapI (by omega) (by omega)) rfl ?_
      first | refine TOps.fieldB 1 rfl Try.underlying24 rfl rfl ti22 rfl rfl rfl ?_ | refine TOps.fieldN 1 rfl Try.underlying24 rfl rfl ti22 rfl rfl rfl ?_
      refine TOps.load1 rfl ti22 (by first | exact Rd.lit (by repeat (first | exact List.Mem.head _ | apply List.Mem.tail)) rfl | (repeat (first | assumption | exact Rd.fld (by assumption) 1 rfl | apply Rd.up))) rfl ?_
      refine TOps.len rfl Try.underlying22 rfl ?_
      refine TOps.lss rfl rfl rfl ?_
      refine TOps.blk rfl (by repeat (first | exact Ext.refl _ | refine Ext.cons rfl ?_)) (by repeat (first | exact Le.refl _ | apply Le.drop))
    refine TOps.blk rfl (by repeat (first | exact Ext.refl _ | refine Ext.cons rfl ?_)) (by repeat (first | exact Le.refl _ | apply Le.drop))
  refine TOps.assign rfl rfl ?_
  refine TOps.next ?_
  refine Tri.ret1 (v := .bool (F.valid arg)) (H' := H) Try.results44 (fun _ _ h => h) (.tmp rfl) (by repeat (first | exact Le.refl _ | refine Le.drop ?_)) ⟨rfl, rfl⟩
theorem rnode_g {H : List Ent} {fv : Value} {F : Fm} (hF : RF H fv F) (hk : F.ok) (hv : 0 ≤ F.vars ∧ F.vars ≤ 24) (hn128 : F.nodes.length ≤ 128) (i : Nat) (hi : i < F.nodes.length) :
    Gives Try.prog 43 [fv, .int .i64 i] H (R1 (.int .i64 ((nodeErr F.vars i F.nodes[i]).getD 0)) H) := by
  obtain ⟨a, off, cap, nsp, rfl, hN⟩ := hF
  have h1 := hk.1; have h2 := hk.2.1; unfold I64 at h1 h2
  have h3 := hk.2.2.2
  obtain ⟨nb, aa, ao, acap, asp, rfl, rfl, hn⟩ := hN.at hi
  have hd := hk.2.2.1 F.nodes[i] (List.getElem_mem hi)
  have d1 := hd.1; have d2 := hd.2.1; have d3 := hd.2.2.1; have d4 := hd.2.2.2; unfold I64 at d1 d2
  have hcells := hn.cells
  generalize F.nodes[i] = d at *
  refine Gives.enter Try.func43 rfl (by exact Try.ntmps43) rfl ?_
  refine Tri.seq (Tri.region ?_)
  refine TOps.boxN rfl ti24 rfl rfl (fun b2 => ?_)
  refine TOps.hide (fun H1 l1 s1 r1 => ?_)
  replace hcells := hcells.le l1; replace hn := hn.le l1
  refine TOps.assign rfl rfl ?_
  refine TOps.next ?_
  refine Tri.seq (Tri.region ?_)
  first | refine TOps.fieldB 1 rfl Try.underlying24 rfl rfl ti22 rfl rfl rfl ?_ | refine TOps.fieldN 1 rfl Try.underlying24 rfl rfl ti22 rfl rfl rfl ?_
  refine TOps.load1 rfl ti22 (by first | exact Rd.lit (by repeat (first | exact List.Mem.head _ | apply List.Mem.tail)) rfl | (repeat (first | assumption | exact Rd.fld (by assumption) 1 rfl | apply Rd.up))) rfl ?_
  refine TOps.move rfl rfl ?_
  refine TOps.indexAddr (off' := off + i * 3) rfl rfl Try.underlying22 ti102 (by omega) (by omega) (by simp) rfl ?_
  refine TOps.loadN rfl ti102 (by first | exact Rd.all (by repeat (first | exact List.Mem.head _ | apply List.Mem.tail)) | (repeat (first | assumption | apply Rd.up))) rfl rfl ?_
  refine TOps.alloc ti102 rfl (fun b5 => ?_)
  refine TOps.storeN rfl rfl ti102 rfl rfl (by repeat (first | exact Upd.here | apply Upd.there)) (by first | decide | (simp; done) | (simp; omega)) ?_
  refine TOps.hide (fun H2 l2 s2 r2 => ?_)
  replace hcells := hcells.le l2; replace hn := hn.le l2; replace r1 := r1.le l2; have l3 := l2.trans l1
  refine TOps.next ?_
  refine Tri.seq (Tri.region ?_)
  refine TOps.assign rfl rfl ?_
  refine TOps.assign rfl rfl ?_
  refine TOps.next ?_
  refine Tri.seqMid (X := Unit) (fun y => [(1, .int .i64 i), (2, .pointer (some ⟨b2, 0, none⟩)), (5, .pointer (some ⟨b5, 0, none⟩)), (6, .int .i64 (argsLo d.kind)), (7, .int .i64 (argsHi d.kind))]) (fun y => H2) (fun y => 0 ≤ d.kind ∧ d.kind ≤ 5) ?_ (fun y hmid => ?_)
  · skip
    refine Tri.seq (Tri.region ?_)
    refine TOps.field0 rfl Try.underlying102 rfl rfl ti3 rfl rfl rfl ?_
    refine TOps.load1 rfl ti3 (by first | exact Rd.lit (by repeat (first | exact List.Mem.head _ | apply List.Mem.tail)) rfl | (repeat (first | assumption | exact Rd.fld (by assumption) 0 rfl | apply Rd.up))) rfl ?_
    refine TOps.next ?_
    refine Tri.block ?_
    refine Tri.seq (Tri.region ?_)
    refine TOps.eqlI rfl rfl rfl ?_
    refine TOps.assign rfl rfl ?_
    refine TOps.next ?_
    refine Tri.cond rfl (fun hc1 => ?_) (fun hc1 => ?_)
    · try simp only [decide_eq_true_eq, decide_eq_false_iff_not, Bool.and_eq_true, Bool.or_eq_true, Bool.not_eq_true', Bool.and_eq_false_iff, Bool.or_eq_false_iff, Bool.not_eq_false', Int.not_lt, Int.not_le, ne_eq, Decidable.not_not, Option.isSome_iff_ne_none, Option.isNone_iff_eq_none] at hc1
      refine Tri.region ?_
      refine TOps.assign rfl rfl ?_
      refine TOps.assign rfl rfl ?_
      refine TOps.fin ?_
      refine Nrm.unB ?_
      refine Nrm.mid () (by omega) (by exact ⟨rfl, rfl, rfl, (by refine congrArg (fun z : Int => some (Value.int .i64 z)) ?_; unfold argsLo; (repeat' split) <;> first | rfl | (exfalso; omega)), (by refine congrArg (fun z : Int => some (Value.int .i64 z)) ?_; unfold argsHi; (repeat' split) <;> first | rfl | (exfalso; omega)), trivial⟩) (by repeat (first | exact Le.refl _ | assumption | apply Le.drop))
    try simp only [decide_eq_true_eq, decide_eq_false_iff_not, Bool.and_eq_true, Bool.or_eq_true, Bool.not_eq_true', Bool.and_eq_false_iff, Bool.or_eq_false_iff, Bool.not_eq_false', Int.not_lt, Int.not_le, ne_eq, Decidable.not_not, Option.isSome_iff_ne_none, Option.isNone_iff_eq_none] at hc1
    refine Tri.seq (Tri.region ?_)
    refine TOps.eqlI rfl rfl rfl ?_
    refine TOps.assign rfl rfl ?_
    refine TOps.next ?_
    refine Tri.cond rfl (fun hc2 => ?_) (fun hc2 => ?_)
    · try simp only [decide_eq_true_eq, decide_eq_false_iff_not, Bool.and_eq_true, Bool.or_eq_true, Bool.not_eq_true', Bool.and_eq_false_iff, Bool.or_eq_false_iff, Bool.not_eq_false', Int.not_lt, Int.not_le, ne_eq, Decidable.not_not, Option.isSome_iff_ne_none, Option.isNone_iff_eq_none] at hc2
      refine Tri.region ?_
      refine TOps.assign rfl rfl ?_
      refine TOps.fin ?_
      refine Nrm.unB ?_
      refine Nrm.mid () (by omega) (by exact ⟨rfl, rfl, rfl, (by refine congrArg (fun z : Int => some (Value.int .i64 z)) ?_; unfold argsLo; (repeat' split) <;> first | rfl | (exfalso; omega)), (by refine congrArg (fun z : Int => some (Value.int .i64 z)) ?_; unfold argsHi; (repeat' split) <;> first | rfl | (exfalso; omega)), trivial⟩) (by repeat (first | exact Le.refl _ | assumption | apply Le.drop))
    try simp only [decide_eq_true_eq, decide_eq_false_iff_not, Bool.and_eq_true, Bool.or_eq_true, Bool.not_eq_true', Bool.and_eq_false_iff, Bool.or_eq_false_iff, Bool.not_eq_false', Int.not_lt, Int.not_le, ne_eq, Decidable.not_not, Option.isSome_iff_ne_none, Option.isNone_iff_eq_none] at hc2
    refine Tri.seq ?_
    refine Tri.seq (Tri.region ?_)
    refine TOps.eqlI rfl rfl rfl ?_
    refine TOps.assign rfl rfl ?_
    refine TOps.next ?_
    refine Tri.cond rfl (fun hc3 => ?_) (fun hc3 => ?_)
    · try simp only [decide_eq_true_eq, decide_eq_false_iff_not, Bool.and_eq_true, Bool.or_eq_true, Bool.not_eq_true', Bool.and_eq_false_iff, Bool.or_eq_false_iff, Bool.not_eq_false', Int.not_lt, Int.not_le, ne_eq, Decidable.not_not, Option.isSome_iff_ne_none, Option.isNone_iff_eq_none] at hc3
      refine Tri.fin ?_
      refine Nrm.next ?_
      refine Tri.cond rfl (fun hc4 => ?_) (fun hc4 => ?_)
      · try simp only [decide_eq_true_eq, decide_eq_false_iff_not, Bool.and_eq_true, Bool.or_eq_true, Bool.not_eq_true', Bool.and_eq_false_iff, Bool.or_eq_false_iff, Bool.not_eq_false', Int.not_lt, Int.not_le, ne_eq, Decidable.not_not, Option.isSome_iff_ne_none, Option.isNone_iff_eq_none] at hc4
        refine Tri.fin ?_
        refine Nrm.unB ?_
        refine Nrm.mid () (by omega) (by exact ⟨rfl, rfl, rfl, (by refine congrArg (fun z : Int => some (Value.int .i64 z)) ?_; unfold argsLo; (repeat' split) <;> first | rfl | (exfalso; omega)), (by refine congrArg (fun z : Int => some (Value.int .i64 z)) ?_; unfold argsHi; (repeat' split) <;> first | rfl | (exfalso; omega)), trivial⟩) (by repeat (first | exact Le.refl _ | assumption | apply Le.drop))
      try simp only [decide_eq_true_eq, decide_eq_false_iff_not, Bool.and_eq_true, Bool.or_eq_true, Bool.not_eq_true', Bool.and_eq_false_iff, Bool.or_eq_false_iff, Bool.not_eq_false', Int.not_lt, Int.not_le, ne_eq, Decidable.not_not, Option.isSome_iff_ne_none, Option.isNone_iff_eq_none] at hc4
      refine Tri.seq (Tri.region ?_)
      refine TOps.assign rfl rfl ?_
      refine TOps.next ?_
      exfalso; omega
    try simp only [decide_eq_true_eq, decide_eq_false_iff_not, Bool.and_eq_true, Bool.or_eq_true, Bool.not_eq_true', Bool.and_eq_false_iff, Bool.or_eq_false_iff, Bool.not_eq_false', Int.not_lt, Int.not_le, ne_eq, Decidable.not_not, Option.isSome_iff_ne_none, Option.isNone_iff_eq_none] at hc3
    refine Tri.seq (Tri.region ?_)
    refine TOps.eqlI rfl rfl rfl ?_
    refine TOps.assign rfl rfl ?_
    refine TOps.next ?_
    refine Tri.cond rfl (fun hc5 => ?_) (fun hc5 => ?_)
    · try simp only [decide_eq_true_eq, decide_eq_false_iff_not, Bool.and_eq_true, Bool.or_eq_true, Bool.not_eq_true', Bool.and_eq_false_iff, Bool.or_eq_false_iff, Bool.not_eq_false', Int.not_lt, Int.not_le, ne_eq, Decidable.not_not, Option.isSome_iff_ne_none, Option.isNone_iff_eq_none] at hc5
      refine Tri.fin ?_
      refine Nrm.next ?_
      refine Tri.cond rfl (fun hc6 => ?_) (fun hc6 => ?_)
      · try simp only [decide_eq_true_eq, decide_eq_false_iff_not, Bool.and_eq_true, Bool.or_eq_true, Bool.not_eq_true', Bool.and_eq_false_iff, Bool.or_eq_false_iff, Bool.not_eq_false', Int.not_lt, Int.not_le, ne_eq, Decidable.not_not, Option.isSome_iff_ne_none, Option.isNone_iff_eq_none] at hc6
        refine Tri.fin ?_
        refine Nrm.unB ?_
        refine Nrm.mid () (by omega) (by exact ⟨rfl, rfl, rfl, (by refine congrArg (fun z : Int => some (Value.int .i64 z)) ?_; unfold argsLo; (repeat' split) <;> first | rfl | (exfalso; omega)), (by refine congrArg (fun z : Int => some (Value.int .i64 z)) ?_; unfold argsHi; (repeat' split) <;> first | rfl | (exfalso; omega)), trivial⟩) (by repeat (first | exact Le.refl _ | assumption | apply Le.drop))
      try simp only [decide_eq_true_eq, decide_eq_false_iff_not, Bool.and_eq_true, Bool.or_eq_true, Bool.not_eq_true', Bool.and_eq_false_iff, Bool.or_eq_false_iff, Bool.not_eq_false', Int.not_lt, Int.not_le, ne_eq, Decidable.not_not, Option.isSome_iff_ne_none, Option.isNone_iff_eq_none] at hc6
      refine Tri.seq (Tri.region ?_)
      refine TOps.assign rfl rfl ?_
      refine TOps.next ?_
      exfalso; omega
    try simp only [decide_eq_true_eq, decide_eq_false_iff_not, Bool.and_eq_true, Bool.or_eq_true, Bool.not_eq_true', Bool.and_eq_false_iff, Bool.or_eq_false_iff, Bool.not_eq_false', Int.not_lt, Int.not_le, ne_eq, Decidable.not_not, Option.isSome_iff_ne_none, Option.isNone_iff_eq_none] at hc5
    refine Tri.seq (Tri.region ?_)
    refine TOps.eqlI rfl rfl rfl ?_
    refine TOps.assign rfl rfl ?_
    refine TOps.next ?_
    refine Tri.cond rfl (fun hc7 => ?_) (fun hc7 => ?_)
    · try simp only [decide_eq_true_eq, decide_eq_false_iff_not, Bool.and_eq_true, Bool.or_eq_true, Bool.not_eq_true', Bool.and_eq_false_iff, Bool.or_eq_false_iff, Bool.not_eq_false', Int.not_lt, Int.not_le, ne_eq, Decidable.not_not, Option.isSome_iff_ne_none, Option.isNone_iff_eq_none] at hc7
      refine Tri.fin ?_
      refine Nrm.next ?_
      refine Tri.cond rfl (fun hc8 => ?_) (fun hc8 => ?_)
      · try simp only [decide_eq_true_eq, decide_eq_false_iff_not, Bool.and_eq_true, Bool.or_eq_true, Bool.not_eq_true', Bool.and_eq_false_iff, Bool.or_eq_false_iff, Bool.not_eq_false', Int.not_lt, Int.not_le, ne_eq, Decidable.not_not, Option.isSome_iff_ne_none, Option.isNone_iff_eq_none] at hc8
        refine Tri.fin ?_
        refine Nrm.unB ?_
        refine Nrm.mid () (by omega) (by exact ⟨rfl, rfl, rfl, (by refine congrArg (fun z : Int => some (Value.int .i64 z)) ?_; unfold argsLo; (repeat' split) <;> first | rfl | (exfalso; omega)), (by refine congrArg (fun z : Int => some (Value.int .i64 z)) ?_; unfold argsHi; (repeat' split) <;> first | rfl | (exfalso; omega)), trivial⟩) (by repeat (first | exact Le.refl _ | assumption | apply Le.drop))
      try simp only [decide_eq_true_eq, decide_eq_false_iff_not, Bool.and_eq_true, Bool.or_eq_true, Bool.not_eq_true', Bool.and_eq_false_iff, Bool.or_eq_false_iff, Bool.not_eq_false', Int.not_lt, Int.not_le, ne_eq, Decidable.not_not, Option.isSome_iff_ne_none, Option.isNone_iff_eq_none] at hc8
      refine Tri.seq (Tri.region ?_)
      refine TOps.assign rfl rfl ?_
      refine TOps.next ?_
      exfalso; omega
    try simp only [decide_eq_true_eq, decide_eq_false_iff_not, Bool.and_eq_true, Bool.or_eq_true, Bool.not_eq_true', Bool.and_eq_false_iff, Bool.or_eq_false_iff, Bool.not_eq_false', Int.not_lt, Int.not_le, ne_eq, Decidable.not_not, Option.isSome_iff_ne_none, Option.isNone_iff_eq_none] at hc7
    refine Tri.region ?_
    refine TOps.eqlI rfl rfl rfl ?_
    refine TOps.assign rfl rfl ?_
    refine TOps.fin ?_
    refine Nrm.next ?_
    refine Tri.cond rfl (fun hc9 => ?_) (fun hc9 => ?_)
    · try simp only [decide_eq_true_eq, decide_eq_false_iff_not, Bool.and_eq_true, Bool.or_eq_true, Bool.not_eq_true', Bool.and_eq_false_iff, Bool.or_eq_false_iff, Bool.not_eq_false', Int.not_lt, Int.not_le, ne_eq, Decidable.not_not, Option.isSome_iff_ne_none, Option.isNone_iff_eq_none] at hc9
      refine Tri.fin ?_
      refine Nrm.unB ?_
      refine Nrm.mid () (by omega) (by exact ⟨rfl, rfl, rfl, (by refine congrArg (fun z : Int => some (Value.int .i64 z)) ?_; unfold argsLo; (repeat' split) <;> first | rfl | (exfalso; omega)), (by refine congrArg (fun z : Int => some (Value.int .i64 z)) ?_; unfold argsHi; (repeat' split) <;> first | rfl | (exfalso; omega)), trivial⟩) (by repeat (first | exact Le.refl _ | assumption | apply Le.drop))
    try simp only [decide_eq_true_eq, decide_eq_false_iff_not, Bool.and_eq_true, Bool.or_eq_true, Bool.not_eq_true', Bool.and_eq_false_iff, Bool.or_eq_false_iff, Bool.not_eq_false', Int.not_lt, Int.not_le, ne_eq, Decidable.not_not, Option.isSome_iff_ne_none, Option.isNone_iff_eq_none] at hc9
    refine Tri.seq (Tri.region ?_)
    refine TOps.assign rfl rfl ?_
    refine TOps.next ?_
    refine Tri.ret1 (H' := H) Try.results43 (fun _ _ h => h) (.tmp rfl) l3 ⟨by unfold nodeErr; rw [if_pos (by omega)]; rfl, rfl⟩
  refine Tri.seq ?_
  refine Tri.seq (Tri.region ?_)
  first | refine TOps.fieldB 2 rfl Try.underlying102 rfl rfl ti53 rfl rfl rfl ?_ | refine TOps.fieldN 2 rfl Try.underlying102 rfl rfl ti53 rfl rfl rfl ?_
  refine TOps.load1 rfl ti53 (by first | exact Rd.lit (by repeat (first | exact List.Mem.head _ | apply List.Mem.tail)) rfl | (repeat (first | assumption | exact Rd.fld (by assumption) 2 rfl | apply Rd.up))) rfl ?_
  refine TOps.len rfl Try.underlying53 rfl ?_
  refine TOps.move rfl rfl ?_
  refine TOps.lss rfl rfl rfl ?_
  refine TOps.move rfl rfl ?_
  refine' TOps.orB 5 rfl rfl rfl rfl (fun hg13_5 => ?_) ?_; rotate_left
  · have hg13_5' := hg13_5
    try simp only [decide_eq_true_eq, decide_eq_false_iff_not, Bool.and_eq_true, Bool.or_eq_true, Bool.not_eq_true', Bool.and_eq_false_iff, Bool.or_eq_false_iff, Bool.not_eq_false', Int.not_lt, Int.not_le, ne_eq, Decidable.not_not] at hg13_5'
    refine TOps.strip 5 false rfl rfl hg13_5 rfl ?_
    first | refine TOps.fieldB 2 rfl Try.underlying102 rfl rfl ti53 rfl rfl rfl ?_ | refine TOps.fieldN 2 rfl Try.underlying102 rfl rfl ti53 rfl rfl rfl ?_
    refine TOps.load1 rfl ti53 (by first | exact Rd.lit (by repeat (first | exact List.Mem.head _ | apply List.Mem.tail)) rfl | (repeat (first | assumption | exact Rd.fld (by assumption) 2 rfl | apply Rd.up))) rfl ?_
    refine TOps.len rfl Try.underlying53 rfl ?_
    refine TOps.move rfl rfl ?_
    refine TOps.gtr rfl rfl rfl ?_
    refine TOps.blk rfl (by repeat (first | exact Ext.refl _ | refine Ext.cons rfl ?_)) (by repeat (first | exact Le.refl _ | apply Le.drop))
  refine TOps.next ?_
  refine Tri.cond rfl (fun hc10 => ?_) (fun hc10 => ?_)
  · try simp only [decide_eq_true_eq, decide_eq_false_iff_not, Bool.and_eq_true, Bool.or_eq_true, Bool.not_eq_true', Bool.and_eq_false_iff, Bool.or_eq_false_iff, Bool.not_eq_false', Int.not_lt, Int.not_le, ne_eq, Decidable.not_not, Option.isSome_iff_ne_none, Option.isNone_iff_eq_none] at hc10
    refine Tri.seq (Tri.region ?_)
    refine TOps.assign rfl rfl ?_
    refine TOps.next ?_
    refine Tri.ret1 (H' := H) Try.results43 (fun _ _ h => h) (.tmp rfl) l3 ⟨by unfold nodeErr; rw [if_neg (by omega), if_pos (by rw [argsB_lohi]; simp; omega)]; rfl, rfl⟩
  try simp only [decide_eq_true_eq, decide_eq_false_iff_not, Bool.and_eq_true, Bool.or_eq_true, Bool.not_eq_true', Bool.and_eq_false_iff, Bool.or_eq_false_iff, Bool.not_eq_false', Int.not_lt, Int.not_le, ne_eq, Decidable.not_not, Option.isSome_iff_ne_none, Option.isNone_iff_eq_none] at hc10
  have q1 : ¬ (d.kind < 0 ∨ 5 < d.kind) := by omega
  have q2 : argsB d.kind d.args.length = true := by rw [argsB_lohi]; simp; omega
  refine Tri.fin ?_
  refine Nrm.next ?_
  refine Tri.seq ?_
  refine Tri.seq (Tri.region ?_)
  first | refine TOps.fieldB 2 rfl Try.underlying102 rfl rfl ti53 rfl rfl rfl ?_ | refine TOps.fieldN 2 rfl Try.underlying102 rfl rfl ti53 rfl rfl rfl ?_
  refine TOps.load1 rfl ti53 (by first | exact Rd.lit (by repeat (first | exact List.Mem.head _ | apply List.Mem.tail)) rfl | (repeat (first | assumption | exact Rd.fld (by assumption) 2 rfl | apply Rd.up))) rfl ?_
  refine TOps.len rfl Try.underlying53 rfl ?_
  refine TOps.move rfl rfl ?_
  refine TOps.next ?_
  refine Tri.range (X := Unit) (fun x k => [(1, .int .i64 i), (2, .pointer (some ⟨b2, 0, none⟩)), (5, .pointer (some ⟨b5, 0, none⟩)), (39, slV aa ao d.args.length acap asp)]) (fun x k => H2) (fun x k => ∀ a ∈ d.args.take k, 0 ≤ a ∧ a < F.vars + i) (by omega) rfl rfl rfl (fun _ _ => ⟨rfl, rfl, rfl, rfl⟩) () (by simp) ⟨rfl, rfl, rfl, rfl, trivial⟩ (by repeat (first | exact Le.refl _ | assumption | apply Le.drop)) (fun k x hlt hp => ?_) (fun x ac wc hp hS hM => ?_)
  · skip
    obtain ⟨ab, rfl, rfl, ha⟩ := hn.args.at hlt
    have hab := d3 d.args[k] (List.getElem_mem hlt); unfold I64 at hab
    refine Tri.seq (Tri.region ?_)
    refine TOps.indexAddr (off' := ao + k) rfl rfl Try.underlying53 ti3 (by omega) (by omega) (by simp) rfl ?_
    refine TOps.load1 rfl ti3 (by first | exact Rd.lit (by repeat (first | exact List.Mem.head _ | apply List.Mem.tail)) rfl | (repeat (first | assumption | apply Rd.up))) rfl ?_
    refine TOps.assign rfl rfl ?_
    refine TOps.next ?_
    refine Tri.seq (Tri.region ?_)
    refine TOps.move rfl rfl ?_
    refine TOps.lss rfl rfl rfl ?_
    refine TOps.move rfl rfl ?_
    refine' TOps.orB 6 rfl rfl rfl rfl (fun hg18_2 => ?_) ?_; rotate_left
    · have hg18_2' := hg18_2
      try simp only [decide_eq_true_eq, decide_eq_false_iff_not, Bool.and_eq_true, Bool.or_eq_true, Bool.not_eq_true', Bool.and_eq_false_iff, Bool.or_eq_false_iff, Bool.not_eq_false', Int.not_lt, Int.not_le, ne_eq, Decidable.not_not] at hg18_2'
      refine TOps.strip 2 false rfl rfl hg18_2 rfl ?_
      refine TOps.move rfl rfl ?_
      refine TOps.field0 rfl Try.underlying24 rfl rfl ti3 rfl rfl rfl ?_
      refine TOps.load1 rfl ti3 (by first | exact Rd.lit (by repeat (first | exact List.Mem.head _ | apply List.Mem.tail)) rfl | (repeat (first | assumption | exact Rd.fld (by assumption) 0 rfl | apply Rd.up))) rfl ?_
      refine TOps.move rfl rfl ?_
      refine TOps.add rfl rfl (wrapI (by omega) (by omega)) rfl ?_
      refine TOps.geq rfl rfl rfl ?_
      refine TOps.blk rfl (by repeat (first | exact Ext.refl _ | refine Ext.cons rfl ?_)) (by repeat (first | exact Le.refl _ | apply Le.drop))
    refine TOps.next ?_
    refine Tri.cond rfl (fun hc11 => ?_) (fun hc11 => ?_)
    · try simp only [decide_eq_true_eq, decide_eq_false_iff_not, Bool.and_eq_true, Bool.or_eq_true, Bool.not_eq_true', Bool.and_eq_false_iff, Bool.or_eq_false_iff, Bool.not_eq_false', Int.not_lt, Int.not_le, ne_eq, Decidable.not_not, Option.isSome_iff_ne_none, Option.isNone_iff_eq_none] at hc11
      have q3 : (d.args.any fun a => decide (a < 0) || decide (F.vars + i ≤ a)) = true := List.any_eq_true.2 ⟨d.args[k], List.getElem_mem hlt, by simpa using hc11⟩
      refine Tri.seq (Tri.region ?_)
      refine TOps.assign rfl rfl ?_
      refine TOps.next ?_
      refine Tri.ret1 (H' := H) Try.results43 (fun _ _ h => h) (.tmp rfl) l3 ⟨by unfold nodeErr; rw [if_neg q1, if_neg (by simp [q2]), if_pos q3]; rfl, rfl⟩
    try simp only [decide_eq_true_eq, decide_eq_false_iff_not, Bool.and_eq_true, Bool.or_eq_true, Bool.not_eq_true', Bool.and_eq_false_iff, Bool.or_eq_false_iff, Bool.not_eq_false', Int.not_lt, Int.not_le, ne_eq, Decidable.not_not, Option.isSome_iff_ne_none, Option.isNone_iff_eq_none] at hc11
    refine Tri.fin ?_
    refine Nrm.body () (ball_take_succ hlt hp (by omega)) ⟨rfl, rfl, rfl, rfl, rfl, rfl, trivial⟩ (by repeat (first | exact Le.refl _ | assumption | apply Le.drop))
  have q3 : (d.args.any fun a => decide (a < 0) || decide (F.vars + i ≤ a)) = false := by
    rw [List.any_eq_false]; intro a ha; have := hp a (by simpa using ha); simp; omega
  have q4 : nodeErr F.vars i d = (if d.kind = 0 then (if d.k ≠ 0 ∧ d.k ≠ 1 then some 3 else none)
      else if d.kind = 4 then (if d.k < 1 ∨ (d.args.length : Int) < d.k then some 3 else none) else if d.k ≠ 0 then some 2 else none) := by
    unfold nodeErr; rw [if_neg q1, if_neg (by simp [q2]), if_neg (by simp [q3])]
  refine Nrm.of hS hM ?_
  refine Nrm.next ?_
  refine Tri.seq ?_
  refine Tri.seq (Tri.region ?_)
  refine TOps.field0 rfl Try.underlying102 rfl rfl ti3 rfl rfl rfl ?_
  refine TOps.load1 rfl ti3 (by first | exact Rd.lit (by repeat (first | exact List.Mem.head _ | apply List.Mem.tail)) rfl | (repeat (first | assumption | exact Rd.fld (by assumption) 0 rfl | apply Rd.up))) rfl ?_
  refine TOps.next ?_
  refine Tri.block ?_
  refine Tri.seq (Tri.region ?_)
  refine TOps.eqlI rfl rfl rfl ?_
  refine TOps.assign rfl rfl ?_
  refine TOps.next ?_
  refine Tri.cond rfl (fun hc12 => ?_) (fun hc12 => ?_)
  · try simp only [decide_eq_true_eq, decide_eq_false_iff_not, Bool.and_eq_true, Bool.or_eq_true, Bool.not_eq_true', Bool.and_eq_false_iff, Bool.or_eq_false_iff, Bool.not_eq_false', Int.not_lt, Int.not_le, ne_eq, Decidable.not_not, Option.isSome_iff_ne_none, Option.isNone_iff_eq_none] at hc12
    refine Tri.seq (Tri.region ?_)
    first | refine TOps.fieldB 1 rfl Try.underlying102 rfl rfl ti3 rfl rfl rfl ?_ | refine TOps.fieldN 1 rfl Try.underlying102 rfl rfl ti3 rfl rfl rfl ?_
    refine TOps.load1 rfl ti3 (by first | exact Rd.lit (by repeat (first | exact List.Mem.head _ | apply List.Mem.tail)) rfl | (repeat (first | assumption | exact Rd.fld (by assumption) 1 rfl | apply Rd.up))) rfl ?_
    refine TOps.neqI rfl rfl rfl ?_
    refine TOps.move rfl rfl ?_
    refine' TOps.andB 3 rfl rfl rfl rfl (fun hg25_3 => ?_) ?_; rotate_left
    · have hg25_3' := hg25_3
      try simp only [decide_eq_true_eq, decide_eq_false_iff_not, Bool.and_eq_true, Bool.or_eq_true, Bool.not_eq_true', Bool.and_eq_false_iff, Bool.or_eq_false_iff, Bool.not_eq_false', Int.not_lt, Int.not_le, ne_eq, Decidable.not_not] at hg25_3'
      refine TOps.strip 3 true rfl rfl hg25_3 rfl ?_
      first | refine TOps.fieldB 1 rfl Try.underlying102 rfl rfl ti3 rfl rfl rfl ?_ | refine TOps.fieldN 1 rfl Try.underlying102 rfl rfl ti3 rfl rfl rfl ?_
      refine TOps.load1 rfl ti3 (by first | exact Rd.lit (by repeat (first | exact List.Mem.head _ | apply List.Mem.tail)) rfl | (repeat (first | assumption | exact Rd.fld (by assumption) 1 rfl | apply Rd.up))) rfl ?_
      refine TOps.neqI rfl rfl rfl ?_
      refine TOps.blk rfl (by repeat (first | exact Ext.refl _ | refine Ext.cons rfl ?_)) (by repeat (first | exact Le.refl _ | apply Le.drop))
    refine TOps.next ?_
    refine Tri.cond rfl (fun hc13 => ?_) (fun hc13 => ?_)
    · try simp only [decide_eq_true_eq, decide_eq_false_iff_not, Bool.and_eq_true, Bool.or_eq_true, Bool.not_eq_true', Bool.and_eq_false_iff, Bool.or_eq_false_iff, Bool.not_eq_false', Int.not_lt, Int.not_le, ne_eq, Decidable.not_not, Option.isSome_iff_ne_none, Option.isNone_iff_eq_none] at hc13
      refine Tri.seq (Tri.region ?_)
      refine TOps.assign rfl rfl ?_
      refine TOps.next ?_
      refine Tri.ret1 (H' := H) Try.results43 (fun _ _ h => h) (.tmp rfl) l3 ⟨by rw [q4]; (repeat' split) <;> first | rfl | (exfalso; omega), rfl⟩
    try simp only [decide_eq_true_eq, decide_eq_false_iff_not, Bool.and_eq_true, Bool.or_eq_true, Bool.not_eq_true', Bool.and_eq_false_iff, Bool.or_eq_false_iff, Bool.not_eq_false', Int.not_lt, Int.not_le, ne_eq, Decidable.not_not, Option.isSome_iff_ne_none, Option.isNone_iff_eq_none] at hc13
    refine Tri.fin ?_
    refine Nrm.unB ?_
    refine Nrm.next ?_
    refine Tri.seq (Tri.region ?_)
    refine TOps.assign rfl rfl ?_
    refine TOps.next ?_
    refine Tri.ret1 (H' := H) Try.results43 (fun _ _ h => h) (.tmp rfl) l3 ⟨by rw [q4]; (repeat' split) <;> first | rfl | (exfalso; omega), rfl⟩
  try simp only [decide_eq_true_eq, decide_eq_false_iff_not, Bool.and_eq_true, Bool.or_eq_true, Bool.not_eq_true', Bool.and_eq_false_iff, Bool.or_eq_false_iff, Bool.not_eq_false', Int.not_lt, Int.not_le, ne_eq, Decidable.not_not, Option.isSome_iff_ne_none, Option.isNone_iff_eq_none] at hc12
  refine Tri.seq (Tri.region ?_)
  refine TOps.eqlI rfl rfl rfl ?_
  refine TOps.assign rfl rfl ?_
  refine TOps.next ?_
  refine Tri.cond rfl (fun hc14 => ?_) (fun hc14 => ?_)
  · try simp only [decide_eq_true_eq, decide_eq_false_iff_not, Bool.and_eq_true, Bool.or_eq_true, Bool.not_eq_true', Bool.and_eq_false_iff, Bool.or_eq_false_iff, Bool.not_eq_false', Int.not_lt, Int.not_le, ne_eq, Decidable.not_not, Option.isSome_iff_ne_none, Option.isNone_iff_eq_none] at hc14
    refine Tri.seq (Tri.region ?_)
    first | refine TOps.fieldB 1 rfl Try.underlying102 rfl rfl ti3 rfl rfl rfl ?_ | refine TOps.fieldN 1 rfl Try.underlying102 rfl rfl ti3 rfl rfl rfl ?_
    refine TOps.load1 rfl ti3 (by first | exact Rd.lit (by repeat (first | exact List.Mem.head _ | apply List.Mem.tail)) rfl | (repeat (first | assumption | exact Rd.fld (by assumption) 1 rfl | apply Rd.up))) rfl ?_
    refine TOps.lss rfl rfl rfl ?_
    refine TOps.move rfl rfl ?_
    refine' TOps.orB 6 rfl rfl rfl rfl (fun hg28_3 => ?_) ?_; rotate_left
    · have hg28_3' := hg28_3
      try simp only [decide_eq_true_eq, decide_eq_false_iff_not, Bool.and_eq_true, Bool.or_eq_true, Bool.not_eq_true', Bool.and_eq_false_iff, Bool.or_eq_false_iff, Bool.not_eq_false', Int.not_lt, Int.not_le, ne_eq, Decidable.not_not] at hg28_3'
      refine TOps.strip 3 false rfl rfl hg28_3 rfl ?_
      first | refine TOps.fieldB 1 rfl Try.underlying102 rfl rfl ti3 rfl rfl rfl ?_ | refine TOps.fieldN 1 rfl Try.underlying102 rfl rfl ti3 rfl rfl rfl ?_
      refine TOps.load1 rfl ti3 (by first | exact Rd.lit (by repeat (first | exact List.Mem.head _ | apply List.Mem.tail)) rfl | (repeat (first | assumption | exact Rd.fld (by assumption) 1 rfl | apply Rd.up))) rfl ?_
      first | refine TOps.fieldB 2 rfl Try.underlying102 rfl rfl ti53 rfl rfl rfl ?_ | refine TOps.fieldN 2 rfl Try.underlying102 rfl rfl ti53 rfl rfl rfl ?_
      refine TOps.load1 rfl ti53 (by first | exact Rd.lit (by repeat (first | exact List.Mem.head _ | apply List.Mem.tail)) rfl | (repeat (first | assumption | exact Rd.fld (by assumption) 2 rfl | apply Rd.up))) rfl ?_
      refine TOps.len rfl Try.underlying53 rfl ?_
      refine TOps.gtr rfl rfl rfl ?_
      refine TOps.blk rfl (by repeat (first | exact Ext.refl _ | refine Ext.cons rfl ?_)) (by repeat (first | exact Le.refl _ | apply Le.drop))
    refine TOps.next ?_
    refine Tri.cond rfl (fun hc15 => ?_) (fun hc15 => ?_)
    · try simp only [decide_eq_true_eq, decide_eq_false_iff_not, Bool.and_eq_true, Bool.or_eq_true, Bool.not_eq_true', Bool.and_eq_false_iff, Bool.or_eq_false_iff, Bool.not_eq_false', Int.not_lt, Int.not_le, ne_eq, Decidable.not_not, Option.isSome_iff_ne_none, Option.isNone_iff_eq_none] at hc15
      refine Tri.seq (Tri.region ?_)
      refine TOps.assign rfl rfl ?_
      refine TOps.next ?_
      refine Tri.ret1 (H' := H) Try.results43 (fun _ _ h => h) (.tmp rfl) l3 ⟨by rw [q4]; (repeat' split) <;> first | rfl | (exfalso; omega), rfl⟩
    try simp only [decide_eq_true_eq, decide_eq_false_iff_not, Bool.and_eq_true, Bool.or_eq_true, Bool.not_eq_true', Bool.and_eq_false_iff, Bool.or_eq_false_iff, Bool.not_eq_false', Int.not_lt, Int.not_le, ne_eq, Decidable.not_not, Option.isSome_iff_ne_none, Option.isNone_iff_eq_none] at hc15
    refine Tri.fin ?_
    refine Nrm.unB ?_
    refine Nrm.next ?_
    refine Tri.seq (Tri.region ?_)
    refine TOps.assign rfl rfl ?_
    refine TOps.next ?_
    refine Tri.ret1 (H' := H) Try.results43 (fun _ _ h => h) (.tmp rfl) l3 ⟨by rw [q4]; (repeat' split) <;> first | rfl | (exfalso; omega), rfl⟩
  try simp only [decide_eq_true_eq, decide_eq_false_iff_not, Bool.and_eq_true, Bool.or_eq_true, Bool.not_eq_true', Bool.and_eq_false_iff, Bool.or_eq_false_iff, Bool.not_eq_false', Int.not_lt, Int.not_le, ne_eq, Decidable.not_not, Option.isSome_iff_ne_none, Option.isNone_iff_eq_none] at hc14
  refine Tri.seq (Tri.region ?_)
  first | refine TOps.fieldB 1 rfl Try.underlying102 rfl rfl ti3 rfl rfl rfl ?_ | refine TOps.fieldN 1 rfl Try.underlying102 rfl rfl ti3 rfl rfl rfl ?_
  refine TOps.load1 rfl ti3 (by first | exact Rd.lit (by repeat (first | exact List.Mem.head _ | apply List.Mem.tail)) rfl | (repeat (first | assumption | exact Rd.fld (by assumption) 1 rfl | apply Rd.up))) rfl ?_
  refine TOps.neqI rfl rfl rfl ?_
  refine TOps.next ?_
  refine Tri.cond rfl (fun hc16 => ?_) (fun hc16 => ?_)
  · try simp only [decide_eq_true_eq, decide_eq_false_iff_not, Bool.and_eq_true, Bool.or_eq_true, Bool.not_eq_true', Bool.and_eq_false_iff, Bool.or_eq_false_iff, Bool.not_eq_false', Int.not_lt, Int.not_le, ne_eq, Decidable.not_not, Option.isSome_iff_ne_none, Option.isNone_iff_eq_none] at hc16
    refine Tri.seq (Tri.region ?_)
    refine TOps.assign rfl rfl ?_
    refine TOps.next ?_
    refine Tri.ret1 (H' := H) Try.results43 (fun _ _ h => h) (.tmp rfl) l3 ⟨by rw [q4]; (repeat' split) <;> first | rfl | (exfalso; omega), rfl⟩
  try simp only [decide_eq_true_eq, decide_eq_false_iff_not, Bool.and_eq_true, Bool.or_eq_true, Bool.not_eq_true', Bool.and_eq_false_iff, Bool.or_eq_false_iff, Bool.not_eq_false', Int.not_lt, Int.not_le, ne_eq, Decidable.not_not, Option.isSome_iff_ne_none, Option.isNone_iff_eq_none] at hc16
  refine Tri.fin ?_
  refine Nrm.unB ?_
  refine Nrm.next ?_
  refine Tri.seq (Tri.region ?_)
  refine TOps.assign rfl rfl ?_
  refine TOps.next ?_
  refine Tri.ret1 (H' := H) Try.results43 (fun _ _ h => h) (.tmp rfl) l3 ⟨by rw [q4]; (repeat' split) <;> first | rfl | (exfalso; omega), rfl⟩
theorem rcheck_g {H : List Ent} {fv : Value} {F : Fm} (hF : RF H fv F) (hk : F.ok) :
    Gives Try.prog 19 [fv] H (R1 (.int .i64 (F.err.getD 0)) H) := by
  have hF0 := hF
  obtain ⟨a, off, cap, nsp, rfl, hN⟩ := hF
  have h1 := hk.1; have h2 := hk.2.1; unfold I64 at h1
  have h3 := hk.2.2.2
  refine Gives.enter Try.func19 rfl (by exact Try.ntmps19) rfl ?_
  refine Tri.seq (Tri.region ?_)
  refine TOps.boxN rfl ti24 rfl rfl (fun b1 => ?_)
  refine TOps.hide (fun H1 l1 s1 r1 => ?_)
  replace hF0 := hF0.le l1
  refine TOps.assign rfl rfl ?_
  refine TOps.next ?_
  refine Tri.seq ?_
  refine Tri.seq (Tri.region ?_)
  refine TOps.field0 rfl Try.underlying24 rfl rfl ti3 rfl rfl rfl ?_
  refine TOps.load1 rfl ti3 (by first | exact Rd.lit (by repeat (first | exact List.Mem.head _ | apply List.Mem.tail)) rfl | (repeat (first | assumption | exact Rd.fld (by assumption) 0 rfl | apply Rd.up))) rfl ?_
  refine TOps.lss rfl rfl rfl ?_
  refine TOps.move rfl rfl ?_
  refine' TOps.orB 3 rfl rfl rfl rfl (fun hg1_3 => ?_) ?_; rotate_left
  · have hg1_3' := hg1_3
    try simp only [decide_eq_true_eq, decide_eq_false_iff_not, Bool.and_eq_true, Bool.or_eq_true, Bool.not_eq_true', Bool.and_eq_false_iff, Bool.or_eq_false_iff, Bool.not_eq_false', Int.not_lt, Int.not_le, ne_eq, Decidable.not_not] at hg1_3'
    refine TOps.strip 3 false rfl rfl hg1_3 rfl ?_
    refine TOps.field0 rfl Try.underlying24 rfl rfl ti3 rfl rfl rfl ?_
    refine TOps.load1 rfl ti3 (by first | exact Rd.lit (by repeat (first | exact List.Mem.head _ | apply List.Mem.tail)) rfl | (repeat (first | assumption | exact Rd.fld (by assumption) 0 rfl | apply Rd.up))) rfl ?_
    refine TOps.gtr rfl rfl rfl ?_
    refine TOps.blk rfl (by repeat (first | exact Ext.refl _ | refine Ext.cons rfl ?_)) (by repeat (first | exact Le.refl _ | apply Le.drop))
  refine TOps.next ?_
  refine Tri.cond rfl (fun hc1 => ?_) (fun hc1 => ?_)
  · try simp only [decide_eq_true_eq, decide_eq_false_iff_not, Bool.and_eq_true, Bool.or_eq_true, Bool.not_eq_true', Bool.and_eq_false_iff, Bool.or_eq_false_iff, Bool.not_eq_false', Int.not_lt, Int.not_le, ne_eq, Decidable.not_not, Option.isSome_iff_ne_none, Option.isNone_iff_eq_none] at hc1
    refine Tri.seq (Tri.region ?_)
    refine TOps.assign rfl rfl ?_
    refine TOps.next ?_
    refine Tri.ret1 (H' := H) Try.results19 (fun _ _ h => h) (.tmp rfl) l1 ⟨by unfold Fm.err; first | (rw [if_pos (by omega)]; rfl) | (rw [if_neg q1, if_pos (by omega)]; rfl) | (rw [if_neg q1, if_neg q2, q3] <;> simp [*]), rfl⟩
  try simp only [decide_eq_true_eq, decide_eq_false_iff_not, Bool.and_eq_true, Bool.or_eq_true, Bool.not_eq_true', Bool.and_eq_false_iff, Bool.or_eq_false_iff, Bool.not_eq_false', Int.not_lt, Int.not_le, ne_eq, Decidable.not_not, Option.isSome_iff_ne_none, Option.isNone_iff_eq_none] at hc1
  have q1 : ¬ (F.vars < 0 ∨ 24 < F.vars) := by omega
  refine Tri.fin ?_
  refine Nrm.next ?_
  refine Tri.seq ?_
  refine Tri.seq (Tri.region ?_)
  first | refine TOps.fieldB 1 rfl Try.underlying24 rfl rfl ti22 rfl rfl rfl ?_ | refine TOps.fieldN 1 rfl Try.underlying24 rfl rfl ti22 rfl rfl rfl ?_
  refine TOps.load1 rfl ti22 (by first | exact Rd.lit (by repeat (first | exact List.Mem.head _ | apply List.Mem.tail)) rfl | (repeat (first | assumption | exact Rd.fld (by assumption) 1 rfl | apply Rd.up))) rfl ?_
  refine TOps.len rfl Try.underlying22 rfl ?_
  refine TOps.gtr rfl rfl rfl ?_
  refine TOps.next ?_
  refine Tri.cond rfl (fun hc2 => ?_) (fun hc2 => ?_)
  · try simp only [decide_eq_true_eq, decide_eq_false_iff_not, Bool.and_eq_true, Bool.or_eq_true, Bool.not_eq_true', Bool.and_eq_false_iff, Bool.or_eq_false_iff, Bool.not_eq_false', Int.not_lt, Int.not_le, ne_eq, Decidable.not_not, Option.isSome_iff_ne_none, Option.isNone_iff_eq_none] at hc2
    refine Tri.seq (Tri.region ?_)
    refine TOps.assign rfl rfl ?_
    refine TOps.next ?_
    refine Tri.ret1 (H' := H) Try.results19 (fun _ _ h => h) (.tmp rfl) l1 ⟨by unfold Fm.err; first | (rw [if_pos (by omega)]; rfl) | (rw [if_neg q1, if_pos (by omega)]; rfl) | (rw [if_neg q1, if_neg q2, q3] <;> simp [*]), rfl⟩
  try simp only [decide_eq_true_eq, decide_eq_false_iff_not, Bool.and_eq_true, Bool.or_eq_true, Bool.not_eq_true', Bool.and_eq_false_iff, Bool.or_eq_false_iff, Bool.not_eq_false', Int.not_lt, Int.not_le, ne_eq, Decidable.not_not, Option.isSome_iff_ne_none, Option.isNone_iff_eq_none] at hc2
  have q2 : ¬ (128 < F.nodes.length) := by omega
  refine Tri.fin ?_
  refine Nrm.next ?_
  refine Tri.seq ?_
  refine Tri.seq (Tri.region ?_)
  first | refine TOps.fieldB 1 rfl Try.underlying24 rfl rfl ti22 rfl rfl rfl ?_ | refine TOps.fieldN 1 rfl Try.underlying24 rfl rfl ti22 rfl rfl rfl ?_
  refine TOps.load1 rfl ti22 (by first | exact Rd.lit (by repeat (first | exact List.Mem.head _ | apply List.Mem.tail)) rfl | (repeat (first | assumption | exact Rd.fld (by assumption) 1 rfl | apply Rd.up))) rfl ?_
  refine TOps.len rfl Try.underlying22 rfl ?_
  refine TOps.move rfl rfl ?_
  refine TOps.next ?_
  refine Tri.range (X := Unit) (fun x k => [(1, .pointer (some ⟨b1, 0, none⟩))]) (fun x k => H1) (fun x k => ∀ j (h : j < F.nodes.length), j < k → nodeErr F.vars j F.nodes[j] = none) (by omega) rfl rfl rfl (fun _ _ => ⟨rfl, rfl, rfl, rfl⟩) () (by intro j h h0; omega) ⟨rfl, trivial⟩ (by repeat (first | exact Le.refl _ | assumption | apply Le.drop)) (fun k x hlt hp => ?_) (fun x ac wc hp hS hM => ?_)
  · skip
    refine Tri.seq (Tri.region ?_)
    refine TOps.move rfl rfl ?_
    refine TOps.assign rfl rfl ?_
    refine TOps.next ?_
    refine Tri.seq (Tri.region ?_)
    refine TOps.loadN rfl ti24 (by first | exact Rd.all (by repeat (first | exact List.Mem.head _ | apply List.Mem.tail)) | (repeat (first | assumption | apply Rd.up))) rfl rfl ?_
    refine TOps.move rfl rfl ?_
    refine TOps.call (vs := [_, _]) Try.call43 ⟨rfl, rfl, trivial⟩ (rnode_g hF0 hk (by omega) (by omega) k hlt) rfl ?_
    rintro _ _ ⟨rfl, rfl⟩
    refine TOps.assign rfl rfl ?_
    refine TOps.next ?_
    refine Tri.seq (Tri.region ?_)
    refine TOps.move rfl rfl ?_
    refine TOps.neqI rfl rfl rfl ?_
    refine TOps.next ?_
    refine Tri.cond rfl (fun hc3 => ?_) (fun hc3 => ?_)
    · try simp only [decide_eq_true_eq, decide_eq_false_iff_not, Bool.and_eq_true, Bool.or_eq_true, Bool.not_eq_true', Bool.and_eq_false_iff, Bool.or_eq_false_iff, Bool.not_eq_false', Int.not_lt, Int.not_le, ne_eq, Decidable.not_not, Option.isSome_iff_ne_none, Option.isNone_iff_eq_none] at hc3
      have hx : nodeErr F.vars k F.nodes[k] ≠ none := by intro h; rw [h] at hc3; exact hc3 rfl
      obtain ⟨e, he⟩ := Option.ne_none_iff_exists'.1 hx
      have q3 := nodesErr_some F.vars e F.nodes 0 k hlt (fun j hj hjk => by simpa using hp j hj hjk) (by simpa using he)
      rw [he]
      refine Tri.seq (Tri.region ?_)
      refine TOps.move rfl rfl ?_
      refine TOps.assign rfl rfl ?_
      refine TOps.next ?_
      refine Tri.ret1 (H' := H) Try.results19 (fun _ _ h => h) (.tmp rfl) l1 ⟨by unfold Fm.err; first | (rw [if_pos (by omega)]; rfl) | (rw [if_neg q1, if_pos (by omega)]; rfl) | (rw [if_neg q1, if_neg q2, q3] <;> simp [*]), rfl⟩
    try simp only [decide_eq_true_eq, decide_eq_false_iff_not, Bool.and_eq_true, Bool.or_eq_true, Bool.not_eq_true', Bool.and_eq_false_iff, Bool.or_eq_false_iff, Bool.not_eq_false', Int.not_lt, Int.not_le, ne_eq, Decidable.not_not, Option.isSome_iff_ne_none, Option.isNone_iff_eq_none] at hc3
    have hx : nodeErr F.vars k F.nodes[k] = none := by
      cases h : nodeErr F.vars k F.nodes[k] with
      | none => rfl
      | some e => rw [h] at hc3; exact absurd hc3 (nodeErr_ne_zero h)
    refine Tri.fin ?_
    refine Nrm.body () (by intro j h hj; rcases Nat.lt_succ_iff_lt_or_eq.1 hj with hj | rfl; exact hp j h hj; exact hx) ⟨rfl, rfl, rfl, trivial⟩ (by repeat (first | exact Le.refl _ | assumption | apply Le.drop))
  have q3 := nodesErr_none F.vars F.nodes 0 (fun j hj => by simpa using hp j hj hj)
  refine Nrm.of hS hM ?_
  refine Nrm.next ?_
  refine Tri.seq ?_
  refine Tri.seq (Tri.region ?_)
  refine TOps.loadN rfl ti24 (by first | exact Rd.all (by repeat (first | exact List.Mem.head _ | apply List.Mem.tail)) | (repeat (first | assumption | apply Rd.up))) rfl rfl ?_
  first | refine TOps.fieldB 2 rfl Try.underlying24 rfl rfl ti3 rfl rfl rfl ?_ | refine TOps.fieldN 2 rfl Try.underlying24 rfl rfl ti3 rfl rfl rfl ?_
  refine TOps.load1 rfl ti3 (by first | exact Rd.lit (by repeat (first | exact List.Mem.head _ | apply List.Mem.tail)) rfl | (repeat (first | assumption | exact Rd.fld (by assumption) 2 rfl | apply Rd.up))) rfl ?_
  refine TOps.call (vs := [_, _]) Try.call44 ⟨rfl, rfl, trivial⟩ (rvalid_g hF0 hk _ h2) rfl ?_
  rintro _ _ ⟨rfl, rfl⟩
  refine TOps.not rfl rfl ?_
  refine TOps.next ?_
  refine Tri.cond rfl (fun hc4 => ?_) (fun hc4 => ?_)
  · try simp only [decide_eq_true_eq, decide_eq_false_iff_not, Bool.and_eq_true, Bool.or_eq_true, Bool.not_eq_true', Bool.and_eq_false_iff, Bool.or_eq_false_iff, Bool.not_eq_false', Int.not_lt, Int.not_le, ne_eq, Decidable.not_not, Option.isSome_iff_ne_none, Option.isNone_iff_eq_none] at hc4
    refine Tri.seq (Tri.region ?_)
    refine TOps.assign rfl rfl ?_
    refine TOps.next ?_
    refine Tri.ret1 (H' := H) Try.results19 (fun _ _ h => h) (.tmp rfl) l1 ⟨by unfold Fm.err; first | (rw [if_pos (by omega)]; rfl) | (rw [if_neg q1, if_pos (by omega)]; rfl) | (rw [if_neg q1, if_neg q2, q3] <;> simp [*]), rfl⟩
  try simp only [decide_eq_true_eq, decide_eq_false_iff_not, Bool.and_eq_true, Bool.or_eq_true, Bool.not_eq_true', Bool.and_eq_false_iff, Bool.or_eq_false_iff, Bool.not_eq_false', Int.not_lt, Int.not_le, ne_eq, Decidable.not_not, Option.isSome_iff_ne_none, Option.isNone_iff_eq_none] at hc4
  refine Tri.fin ?_
  refine Nrm.next ?_
  refine Tri.seq (Tri.region ?_)
  refine TOps.assign rfl rfl ?_
  refine TOps.next ?_
  refine Tri.ret1 (H' := H) Try.results19 (fun _ _ h => h) (.tmp rfl) l1 ⟨by unfold Fm.err; first | (rw [if_pos (by omega)]; rfl) | (rw [if_neg q1, if_pos (by omega)]; rfl) | (rw [if_neg q1, if_neg q2, q3] <;> simp [*]), rfl⟩
end Go.Proofs
namespace Go.Proofs
open Go.GL
set_option linter.unusedVariables false
set_option linter.unusedSimpArgs false
theorem is_g {H : List Ent} (o : Option Int) (code : Int) : Gives Try.prog 35 [errV 73 o, .int .i64 code] H (R1 (.bool (decide (o = some code))) H) := by
  refine Gives.enter Try.func35 rfl (by exact Try.ntmps35) rfl ?_
  refine Tri.seq (Tri.region ?_)
  refine TOps.assign rfl rfl ?_
  refine TOps.next ?_
  refine Tri.seq (Tri.region ?_)
  refine TOps.move rfl rfl ?_
  refine TOps.typeAssertErr (zv := .nilIface) rfl Try.underlying73 rfl (zeroInt (by kernel_rfl)) rfl ?_
  refine TOps.move rfl rfl ?_
  refine TOps.extract rfl rfl rfl ?_
  refine TOps.extract rfl rfl rfl ?_
  refine TOps.assign rfl rfl ?_
  refine TOps.assign rfl rfl ?_
  refine TOps.next ?_
  refine Tri.seq (Tri.region ?_)
  refine TOps.move rfl rfl ?_
  refine TOps.move rfl rfl ?_
  refine' TOps.andB 3 rfl rfl rfl rfl (fun hg2_1 => ?_) ?_; rotate_left
  · have hg2_1' := hg2_1
    try simp only [decide_eq_true_eq, decide_eq_false_iff_not, Bool.and_eq_true, Bool.or_eq_true, Bool.not_eq_true', Bool.and_eq_false_iff, Bool.or_eq_false_iff, Bool.not_eq_false', Int.not_lt, Int.not_le, ne_eq, Decidable.not_not] at hg2_1'
    refine TOps.strip 1 true rfl rfl hg2_1 rfl ?_
    refine TOps.move rfl rfl ?_
    refine TOps.move rfl rfl ?_
    refine TOps.eqlI rfl rfl rfl ?_
    refine TOps.blk rfl (by repeat (first | exact Ext.refl _ | refine Ext.cons rfl ?_)) (by repeat (first | exact Le.refl _ | apply Le.drop))
  refine TOps.assign rfl rfl ?_
  refine TOps.next ?_
  refine Tri.ret1 (H' := H) Try.results35 (fun _ _ h => h) (.tmp rfl) (Le.refl _) ⟨by cases o <;> simp, rfl⟩
end Go.Proofs
namespace Go.Proofs
open Go.GL
set_option linter.unusedVariables false
set_option linter.unusedSimpArgs false
end Go.Proofs
namespace Go.Proofs
open Go.GL
set_option linter.unusedVariables false
set_option linter.unusedSimpArgs false
end Go.Proofs
namespace Go.Proofs
open Go.GL
set_option linter.unusedVariables false
set_option linter.unusedSimpArgs false
end Go.Proofs
namespace Go.Proofs
open Go.GL
set_option linter.unusedVariables false
set_option linter.unusedSimpArgs false
end Go.Proofs
namespace Go.Proofs
open Go.GL
set_option linter.unusedVariables false
set_option linter.unusedSimpArgs false
theorem size_g {H : List Ent} {fv : Value} {F : Fm} (hF : RF H fv F) (hk : F.ok) :
    Gives Try.prog 46 [fv] H (R1 (.tuple (List.toArray [.int .i64 (bif F.err.isNone then (F.sizeN : Int) else 0), .int .i64 (bif F.err.isNone then (F.sizeA : Int) else 0), errV 73 F.err])) H) := by
  have hF0 := hF
  obtain ⟨a, off, cap, nsp, rfl, hN⟩ := hF
  refine Gives.enter Try.func46 rfl (by exact Try.ntmps46) rfl ?_
  refine Tri.seq (Tri.region ?_)
  refine TOps.boxN rfl ti24 rfl rfl (fun b1 => ?_)
  refine TOps.hide (fun H1 l1 s1 r1 => ?_)
  replace hF0 := hF0.le l1; replace hN := hN.le l1
  refine TOps.assign rfl rfl ?_
  refine TOps.assign rfl rfl ?_
  refine TOps.assign rfl rfl ?_
  refine TOps.next ?_
  refine Tri.seq ?_
  refine Tri.seq (Tri.region ?_)
  refine TOps.loadN rfl ti24 (by first | exact Rd.all (by repeat (first | exact List.Mem.head _ | apply List.Mem.tail)) | (repeat (first | assumption | apply Rd.up))) rfl rfl ?_
  refine TOps.call (vs := [_]) Try.call30 ⟨rfl, trivial⟩ (check_g hF0 hk) rfl ?_
  rintro _ _ ⟨rfl, rfl⟩
  refine TOps.assign rfl rfl ?_
  refine TOps.next ?_
  refine Tri.seq (Tri.region ?_)
  refine TOps.move rfl rfl ?_
  refine TOps.neqNil rfl Try.underlying34 rfl ?_
  refine TOps.next ?_
  refine Tri.cond rfl (fun hc1 => ?_) (fun hc1 => ?_)
  · try simp only [decide_eq_true_eq, decide_eq_false_iff_not, Bool.and_eq_true, Bool.or_eq_true, Bool.not_eq_true', Bool.and_eq_false_iff, Bool.or_eq_false_iff, Bool.not_eq_false', Int.not_lt, Int.not_le, ne_eq, Decidable.not_not, Option.isSome_iff_ne_none, Option.isNone_iff_eq_none] at hc1
    obtain ⟨e, he⟩ := Option.ne_none_iff_exists'.1 hc1
    refine Tri.seq (Tri.region ?_)
    refine TOps.move rfl rfl ?_
    refine TOps.assign rfl rfl ?_
    refine TOps.assign rfl rfl ?_
    refine TOps.assign rfl rfl ?_
    refine TOps.next ?_
    refine Tri.ret3 (H' := H) Try.results46 (fun _ _ h => h) (.tmp rfl) (.tmp rfl) (.tmp rfl) l1 ⟨by rw [he]; rfl, rfl⟩
  try simp only [decide_eq_true_eq, decide_eq_false_iff_not, Bool.and_eq_true, Bool.or_eq_true, Bool.not_eq_true', Bool.and_eq_false_iff, Bool.or_eq_false_iff, Bool.not_eq_false', Int.not_lt, Int.not_le, ne_eq, Decidable.not_not, Option.isSome_iff_ne_none, Option.isNone_iff_eq_none] at hc1
  have he : F.err = none := by simpa using hc1
  have hg := (Fm.good_iff F).1 he
  have g0 := hg.v0; have g1 := hg.v1; have g2 := hg.n1
  obtain ⟨v, hv⟩ := Int.eq_ofNat_of_zero_le g0
  have hvn : F.vars.toNat = v := by omega
  have hbl := F.below_length
  rw [hv] at r1 hF0 ⊢
  refine Tri.fin ?_
  refine Nrm.next ?_
  refine Tri.seq ?_
  refine Tri.seq ?_
  have hle : ∀ (x : Nat × Nat) (c : Nat), Le (match c with | 0 => H1 | _ + 1 => row (some x.1) 4 1 x.2 (bools F.below) :: H1) H1 := by
    intro x c; cases c; exact Le.refl _; exact Le.drop (Le.refl _)
  refine Tri.drawN (X := Nat × Nat) rfl [(1, .pointer (some ⟨b1, 0, none⟩)), (2, .int .i64 0), (3, .int .i64 0)] [] (fun x i => ([.agg (List.toArray [.int .i64 v, slV a off F.nodes.length cap nsp, .int .i64 F.top]), slV (some x.1) 0 (F.vars.toNat + F.nodes.length) x.2, .pointer (some ⟨b1, 0, none⟩), .int .i64 v, slV (some x.1) (bif x.2 == v then 0 else 0 + v * 1) (F.vars.toNat + F.nodes.length - v) (x.2 - v), .int .i64 ((F.vars.toNat + F.nodes.length - v : Nat) : Int), .int .i64 0] : List Value).getD i undef) (fun x c => match c with | 0 => H1 | _ + 1 => row (some x.1) 4 1 x.2 (bools F.below) :: H1) [1] (0, 0) [4, 5, 6] rfl rfl ⟨rfl, rfl, rfl, trivial⟩ trivial (by repeat (first | exact Le.refl _ | assumption | apply Le.drop)) ?_ (fun x => ?_)
  · refine ⟨?_, ?_, ?_, ?_, ?_, ?_, ?_, trivial⟩
    · refine ⟨fun x S c he hw hd hc hcu hm _ => ?_, trivial⟩
      refine TOps.loadN (he _ _ rfl) ti24 (Rd.le (by first | exact Rd.all (by repeat (first | exact List.Mem.head _ | apply List.Mem.tail)) | (repeat (first | assumption | apply Rd.up))) (hle x c)) rfl rfl ?_
      exact TOps.fd x rfl rfl
    · refine ⟨fun x S c he hw hd hc hcu hm _ => ?_, trivial⟩
      obtain ⟨h0, -⟩ := hd
      obtain rfl : c = 0 := hm rfl
      refine TOps.call (vs := [_]) Try.call73 ⟨h0, trivial⟩ (below_g hF0 hk hg) rfl ?_
      rintro _ _ ⟨b, cp, rfl, rfl⟩
      refine TOps.fin (Nrm.draw (b, cp) ?_ rfl (Le.refl _))
      intro j hj hcj
      rcases j with _|_|_|_|_|_|_|j <;> first | rfl | exact absurd rfl hj | exact absurd hcj (by decide)
    · refine ⟨fun x S c he hw hd hc hcu hm _ => ?_, trivial⟩
      refine TOps.field0 (he _ _ rfl) Try.underlying24 rfl rfl ti3 rfl rfl rfl ?_
      exact TOps.fd x rfl rfl
    · refine ⟨fun x S c he hw hd hc hcu hm _ => ?_, trivial⟩
      obtain ⟨h2, -⟩ := hd
      refine TOps.load1 h2 ti3 (Rd.le (by first | exact Rd.lit (by repeat (first | exact List.Mem.head _ | apply List.Mem.tail)) rfl | (repeat (first | assumption | exact Rd.fld (by assumption) 0 rfl | apply Rd.up))) (hle x c)) rfl ?_
      exact TOps.fd x rfl rfl
    · refine ⟨fun x S c he hw hd hc hcu hm _ => ?_, trivial⟩
      obtain ⟨h1, h3, -⟩ := hd
      obtain ⟨c', rfl⟩ : ∃ c', c = c' + 1 := ⟨c - 1, by have : 1 ≤ c := hc; omega⟩
      refine TOps.rowCap (List.Mem.head _) (fun hcap => ?_)
      have hcap' : v ≤ x.2 := by rw [List.length_map, hbl] at hcap; omega
      refine TOps.sliceLo h1 h3 Try.underlying77 ti4 (by omega) rfl ?_
      exact TOps.fd x rfl rfl
    · refine ⟨fun x S c he hw hd hc hcu hm _ => ?_, trivial⟩
      obtain ⟨h4, -⟩ := hd
      obtain ⟨c', rfl⟩ : ∃ c', c = c' + 1 := ⟨c - 1, by have : 1 ≤ c := hc; omega⟩
      refine TOps.len h4 Try.underlying77 rfl ?_
      exact TOps.fd x rfl rfl
    · refine ⟨fun x S c he hw hd hc hcu hm _ => ?_, trivial⟩
      refine TOps.move rfl rfl ?_
      exact TOps.fd x rfl rfl
  refine Nrm.next ?_
  refine Tri.range (X := Unit) (fun y k => [(1, .pointer (some ⟨b1, 0, none⟩)), (2, .int .i64 (szN F.below v k : Nat)), (3, .int .i64 (szA F.below v F.nodes k : Nat)), (17, slV (some x.1) (bif x.2 == v then 0 else 0 + v * 1) (F.vars.toNat + F.nodes.length - v) (x.2 - v))]) (fun y k => row (some x.1) 4 1 x.2 (bools F.below) :: H1) (fun y k => True) (by omega) rfl rfl rfl (fun _ _ => ⟨rfl, rfl, rfl, rfl⟩) () trivial ⟨rfl, rfl, rfl, rfl, trivial⟩ (by repeat (first | exact Le.refl _ | assumption | apply Le.drop)) (fun k y hlt hp => ?_) (fun y ac wc hp hS hM => ?_)
  · skip
    have hk2 : k < F.nodes.length := by omega
    obtain ⟨nb, aa, ao, acap, asp, rfl, rfl, hn⟩ := hN.at hk2
    have hfi := hg.fits k hk2
    have hcells := hn.cells
    have hal := hfi.len
    have q1 := szN_le F.below v k
    have q2 := szA_le (m := F.below) (v := v) (nodes := F.nodes) (fun i hi => (hg.fits i hi).len) k (by omega)
    refine Tri.seq (Tri.region ?_)
    refine TOps.move rfl rfl ?_
    refine TOps.rowCap (List.Mem.head _) (fun hcap => ?_)
    have hoff : (bif x.2 == v then 0 else 0 + v * 1) = v := by
      rw [List.length_map, hbl] at hcap
      rw [show (x.2 == v) = false from beq_eq_false_iff_ne.2 (by omega)]; simp
    refine TOps.indexAddr (off' := v + k) rfl rfl Try.underlying77 ti4 (by omega) (by omega) (by rw [hoff]; simp) rfl ?_
    refine TOps.load1 (v := .bool (F.below.getD (v + k) false)) rfl ti4 (Rd.lit (List.Mem.head _) (bools_get (by omega))) rfl ?_
    refine TOps.assign rfl rfl ?_
    refine TOps.assign rfl rfl ?_
    refine TOps.next ?_
    refine Tri.seq (Tri.region ?_)
    refine TOps.move rfl rfl ?_
    refine TOps.next ?_
    refine Tri.cond rfl (fun hc2 => ?_) (fun hc2 => ?_)
    · try simp only [decide_eq_true_eq, decide_eq_false_iff_not, Bool.and_eq_true, Bool.or_eq_true, Bool.not_eq_true', Bool.and_eq_false_iff, Bool.or_eq_false_iff, Bool.not_eq_false', Int.not_lt, Int.not_le, ne_eq, Decidable.not_not, Option.isSome_iff_ne_none, Option.isNone_iff_eq_none] at hc2
      refine Tri.seq (Tri.region ?_)
      refine TOps.move rfl rfl ?_
      refine TOps.add rfl rfl (wrapI (by omega) (by omega)) rfl ?_
      refine TOps.assign rfl rfl ?_
      refine TOps.next ?_
      refine Tri.region ?_
      refine TOps.move rfl rfl ?_
      first | refine TOps.fieldB 1 rfl Try.underlying24 rfl rfl ti22 rfl rfl rfl ?_ | refine TOps.fieldN 1 rfl Try.underlying24 rfl rfl ti22 rfl rfl rfl ?_
      refine TOps.load1 rfl ti22 (by first | exact Rd.lit (by repeat (first | exact List.Mem.head _ | apply List.Mem.tail)) rfl | (repeat (first | assumption | exact Rd.fld (by assumption) 1 rfl | apply Rd.up))) rfl ?_
      refine TOps.move rfl rfl ?_
      refine TOps.indexAddr (off' := off + k * 3) rfl rfl Try.underlying22 ti102 (by omega) (by omega) (by simp) rfl ?_
      refine TOps.fieldN 2 rfl Try.underlying102 rfl rfl ti53 rfl rfl rfl ?_
      refine TOps.load1 rfl ti53 (Rd.up (hcells.part 2 rfl)) rfl ?_
      refine TOps.len rfl Try.underlying53 rfl ?_
      refine TOps.add rfl rfl (wrapI (by omega) (by omega)) rfl ?_
      refine TOps.assign rfl rfl ?_
      refine TOps.fin ?_
      refine Nrm.body () trivial ⟨rfl, rfl, rfl, (by refine congrArg (fun z : Int => some (Value.int .i64 z)) ?_; simp only [szN, hc2]; simp), (by refine congrArg (fun z : Int => some (Value.int .i64 z)) ?_; simp only [szA, hc2]; simp [hk2]), rfl, trivial⟩ (by repeat (first | exact Le.refl _ | assumption | apply Le.drop))
    try simp only [decide_eq_true_eq, decide_eq_false_iff_not, Bool.and_eq_true, Bool.or_eq_true, Bool.not_eq_true', Bool.and_eq_false_iff, Bool.or_eq_false_iff, Bool.not_eq_false', Int.not_lt, Int.not_le, ne_eq, Decidable.not_not, Option.isSome_iff_ne_none, Option.isNone_iff_eq_none] at hc2
    refine Tri.fin ?_
    refine Nrm.body () trivial ⟨rfl, rfl, rfl, (by refine congrArg (fun z : Int => some (Value.int .i64 z)) ?_; simp only [szN, hc2]; simp), (by refine congrArg (fun z : Int => some (Value.int .i64 z)) ?_; simp only [szA, hc2]; simp [hk2]), rfl, trivial⟩ (by repeat (first | exact Le.refl _ | assumption | apply Le.drop))
  rw [show F.vars.toNat + F.nodes.length - v = F.nodes.length by omega] at hS
  refine Nrm.of hS hM ?_
  refine Nrm.next ?_
  refine Tri.seq (Tri.region ?_)
  refine TOps.move rfl rfl ?_
  refine TOps.move rfl rfl ?_
  refine TOps.assign rfl rfl ?_
  refine TOps.assign rfl rfl ?_
  refine TOps.assign rfl rfl ?_
  refine TOps.next ?_
  refine Tri.ret3 (H' := H) Try.results46 (fun _ _ h => h) (.tmp rfl) (.tmp rfl) (.tmp rfl) (Le.drop l1) ⟨by rw [he]; unfold Fm.sizeN Fm.sizeA; rw [hvn]; rfl, rfl⟩
end Go.Proofs
namespace Go.Proofs
open Go.GL
set_option linter.unusedVariables false
set_option linter.unusedSimpArgs false
end Go.Proofs
namespace Go.Proofs
open Go.GL
set_option linter.unusedVariables false
set_option linter.unusedSimpArgs false
end Go.Proofs
namespace Go.Proofs
open Go.GL
set_option linter.unusedVariables false
set_option linter.unusedSimpArgs false
theorem trim_g {H : List Ent} {fv : Value} {F : Fm} (hF : RF H fv F) (hk : F.ok) :
    Gives Try.prog 48 [fv] H (NewFE 73 (bif F.err.isNone then F.trim else Fm.zero) F.err H) := by
  have hF0 := hF
  obtain ⟨a, off, cap, nsp, rfl, hN⟩ := hF
  refine Gives.enter Try.func48 rfl (by exact Try.ntmps48) rfl ?_
  refine Tri.seq (Tri.region ?_)
  refine TOps.boxN rfl ti24 rfl rfl (fun b1 => ?_)
  refine TOps.hide (fun H1 l1 s1 r1 => ?_)
  replace hF0 := hF0.le l1; replace hN := hN.le l1
  refine TOps.alloc ti24 rfl (fun b2 => ?_)
  refine TOps.assign rfl rfl ?_
  refine TOps.next ?_
  refine Tri.seq ?_
  refine Tri.seq (Tri.region ?_)
  refine TOps.loadN rfl ti24 (by first | exact Rd.all (by repeat (first | exact List.Mem.head _ | apply List.Mem.tail)) | (repeat (first | assumption | apply Rd.up))) rfl rfl ?_
  refine TOps.call (vs := [_]) Try.call30 ⟨rfl, trivial⟩ (check_g (hF0.le (Le.drop (Le.refl _))) hk) rfl ?_
  rintro _ _ ⟨rfl, rfl⟩
  refine TOps.assign rfl rfl ?_
  refine TOps.next ?_
  refine Tri.seq (Tri.region ?_)
  refine TOps.move rfl rfl ?_
  refine TOps.neqNil rfl Try.underlying34 rfl ?_
  refine TOps.next ?_
  refine Tri.cond rfl (fun hc1 => ?_) (fun hc1 => ?_)
  · try simp only [decide_eq_true_eq, decide_eq_false_iff_not, Bool.and_eq_true, Bool.or_eq_true, Bool.not_eq_true', Bool.and_eq_false_iff, Bool.or_eq_false_iff, Bool.not_eq_false', Int.not_lt, Int.not_le, ne_eq, Decidable.not_not, Option.isSome_iff_ne_none, Option.isNone_iff_eq_none] at hc1
    obtain ⟨e, he⟩ := Option.ne_none_iff_exists'.1 hc1
    refine Tri.seq (Tri.region ?_)
    refine TOps.buildStruct (vs := []) (xs := [_, _, _]) [(0, 1), (1, 1), (2, 1)] Try.underlying24 ti24 (fun w => by simp) trivial rfl rfl ?_
    refine TOps.move rfl rfl ?_
    refine TOps.storeN rfl rfl ti24 rfl rfl (by repeat (first | exact Upd.here | apply Upd.there)) (by first | decide | (simp; done) | (simp; omega)) ?_
    refine TOps.assign rfl rfl ?_
    refine TOps.next ?_
    refine Tri.ret2 (H' := _) Try.results48 (fun _ _ h => h) (.cellN rfl rfl ti24 (Rd.all (by repeat (first | exact List.Mem.head _ | apply List.Mem.tail))) rfl) (.tmp rfl) (Le.refl _) ⟨_, by rw [he], Le.drop l1, List.Sublist.cons _ s1, ?_⟩
    rw [he]; exact ⟨none, 0, 0, none, rfl, .inl rfl⟩
  try simp only [decide_eq_true_eq, decide_eq_false_iff_not, Bool.and_eq_true, Bool.or_eq_true, Bool.not_eq_true', Bool.and_eq_false_iff, Bool.or_eq_false_iff, Bool.not_eq_false', Int.not_lt, Int.not_le, ne_eq, Decidable.not_not, Option.isSome_iff_ne_none, Option.isNone_iff_eq_none] at hc1
  have he : F.err = none := by simpa using hc1
  have hg := (Fm.good_iff F).1 he
  have g0 := hg.v0; have g1 := hg.v1; have g2 := hg.n1; have gt := hg.topLt
  obtain ⟨v, hv⟩ := Int.eq_ofNat_of_zero_le g0
  have hvn : F.vars.toNat = v := by omega
  have hbl := F.below_length
  have hbd : ∀ k j, (F.trS k).1.getD j 0 ≤ v + k := fun k j => by rw [← hvn]; exact trS_bound k j
  have hle : ∀ k, (F.trS k).2.length ≤ k := fun k => trS_le k
  have hln : ∀ k, (F.trS k).1.length = v + F.nodes.length := fun k => by rw [← hvn]; exact trS_length k
  rw [hv] at r1 hF0 ⊢
  refine Tri.fin ?_
  refine Nrm.next ?_
  refine Tri.seq (Tri.region ?_)
  refine TOps.field0 rfl Try.underlying24 rfl rfl ti3 rfl rfl rfl ?_
  refine TOps.load1 rfl ti3 (by first | exact Rd.lit (by repeat (first | exact List.Mem.head _ | apply List.Mem.tail)) rfl | (repeat (first | assumption | exact Rd.fld (by assumption) 0 rfl | apply Rd.up))) rfl ?_
  refine TOps.buildStruct (vs := [(0, _)]) (xs := [_, _, _]) [(0, 1), (1, 1), (2, 1)] Try.underlying24 ti24 (fun w => by simp) ⟨rfl, rfl, trivial⟩ rfl rfl ?_
  refine TOps.alloc ti24 rfl (fun b5 => ?_)
  refine TOps.storeN rfl rfl ti24 rfl rfl (by repeat (first | exact Upd.here | apply Upd.there)) (by first | decide | (simp; done) | (simp; omega)) ?_
  refine TOps.next ?_
  refine Tri.seq (Tri.region ?_)
  refine TOps.field0 rfl Try.underlying24 rfl rfl ti3 rfl rfl rfl ?_
  refine TOps.load1 rfl ti3 (by first | exact Rd.lit (by repeat (first | exact List.Mem.head _ | apply List.Mem.tail)) rfl | (repeat (first | assumption | exact Rd.fld (by assumption) 0 rfl | apply Rd.up))) rfl ?_
  first | refine TOps.fieldB 1 rfl Try.underlying24 rfl rfl ti22 rfl rfl rfl ?_ | refine TOps.fieldN 1 rfl Try.underlying24 rfl rfl ti22 rfl rfl rfl ?_
  refine TOps.load1 rfl ti22 (by first | exact Rd.lit (by repeat (first | exact List.Mem.head _ | apply List.Mem.tail)) rfl | (repeat (first | assumption | exact Rd.fld (by assumption) 1 rfl | apply Rd.up))) rfl ?_
  refine TOps.len rfl Try.underlying22 rfl ?_
  refine TOps.add (r := ((v + F.nodes.length : Nat) : Int)) rfl rfl (by rw [wrapI (by omega) (by omega)]; omega) rfl ?_
  refine TOps.make1 rfl rfl Try.underlying53 ti3 (by omega) (by omega) (by omega) rfl (fun b29 => ?_)
  refine TOps.assign rfl rfl ?_
  refine TOps.next ?_
  refine Tri.seq ?_
  refine Tri.seq (Tri.region ?_)
  refine TOps.field0 rfl Try.underlying24 rfl rfl ti3 rfl rfl rfl ?_
  refine TOps.load1 rfl ti3 (by first | exact Rd.lit (by repeat (first | exact List.Mem.head _ | apply List.Mem.tail)) rfl | (repeat (first | assumption | exact Rd.fld (by assumption) 0 rfl | apply Rd.up))) rfl ?_
  refine TOps.move rfl rfl ?_
  refine TOps.next ?_
  refine Tri.range (X := Unit) (fun x k => [(1, .pointer (some ⟨b1, 0, none⟩)), (2, .pointer (some ⟨b2, 0, none⟩)), (5, .pointer (some ⟨b5, 0, none⟩)), (6, slV (some b29) 0 (v + F.nodes.length) (v + F.nodes.length))]) (fun x k => row (some b29) 3 1 (v + F.nodes.length) (nats (List.range k ++ List.replicate (v + F.nodes.length - k) 0)) :: row (some b5) 24 3 1 [.int .i64 v, slV none 0 0 0, .int .i64 0] :: row (some b2) 24 3 1 [.int .i64 0, slV none 0 0 0, .int .i64 0] :: H1) (fun x k => True) (by omega) rfl rfl rfl (fun _ _ => ⟨rfl, rfl, rfl, rfl⟩) () trivial ⟨rfl, rfl, rfl, rfl, trivial⟩ (Sp.le (by repeat (first | exact Sp.refl _ | exact Sp.sub (by assumption) | refine Sp.cons (by repeat (first | exact Pick.here | exact Pick.row (by simp) | apply Pick.there)) ?_ | exact Sp.nil | apply Sp.skip))) (fun k x hlt hp => ?_) (fun x ac wc hp hS hM => ?_)
  · skip
    refine Tri.seq (Tri.region ?_)
    refine TOps.move rfl rfl ?_
    refine TOps.assign rfl rfl ?_
    refine TOps.next ?_
    refine Tri.region ?_
    refine TOps.move rfl rfl ?_
    refine TOps.move rfl rfl ?_
    refine TOps.move rfl rfl ?_
    refine TOps.indexAddr (off' := k) rfl rfl Try.underlying53 ti3 (by omega) (by omega) (by simp) rfl ?_
    refine TOps.store1 rfl rfl ti3 rfl rfl (by repeat (first | exact Upd.here | apply Upd.there)) (by first | decide | (simp; done) | (simp; omega)) ?_
    refine TOps.fin ?_
    refine Nrm.body () trivial ⟨rfl, rfl, rfl, rfl, rfl, rfl, trivial⟩ (Le.rowEq (by rw [← nats_set, setRange hlt]))
  have hz : nats (List.range v ++ List.replicate (v + F.nodes.length - v) 0) = nats (F.trS 0).1 := by unfold Fm.trS trS; rw [hvn]; simp
  rw [hz] at hM
  refine Nrm.of hS hM ?_
  refine Nrm.next ?_
  refine Tri.seq ?_
  refine Tri.seq ?_
  obtain ⟨H0, hH0⟩ : ∃ H0, H0 = row (some b29) 3 1 (v + F.nodes.length) (nats (F.trS 0).1) :: row (some b5) 24 3 1 [.int .i64 v, slV none 0 0 0, .int .i64 0] :: row (some b2) 24 3 1 [.int .i64 0, slV none 0 0 0, .int .i64 0] :: H1 := ⟨_, rfl⟩
  have l0 : Le H0 H1 := by rw [hH0]; exact Le.drop (Le.drop (Le.drop (Le.refl _)))
  have hll : ∀ (x : Nat × Nat) (c : Nat), Le (match c with | 0 => H0 | _ + 1 => row (some x.1) 4 1 x.2 (bools F.below) :: H0) H1 := by
    intro x c; cases c; exact l0; exact Le.drop l0
  refine Tri.drawX (X := Nat × Nat) rfl [(1, .pointer (some ⟨b1, 0, none⟩)), (2, .pointer (some ⟨b2, 0, none⟩)), (5, .pointer (some ⟨b5, 0, none⟩)), (6, slV (some b29) 0 (v + F.nodes.length) (v + F.nodes.length))] [] (fun x => [_, slV (some x.1) 0 (F.vars.toNat + F.nodes.length) x.2, _, _, slV (some x.1) (bif x.2 == v then 0 else 0 + v * 1) (F.vars.toNat + F.nodes.length - v) (x.2 - v), _, _]) (fun x c => match c with | 0 => H0 | _ + 1 => row (some x.1) 4 1 x.2 (bools F.below) :: H0) [1] (0, 0) [4, 5, 6] rfl rfl ⟨rfl, rfl, rfl, rfl, trivial⟩ trivial (by subst hH0; exact Le.refl _) (by
    refine ⟨?_, ?_, ?_, ?_, ?_, ?_, ?_, trivial⟩
    · refine ⟨fun x S c he hw hd hc hcu hm _ => ?_, trivial⟩
      refine TOps.loadN (he _ _ rfl) ti24 (Rd.le (by first | exact Rd.all (by repeat (first | exact List.Mem.head _ | apply List.Mem.tail)) | (repeat (first | assumption | apply Rd.up))) (hll x c)) rfl rfl ?_
      exact TOps.fd x rfl rfl
    · refine ⟨fun x S c he hw hd hc hcu hm _ => ?_, trivial⟩
      obtain ⟨h0, -⟩ := hd
      obtain rfl : c = 0 := hm rfl
      refine TOps.call (vs := [_]) Try.call73 ⟨h0, trivial⟩ (below_g (hF0.le l0) hk hg) rfl ?_
      rintro _ _ ⟨b, cp, rfl, rfl⟩
      refine TOps.fin (Nrm.draw (b, cp) ?_ rfl (Le.refl _))
      intro j hj hcj
      rcases j with _|_|_|_|_|_|_|j <;> first | rfl | exact absurd rfl hj | exact absurd hcj (by decide)
    · refine ⟨fun x S c he hw hd hc hcu hm _ => ?_, trivial⟩
      refine TOps.field0 (he _ _ rfl) Try.underlying24 rfl rfl ti3 rfl rfl rfl ?_
      exact TOps.fd x rfl rfl
    · refine ⟨fun x S c he hw hd hc hcu hm _ => ?_, trivial⟩
      obtain ⟨h2, -⟩ := hd
      refine TOps.load1 h2 ti3 (Rd.le (by first | exact Rd.lit (by repeat (first | exact List.Mem.head _ | apply List.Mem.tail)) rfl | (repeat (first | assumption | exact Rd.fld (by assumption) 0 rfl | apply Rd.up))) (hll x c)) rfl ?_
      exact TOps.fd x rfl rfl
    · refine ⟨fun x S c he hw hd hc hcu hm _ => ?_, trivial⟩
      obtain ⟨h1, h3, -⟩ := hd
      obtain ⟨c', rfl⟩ : ∃ c', c = c' + 1 := ⟨c - 1, by have : 1 ≤ c := hc; omega⟩
      refine TOps.rowCap (List.Mem.head _) (fun hcap => ?_)
      have hcap' : v ≤ x.2 := by rw [List.length_map, hbl] at hcap; omega
      refine TOps.sliceLo h1 h3 Try.underlying77 ti4 (by omega) rfl ?_
      exact TOps.fd x rfl rfl
    · refine ⟨fun x S c he hw hd hc hcu hm _ => ?_, trivial⟩
      obtain ⟨h4, -⟩ := hd
      obtain ⟨c', rfl⟩ : ∃ c', c = c' + 1 := ⟨c - 1, by have : 1 ≤ c := hc; omega⟩
      refine TOps.len h4 Try.underlying77 rfl ?_
      exact TOps.fd x rfl rfl
    · refine ⟨fun x S c he hw hd hc hcu hm _ => ?_, trivial⟩
      refine TOps.move rfl rfl ?_
      exact TOps.fd x rfl rfl
    ) (fun m => ?_)
  subst hH0
  refine Nrm.rowCap (List.Mem.head _) (fun hcap => ?_)
  rw [List.length_map, hbl] at hcap
  have r2 : Rd (row (some m.1) 4 1 m.2 (bools F.below) :: H1) m.1 0 (bools F.below) := Rd.all (List.Mem.head _)
  refine Nrm.next ?_
  refine Tri.range (X := (Option Nat × Nat) × List SA × List Ent) (fun z k => [(1, .pointer (some ⟨b1, 0, none⟩)), (2, .pointer (some ⟨b2, 0, none⟩)), (5, .pointer (some ⟨b5, 0, none⟩)), (6, slV (some b29) 0 (v + F.nodes.length) (v + F.nodes.length)), (44, slV (some m.1) (bif m.2 == v then 0 else 0 + v * 1) (F.vars.toNat + F.nodes.length - v) (m.2 - v))]) (fun z k => row (some b5) 24 3 1 [.int .i64 v, slV z.1.1 0 (F.trS k).2.length z.1.2, .int .i64 0] :: row z.1.1 102 3 z.1.2 (nsCells (F.trS k).2 z.2.1) :: row (some b29) 3 1 (v + F.nodes.length) (nats (F.trS k).1) :: row (some b2) 24 3 1 [.int .i64 0, slV none 0 0 0, .int .i64 0] :: z.2.2) (fun z k => Le z.2.2 (row (some m.1) 4 1 m.2 (bools F.below) :: H1) ∧ (row (some m.1) 4 1 m.2 (bools F.below) :: H1).Sublist z.2.2 ∧ ArgsIn z.2.2 (F.trS k).2 z.2.1 ∧ ((F.trS k).2 ≠ [] → ∃ b, z.1.1 = some b)) (by omega) rfl rfl rfl (fun _ _ => ⟨rfl, rfl, rfl, rfl⟩) ((none, 0), [], row (some m.1) 4 1 m.2 (bools F.below) :: H1) ⟨Le.refl _, List.Sublist.refl _, ArgsIn.nil, fun h => absurd rfl h⟩ ⟨rfl, rfl, rfl, rfl, rfl, trivial⟩ (Le.addNil.trans (Sp.le (by repeat (first | exact Sp.refl _ | exact Sp.sub (by assumption) | refine Sp.cons (by repeat (first | exact Pick.here | apply Pick.there)) ?_ | exact Sp.nil | apply Sp.skip)))) (fun k z hlt hp => ?_) (fun z ac wc hp hS hM => ?_)
  · skip
    obtain ⟨⟨oa, ocap⟩, qs, H3⟩ := z
    obtain ⟨hp1, hp2, hp3, hp4⟩ := hp
    dsimp only at hp1 hp2 hp3 hp4 ⊢
    have hk2 : k < F.nodes.length := by omega
    obtain ⟨nb, aa, ao, acap, asp, rfl, rfl, hn⟩ := hN.at hk2
    have hfi := hg.fits k hk2
    have hcells := hn.cells
    have hal := hfi.len
    have lp := hp1.trans (Le.drop (Le.refl _))
    replace hcells := hcells.le lp; replace hn := hn.le lp
    have r1' := r1.le lp; have r2' := r2.le hp1
    have hlk := hle k; have hlnk := hln k
    have hoff : (bif m.2 == v then 0 else 0 + v * 1) = v := by rw [show (m.2 == v) = false from beq_eq_false_iff_ne.2 (by omega)]; simp
    have hst : F.trS (k + 1) = (bif F.below.getD (v + k) false then ((F.trS k).1.set (v + k) (v + (F.trS k).2.length), (F.trS k).2 ++ [trN (F.trS k).1 F.nodes[k]]) else F.trS k) := by
      unfold Fm.trS; rw [← hvn, trS, show F.nodes.getD k ⟨0, 0, []⟩ = F.nodes[k] from by simp [hk2]]
    refine Tri.seq (Tri.region ?_)
    refine TOps.move rfl rfl ?_
    refine TOps.indexAddr (off' := v + k) rfl rfl Try.underlying77 ti4 (by omega) (by omega) (by rw [hoff]; simp) rfl ?_
    refine TOps.load1 (v := .bool (F.below.getD (v + k) false)) rfl ti4 (Rd.up (Rd.up (Rd.up (Rd.up (by have := r2'.part (v + k) (bools_get (by omega)); rwa [Nat.zero_add] at this))))) rfl ?_
    refine TOps.assign rfl rfl ?_
    refine TOps.assign rfl rfl ?_
    refine TOps.next ?_
    refine Tri.seq ?_
    refine Tri.seq (Tri.region ?_)
    refine TOps.move rfl rfl ?_
    refine TOps.not rfl rfl ?_
    refine TOps.next ?_
    refine Tri.cond rfl (fun hc2 => ?_) (fun hc2 => ?_)
    · try simp only [decide_eq_true_eq, decide_eq_false_iff_not, Bool.and_eq_true, Bool.or_eq_true, Bool.not_eq_true', Bool.and_eq_false_iff, Bool.or_eq_false_iff, Bool.not_eq_false', Int.not_lt, Int.not_le, ne_eq, Decidable.not_not, Option.isSome_iff_ne_none, Option.isNone_iff_eq_none] at hc2
      refine Tri.exitTo ?_
      repeat (with_reducible first | refine ExitTo.blk ?_ | refine ExitTo.blkNe rfl ?_ | refine ExitTo.body ?_ | refine ExitTo.brk rfl ?_ | refine ExitTo.bodyNe rfl rfl ?_ | refine ExitTo.seq ?_ | refine ExitTo.loop ?_)
      have hst' : F.trS (k + 1) = F.trS k := by rw [hst, hc2]; rfl
      refine Nrm.body ((oa, ocap), qs, H3) (by rw [hst']; exact ⟨hp1, hp2, hp3, hp4⟩) ⟨rfl, rfl, rfl, rfl, rfl, rfl, rfl, trivial⟩ (by rw [hst']; exact (Sp.le (by repeat (first | exact Sp.refl _ | exact Sp.sub (by assumption) | refine Sp.cons (by repeat (first | exact Pick.here | apply Pick.there)) ?_ | exact Sp.nil | apply Sp.skip))))
    try simp only [decide_eq_true_eq, decide_eq_false_iff_not, Bool.and_eq_true, Bool.or_eq_true, Bool.not_eq_true', Bool.and_eq_false_iff, Bool.or_eq_false_iff, Bool.not_eq_false', Int.not_lt, Int.not_le, ne_eq, Decidable.not_not, Option.isSome_iff_ne_none, Option.isNone_iff_eq_none] at hc2
    refine Tri.fin ?_
    refine Nrm.next ?_
    refine Tri.seq (Tri.region ?_)
    first | refine TOps.fieldB 1 rfl Try.underlying24 rfl rfl ti22 rfl rfl rfl ?_ | refine TOps.fieldN 1 rfl Try.underlying24 rfl rfl ti22 rfl rfl rfl ?_
    refine TOps.load1 rfl ti22 (by first | exact Rd.lit (by repeat (first | exact List.Mem.head _ | apply List.Mem.tail)) rfl | (repeat (first | assumption | exact Rd.fld (by assumption) 1 rfl | apply Rd.up))) rfl ?_
    refine TOps.move rfl rfl ?_
    refine TOps.indexAddr (off' := off + k * 3) rfl rfl Try.underlying22 ti102 (by omega) (by omega) (by simp) rfl ?_
    refine TOps.loadN rfl ti102 (by first | exact Rd.all (by repeat (first | exact List.Mem.head _ | apply List.Mem.tail)) | (repeat (first | assumption | apply Rd.up))) rfl rfl ?_
    refine TOps.alloc ti102 rfl (fun b10 => ?_)
    refine TOps.storeN rfl rfl ti102 rfl rfl (by repeat (first | exact Upd.here | apply Upd.there)) (by first | decide | (simp; done) | (simp; omega)) ?_
    refine TOps.next ?_
    refine Tri.seq (Tri.region ?_)
    refine TOps.field0 rfl Try.underlying102 rfl rfl ti3 rfl rfl rfl ?_
    refine TOps.load1 rfl ti3 (by first | exact Rd.lit (by repeat (first | exact List.Mem.head _ | apply List.Mem.tail)) rfl | (repeat (first | assumption | exact Rd.fld (by assumption) 0 rfl | apply Rd.up))) rfl ?_
    first | refine TOps.fieldB 1 rfl Try.underlying102 rfl rfl ti3 rfl rfl rfl ?_ | refine TOps.fieldN 1 rfl Try.underlying102 rfl rfl ti3 rfl rfl rfl ?_
    refine TOps.load1 rfl ti3 (by first | exact Rd.lit (by repeat (first | exact List.Mem.head _ | apply List.Mem.tail)) rfl | (repeat (first | assumption | exact Rd.fld (by assumption) 1 rfl | apply Rd.up))) rfl ?_
    refine TOps.buildStruct (vs := [(0, _), (1, _)]) (xs := [_, _, _]) [(0, 1), (1, 1), (2, 1)] Try.underlying102 ti102 (fun w => by simp) ⟨rfl, rfl, rfl, rfl, trivial⟩ rfl rfl ?_
    refine TOps.alloc ti102 rfl (fun b11 => ?_)
    refine TOps.storeN rfl rfl ti102 rfl rfl (by repeat (first | exact Upd.here | apply Upd.there)) (by first | decide | (simp; done) | (simp; omega)) ?_
    refine TOps.next ?_
    refine Tri.seq ?_
    refine Tri.seq (Tri.region ?_)
    first | refine TOps.fieldB 2 rfl Try.underlying102 rfl rfl ti53 rfl rfl rfl ?_ | refine TOps.fieldN 2 rfl Try.underlying102 rfl rfl ti53 rfl rfl rfl ?_
    refine TOps.load1 rfl ti53 (by first | exact Rd.lit (by repeat (first | exact List.Mem.head _ | apply List.Mem.tail)) rfl | (repeat (first | assumption | exact Rd.fld (by assumption) 2 rfl | apply Rd.up))) rfl ?_
    refine TOps.len rfl Try.underlying53 rfl ?_
    refine TOps.move rfl rfl ?_
    refine TOps.next ?_
    refine Tri.range (X := Option Nat × Nat) (fun y j => [(1, .pointer (some ⟨b1, 0, none⟩)), (2, .pointer (some ⟨b2, 0, none⟩)), (5, .pointer (some ⟨b5, 0, none⟩)), (6, slV (some b29) 0 (v + F.nodes.length) (v + F.nodes.length)), (44, slV (some m.1) (bif m.2 == v then 0 else 0 + v * 1) (F.vars.toNat + F.nodes.length - v) (m.2 - v)), (45, .int .i64 ((F.vars.toNat + F.nodes.length - v : Nat) : Int)), (46, .int .i64 k), (8, .int .i64 k), (11, .pointer (some ⟨b11, 0, none⟩)), (64, slV aa ao F.nodes[k].args.length acap asp)]) (fun y j => row (some b11) 102 3 1 [.int .i64 F.nodes[k].kind, .int .i64 F.nodes[k].k, slV y.1 0 j y.2] :: row y.1 3 1 y.2 (ints (trA (F.trS k).1 (F.nodes[k].args.take j))) :: row (some b5) 24 3 1 [.int .i64 v, slV oa 0 (F.trS k).2.length ocap, .int .i64 0] :: row oa 102 3 ocap (nsCells (F.trS k).2 qs) :: row (some b29) 3 1 (v + F.nodes.length) (nats (F.trS k).1) :: row (some b2) 24 3 1 [.int .i64 0, slV none 0 0 0, .int .i64 0] :: H3) (fun y j => j ≠ 0 → ∃ b, y.1 = some b) (by omega) rfl rfl rfl (fun _ _ => ⟨rfl, rfl, rfl, rfl⟩) (none, 0) (fun h => absurd rfl h) ⟨rfl, rfl, rfl, rfl, rfl, rfl, rfl, rfl, rfl, rfl, trivial⟩ (Le.addNil.trans (Sp.le (by repeat (first | exact Sp.refl _ | exact Sp.sub (by assumption) | refine Sp.cons (by repeat (first | exact Pick.here | apply Pick.there)) ?_ | exact Sp.nil | apply Sp.skip)))) (fun j y hltj hpj => ?_) (fun y ac wc hpj hS hM => ?_)
    · skip
      obtain ⟨ab, rfl, rfl, ha⟩ := hn.args.at hltj
      have hb := hfi.args _ (List.getElem_mem hltj)
      refine Tri.seq (Tri.region ?_)
      refine TOps.indexAddr (off' := ao + j) rfl rfl Try.underlying53 ti3 (by omega) (by omega) (by simp) rfl ?_
      refine TOps.load1 rfl ti3 (by first | exact Rd.lit (by repeat (first | exact List.Mem.head _ | apply List.Mem.tail)) rfl | (repeat (first | assumption | apply Rd.up))) rfl ?_
      refine TOps.assign rfl rfl ?_
      refine TOps.next ?_
      obtain ⟨HR, hHR⟩ : ∃ HR, HR = row (some b5) 24 3 1 [.int .i64 v, slV oa 0 (F.trS k).2.length ocap, .int .i64 0] :: row oa 102 3 ocap (nsCells (F.trS k).2 qs) :: row (some b29) 3 1 (v + F.nodes.length) (nats (F.trS k).1) :: row (some b2) 24 3 1 [.int .i64 0, slV none 0 0 0, .int .i64 0] :: H3 := ⟨_, rfl⟩
      have rto : Rd HR b29 F.nodes[k].args[j].toNat [.int .i64 ((F.trS k).1.getD F.nodes[k].args[j].toNat 0 : Nat)] := by rw [hHR]; exact Rd.lit (by repeat (first | exact List.Mem.head _ | apply List.Mem.tail)) (nats_get (by omega))
      have hal4 : (ints (trA (F.trS k).1 (F.nodes[k].args.take j))).length = j := by simp [trA_length]; omega
      generalize hcA : ints (trA (F.trS k).1 (F.nodes[k].args.take j)) = cellsA at hal4
      refine Tri.drawX (X := Nat × Nat × Nat) rfl [(1, .pointer (some ⟨b1, 0, none⟩)), (2, .pointer (some ⟨b2, 0, none⟩)), (5, .pointer (some ⟨b5, 0, none⟩)), (6, slV (some b29) 0 (v + F.nodes.length) (v + F.nodes.length)), (44, slV (some m.1) (bif m.2 == v then 0 else 0 + v * 1) (F.vars.toNat + F.nodes.length - v) (m.2 - v)), (45, .int .i64 ((F.vars.toNat + F.nodes.length - v : Nat) : Int)), (46, .int .i64 k), (8, .int .i64 k), (11, .pointer (some ⟨b11, 0, none⟩)), (64, slV (some ab) ao F.nodes[k].args.length acap none), (65, .int .i64 F.nodes[k].args.length), (66, .int .i64 j), (13, .int .i64 F.nodes[k].args[j])] [] (fun x => [_, _, _, _, _, _, slV (some x.1) 0 1 1, slV (some x.2.1) 0 (j + 1) x.2.2, _, undef]) (fun x c => match c with | 0 => row (some b11) 102 3 1 [.int .i64 F.nodes[k].kind, .int .i64 F.nodes[k].k, slV y.1 0 j y.2] :: row y.1 3 1 y.2 cellsA :: HR | 1 => row (some x.1) 3 1 1 [.int .i64 ((F.trS k).1.getD F.nodes[k].args[j].toNat 0 : Nat)] :: row (some b11) 102 3 1 [.int .i64 F.nodes[k].kind, .int .i64 F.nodes[k].k, slV y.1 0 j y.2] :: row y.1 3 1 y.2 cellsA :: HR | 2 => row (some b11) 102 3 1 [.int .i64 F.nodes[k].kind, .int .i64 F.nodes[k].k, slV y.1 0 j y.2] :: row (some x.2.1) 3 1 x.2.2 (cellsA ++ [.int .i64 ((F.trS k).1.getD F.nodes[k].args[j].toNat 0 : Nat)]) :: HR | _ + 3 => row (some b11) 102 3 1 [.int .i64 F.nodes[k].kind, .int .i64 F.nodes[k].k, slV (some x.2.1) 0 (j + 1) x.2.2] :: row (some x.2.1) 3 1 x.2.2 (cellsA ++ [.int .i64 ((F.trS k).1.getD F.nodes[k].args[j].toNat 0 : Nat)]) :: HR) [6, 7, 9] (0, 0, 0) [] rfl rfl ⟨rfl, rfl, rfl, rfl, rfl, rfl, rfl, rfl, rfl, rfl, rfl, rfl, rfl, trivial⟩ trivial (by subst hHR; exact Le.refl _) (by
        refine ⟨?_, ?_, ?_, ?_, ?_, ?_, ?_, ?_, ?_, ?_, trivial⟩
        · refine ⟨fun x S c he hw hd hc hcu hm _ => ?_, trivial⟩
          first | refine TOps.fieldB 2 (he _ _ rfl) Try.underlying102 rfl rfl ti53 rfl rfl rfl ?_ | refine TOps.fieldN 2 (he _ _ rfl) Try.underlying102 rfl rfl ti53 rfl rfl rfl ?_
          exact TOps.fd x rfl rfl
        · refine ⟨fun x S c he hw hd hc hcu hm _ => ?_, trivial⟩
          obtain ⟨h0, -⟩ := hd
          rcases (show c = 0 ∨ c = 1 by have : c ≤ 1 := hcu; omega) with rfl | rfl <;> refine TOps.load1 h0 ti53 (Rd.lit (by repeat (first | exact List.Mem.head _ | apply List.Mem.tail)) rfl) rfl ?_
          all_goals exact TOps.fin (Nrm.draw x (fun _ _ _ => rfl) rfl (Le.refl _))
        · refine ⟨fun x S c he hw hd hc hcu hm _ => ?_, trivial⟩
          refine TOps.move (he _ _ rfl) rfl ?_
          exact TOps.fd x rfl rfl
        · refine ⟨fun x S c he hw hd hc hcu hm _ => ?_, trivial⟩
          refine TOps.move (he _ _ rfl) rfl ?_
          exact TOps.fd x rfl rfl
        · refine ⟨fun x S c he hw hd hc hcu hm _ => ?_, trivial⟩
          obtain ⟨h2, h3, -⟩ := hd
          refine TOps.indexAddr (off' := F.nodes[k].args[j].toNat) h2 h3 Try.underlying53 ti3 (by omega) (by omega) (by simp) rfl ?_
          exact TOps.fd x rfl rfl
        · refine ⟨fun x S c he hw hd hc hcu hm _ => ?_, trivial⟩
          obtain ⟨h4, -⟩ := hd
          obtain rfl : c = 0 := by have : c ≤ 0 := hcu; omega
          refine TOps.load1 h4 ti3 (Rd.up (Rd.up rto)) rfl ?_
          exact TOps.fd x rfl rfl
        · refine ⟨fun x S c he hw hd hc hcu hm _ => ?_, trivial⟩
          obtain ⟨h5, -⟩ := hd
          obtain rfl : c = 0 := hm rfl
          refine TOps.buildSlice (vs := [_]) (xs := [_]) Try.underlying53 ti3 ⟨rfl, h5, trivial⟩ rfl rfl rfl rfl rfl rfl (by decide) rfl (fun b76 => ?_)
          refine TOps.fin (Nrm.draw (b76, x.2) ?_ rfl (Le.refl _))
          intro j hj hcj
          rcases j with _|_|_|_|_|_|_|_|_|_|j <;> first | rfl | exact absurd rfl hj | exact absurd hcj (by decide)
        · refine ⟨fun x S c he hw hd hc hcu hm _ => ?_, trivial⟩
          obtain ⟨h1, h6, -⟩ := hd
          obtain rfl : c = 1 := hm rfl
          refine TOps.appendLit h1 h6 Try.underlying53 ti3 rfl (fun _ _ => Upd.there Upd.here) rfl (by omega) rfl (by omega) (by omega) (by simp) rfl (fun b77 cap77 => ?_)
          refine TOps.fin (Nrm.draw (x.1, b77, cap77) ?_ rfl (Le.refl _))
          intro j hj hcj
          rcases j with _|_|_|_|_|_|_|_|_|_|j <;> first | rfl | exact absurd rfl hj | exact absurd hcj (by decide)
        · refine ⟨fun x S c he hw hd hc hcu hm _ => ?_, trivial⟩
          obtain ⟨h0, h1, h2, h3, h4, h5, h6, h7, -⟩ := hd
          first | refine TOps.fieldB 2 (he _ _ rfl) Try.underlying102 rfl rfl ti53 rfl rfl rfl ?_ | refine TOps.fieldN 2 (he _ _ rfl) Try.underlying102 rfl rfl ti53 rfl rfl rfl ?_
          exact TOps.fd x rfl rfl
        · refine ⟨fun x S c he hw hd hc hcu hm _ => ?_, trivial⟩
          obtain ⟨h8, h7, _, h0, h1, h2, h3, h4, h5, h6, _, -⟩ := hd
          obtain rfl : c = 2 := hm rfl
          refine TOps.store1 h8 h7 ti53 rfl rfl Upd.here (by simp) ?_
          exact TOps.fd x rfl rfl
        ) (fun w => ?_)
      subst hHR
      refine Nrm.body (some w.2.1, w.2.2) (fun _ => ⟨_, rfl⟩) ⟨rfl, rfl, rfl, rfl, rfl, rfl, rfl, rfl, rfl, rfl, rfl, rfl, trivial⟩ (Sp.le (by repeat (first | exact Sp.refl _ | exact Sp.sub (by assumption) | refine Sp.cons (by repeat (first | exact Pick.here | exact Pick.row (by (rw [trA_take_succ hltj, ← hcA]; simp [ints])) | apply Pick.there)) ?_ | exact Sp.nil | apply Sp.skip)))
    rw [List.take_length] at hM
    refine Nrm.of hS hM ?_
    refine Nrm.next ?_
    refine Tri.seq (Tri.region ?_)
    refine TOps.move rfl rfl ?_
    refine TOps.field0 rfl Try.underlying24 rfl rfl ti3 rfl rfl rfl ?_
    refine TOps.load1 rfl ti3 (by first | exact Rd.lit (by repeat (first | exact List.Mem.head _ | apply List.Mem.tail)) rfl | (repeat (first | assumption | exact Rd.fld (by assumption) 0 rfl | apply Rd.up))) rfl ?_
    refine TOps.move rfl rfl ?_
    refine TOps.add (r := ((v + k : Nat) : Int)) rfl rfl (by rw [wrapI (by omega) (by omega)]; omega) rfl ?_
    refine TOps.field0 rfl Try.underlying24 rfl rfl ti3 rfl rfl rfl ?_
    refine TOps.load1 rfl ti3 (by first | exact Rd.lit (by repeat (first | exact List.Mem.head _ | apply List.Mem.tail)) rfl | (repeat (first | assumption | exact Rd.fld (by assumption) 0 rfl | apply Rd.up))) rfl ?_
    first | refine TOps.fieldB 1 rfl Try.underlying24 rfl rfl ti22 rfl rfl rfl ?_ | refine TOps.fieldN 1 rfl Try.underlying24 rfl rfl ti22 rfl rfl rfl ?_
    refine TOps.load1 rfl ti22 (by first | exact Rd.lit (by repeat (first | exact List.Mem.head _ | apply List.Mem.tail)) rfl | (repeat (first | assumption | exact Rd.fld (by assumption) 1 rfl | apply Rd.up))) rfl ?_
    refine TOps.len rfl Try.underlying22 rfl ?_
    refine TOps.add (r := ((v + (F.trS k).2.length : Nat) : Int)) rfl rfl (by rw [wrapI (by omega) (by omega)]; omega) rfl ?_
    refine TOps.indexAddr (off' := v + k) rfl rfl Try.underlying53 ti3 (by omega) (by omega) (by omega) rfl ?_
    refine TOps.store1 rfl rfl ti3 rfl rfl (by repeat (first | exact Upd.here | apply Upd.there)) (by simp; omega) ?_
    refine TOps.next ?_
    refine Tri.region ?_
    first | refine TOps.fieldB 1 rfl Try.underlying24 rfl rfl ti22 rfl rfl rfl ?_ | refine TOps.fieldN 1 rfl Try.underlying24 rfl rfl ti22 rfl rfl rfl ?_
    refine TOps.load1 rfl ti22 (by first | exact Rd.lit (by repeat (first | exact List.Mem.head _ | apply List.Mem.tail)) rfl | (repeat (first | assumption | exact Rd.fld (by assumption) 1 rfl | apply Rd.up))) rfl ?_
    refine TOps.loadN rfl ti102 (by first | exact Rd.all (by repeat (first | exact List.Mem.head _ | apply List.Mem.tail)) | (repeat (first | assumption | apply Rd.up))) rfl rfl ?_
    refine TOps.buildSlice (vs := [_]) (xs := [_, _, _]) Try.underlying22 ti102 ⟨rfl, rfl, trivial⟩ rfl rfl rfl rfl rfl rfl (by decide) rfl (fun b95 => ?_)
    refine TOps.appendLit rfl rfl Try.underlying22 ti102 rfl (fun _ _ => (by repeat (first | exact Upd.here | apply Upd.there))) rfl (by rw [nsCells_length _ _ hp3.1]) rfl (by omega) (by omega) (by simp) rfl (fun b96 cap96 => ?_)
    first | refine TOps.fieldB 1 rfl Try.underlying24 rfl rfl ti22 rfl rfl rfl ?_ | refine TOps.fieldN 1 rfl Try.underlying24 rfl rfl ti22 rfl rfl rfl ?_
    refine TOps.store1 rfl rfl ti22 rfl rfl (by repeat (first | exact Upd.here | apply Upd.there)) (by first | decide | (simp; done) | (simp; omega) | exact (show (1 : Nat) < 3 by decide)) ?_
    refine TOps.fin ?_
    have hst' : F.trS (k + 1) = ((F.trS k).1.set (v + k) (v + (F.trS k).2.length), (F.trS k).2 ++ [trN (F.trS k).1 F.nodes[k]]) := by rw [hst, hc2]; rfl
    refine Nrm.body ((some b96, cap96), qs ++ [(y.1, 0, y.2, none)], row y.1 3 1 y.2 (ints (trA (F.trS k).1 F.nodes[k].args)) :: H3) (by rw [hst']; exact ⟨Le.drop hp1, List.Sublist.cons _ hp2, ArgsIn.snoc (hp3.le (Le.drop (Le.refl _))) (RdS.ofRowA (List.Mem.head _) (fun h => hpj (fun h0 => h (by simp [List.eq_nil_of_length_eq_zero h0, trA, trN])))), fun _ => ⟨_, rfl⟩⟩) ⟨rfl, rfl, rfl, rfl, rfl, rfl, rfl, trivial⟩ (by rw [hst']; exact (Sp.le (by repeat (first | exact Sp.refl _ | exact Sp.sub (by assumption) | refine Sp.cons (by repeat (first | exact Pick.here | exact Pick.row (by first | (simp; done) | (rw [nats_set]; done) | (dsimp only; rw [nsCells_snoc _ _ _ _ hp3.1]; simp [ndCells, trN, trA_length]; done)) | apply Pick.there)) ?_ | exact Sp.nil | apply Sp.skip))))
  rw [show F.vars.toNat + F.nodes.length - v = F.nodes.length by omega] at hp hS hM
  have hlnn := hln F.nodes.length
  obtain ⟨hp1, hp2, hp3, hp4⟩ := hp
  have lp := hp1.trans (Le.drop (Le.refl _))
  have r1' := r1.le lp
  refine Nrm.of hS hM ?_
  refine Nrm.next ?_
  refine Tri.seq (Tri.region ?_)
  refine TOps.move rfl rfl ?_
  first | refine TOps.fieldB 2 rfl Try.underlying24 rfl rfl ti3 rfl rfl rfl ?_ | refine TOps.fieldN 2 rfl Try.underlying24 rfl rfl ti3 rfl rfl rfl ?_
  refine TOps.load1 rfl ti3 (by first | exact Rd.lit (by repeat (first | exact List.Mem.head _ | apply List.Mem.tail)) rfl | (repeat (first | assumption | exact Rd.fld (by assumption) 2 rfl | apply Rd.up))) rfl ?_
  refine TOps.indexAddr (off' := F.top.toNat) rfl rfl Try.underlying53 ti3 (by omega) (by omega) (by simp) rfl ?_
  refine TOps.load1 (v := .int .i64 ((F.trS F.nodes.length).1.getD F.top.toNat 0 : Nat)) rfl ti3 (Rd.lit (by repeat (first | exact List.Mem.head _ | apply List.Mem.tail)) (nats_get (by omega))) rfl ?_
  first | refine TOps.fieldB 2 rfl Try.underlying24 rfl rfl ti3 rfl rfl rfl ?_ | refine TOps.fieldN 2 rfl Try.underlying24 rfl rfl ti3 rfl rfl rfl ?_
  refine TOps.store1 rfl rfl ti3 rfl rfl (by repeat (first | exact Upd.here | apply Upd.there)) (by first | decide | (simp; done) | (simp; omega) | exact (show (2 : Nat) < 3 by decide)) ?_
  refine TOps.next ?_
  refine Tri.seq (Tri.region ?_)
  refine TOps.loadN rfl ti24 (by first | exact Rd.all (by repeat (first | exact List.Mem.head _ | apply List.Mem.tail)) | (repeat (first | assumption | apply Rd.up))) rfl rfl ?_
  refine TOps.storeN rfl rfl ti24 rfl rfl (by repeat (first | exact Upd.here | apply Upd.there)) (by first | decide | (simp; done) | (simp; omega)) ?_
  refine TOps.assign rfl rfl ?_
  refine TOps.next ?_
  have hs : H.Sublist z.2.2 := s1.trans ((List.sublist_cons_self _ _).trans hp2)
  have hL : Le z.2.2 H := lp.trans l1
  refine Tri.ret2 (H' := _) Try.results48 (fun _ _ h => h) (.cellN rfl rfl ti24 (Rd.all (by repeat (first | exact List.Mem.head _ | apply List.Mem.tail))) rfl) (.tmp rfl) (Le.refl _) ⟨_, by rw [he]; rfl, (by repeat (first | exact hL | apply Le.drop)), (by repeat (first | exact hs | apply List.Sublist.cons)), ?_⟩
  refine ⟨z.1.1, 0, z.1.2, none, by rw [he, show (bif (none : Option Int).isNone then F.trim else Fm.zero) = F.trim from rfl, show F.trim = ⟨v, (F.trS F.nodes.length).2, (((F.trS F.nodes.length).1.getD F.top.toNat 0 : Nat) : Int)⟩ from by unfold Fm.trim; rw [hv]]; rfl, ?_⟩
  rw [he]
  exact RNodes.ofA (E := 102) (sz := 3) (cap := z.1.2) (by repeat (first | exact List.Mem.head _ | apply List.Mem.tail)) (hp3.le (by repeat (first | exact Le.refl _ | apply Le.drop))) hp4
end Go.Proofs
