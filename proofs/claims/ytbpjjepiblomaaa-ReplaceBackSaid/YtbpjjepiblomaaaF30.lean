import Derived.Test.YtbpjjepiblomaaaD30
import Derived.Test.YtbpjjepiblomaaaNU
import Derived.Test.YtbpjjepiblomaaaGL53
namespace Go.Proofs
open Go.GL
set_option linter.unusedVariables false
set_option linter.unusedSimpArgs false
theorem moved_g {H : List Ent} {ov iv : Value} {O I : Fm} (hO : RF H ov O) (hI : RF H iv I) (hgO : O.Good) (hgI : I.Good) (hov : O.vars = I.vars + 1) (a : Int) (h0 : 0 ≤ a) (h1 : a < O.vars + O.nodes.length) :
    Gives Try.prog 44 [ov, iv, .int .i64 a] H (R1 (.int .i64 ((putTab O I).getD a.toNat 0 : Nat)) H) := by
  obtain ⟨oa0, ooff, oc0, osp, rfl, hNO⟩ := hO
  obtain ⟨ia0, ioff, ic0, isp, rfl, hNI⟩ := hI
  have o0 := hgO.v0; have o1 := hgO.v1; have o2 := hgO.n1; have ot := hgO.topLt
  have i0 := hgI.v0; have i1 := hgI.v1; have i2 := hgI.n1; have it := hgI.topLt
  have hpt := putTab_getD (O := O) (I := I) (a := a.toNat) (by omega)
  refine Gives.enter Try.func44 rfl (by exact Try.ntmps44) rfl ?_
  refine Tri.seq (Tri.region ?_)
  refine TOps.boxN rfl ti24 rfl rfl (fun b3 => ?_)
  refine TOps.hide (fun H1 l1 s1 r1 => ?_)
  refine TOps.boxN rfl ti24 rfl rfl (fun b4 => ?_)
  refine TOps.hide (fun H2 l2 s2 r2 => ?_)
  replace r1 := r1.le l2; have l3 := l2.trans l1
  refine TOps.assign rfl rfl ?_
  refine TOps.next ?_
  refine Tri.seq ?_
  refine Tri.block ?_
  refine Tri.seq (Tri.region ?_)
  refine TOps.move rfl rfl ?_
  refine TOps.field0 rfl Try.underlying24 rfl rfl ti3 rfl rfl rfl ?_
  refine TOps.load1 rfl ti3 (by first | exact Rd.lit (by repeat (first | exact List.Mem.head _ | apply List.Mem.tail)) rfl | (repeat (first | assumption | exact Rd.fld (by assumption) 0 rfl | apply Rd.up))) rfl ?_
  refine TOps.lss rfl rfl rfl ?_
  refine TOps.assign rfl rfl ?_
  refine TOps.next ?_
  refine Tri.cond rfl (fun hc1 => ?_) (fun hc1 => ?_)
  · try simp only [decide_eq_true_eq, decide_eq_false_iff_not, Bool.and_eq_true, Bool.or_eq_true, Bool.not_eq_true', Bool.and_eq_false_iff, Bool.or_eq_false_iff, Bool.not_eq_false', Int.not_lt, Int.not_le, ne_eq, Decidable.not_not, Option.isSome_iff_ne_none, Option.isNone_iff_eq_none] at hc1
    refine Tri.seq (Tri.region ?_)
    refine TOps.move rfl rfl ?_
    refine TOps.assign rfl rfl ?_
    refine TOps.next ?_
    refine Tri.ret1 (H' := H) Try.results44 (fun _ _ h => h) (.tmp rfl) l3 ⟨congrArg (Value.int .i64) (by rw [hpt, if_pos (by omega)]; omega), rfl⟩
  try simp only [decide_eq_true_eq, decide_eq_false_iff_not, Bool.and_eq_true, Bool.or_eq_true, Bool.not_eq_true', Bool.and_eq_false_iff, Bool.or_eq_false_iff, Bool.not_eq_false', Int.not_lt, Int.not_le, ne_eq, Decidable.not_not, Option.isSome_iff_ne_none, Option.isNone_iff_eq_none] at hc1
  refine Tri.seq (Tri.region ?_)
  refine TOps.move rfl rfl ?_
  refine TOps.field0 rfl Try.underlying24 rfl rfl ti3 rfl rfl rfl ?_
  refine TOps.load1 rfl ti3 (by first | exact Rd.lit (by repeat (first | exact List.Mem.head _ | apply List.Mem.tail)) rfl | (repeat (first | assumption | exact Rd.fld (by assumption) 0 rfl | apply Rd.up))) rfl ?_
  refine TOps.eqlI rfl rfl rfl ?_
  refine TOps.assign rfl rfl ?_
  refine TOps.next ?_
  refine Tri.cond rfl (fun hc2 => ?_) (fun hc2 => ?_)
  · try simp only [decide_eq_true_eq, decide_eq_false_iff_not, Bool.and_eq_true, Bool.or_eq_true, Bool.not_eq_true', Bool.and_eq_false_iff, Bool.or_eq_false_iff, Bool.not_eq_false', Int.not_lt, Int.not_le, ne_eq, Decidable.not_not, Option.isSome_iff_ne_none, Option.isNone_iff_eq_none] at hc2
    refine Tri.seq (Tri.region ?_)
    first | refine TOps.fieldB 2 rfl Try.underlying24 rfl rfl ti3 rfl rfl rfl ?_ | refine TOps.fieldN 2 rfl Try.underlying24 rfl rfl ti3 rfl rfl rfl ?_
    refine TOps.load1 rfl ti3 (by first | exact Rd.lit (by repeat (first | exact List.Mem.head _ | apply List.Mem.tail)) rfl | (repeat (first | assumption | exact Rd.fld (by assumption) 2 rfl | apply Rd.up))) rfl ?_
    refine TOps.assign rfl rfl ?_
    refine TOps.next ?_
    refine Tri.ret1 (H' := H) Try.results44 (fun _ _ h => h) (.tmp rfl) l3 ⟨congrArg (Value.int .i64) (by rw [hpt, if_neg (by omega), if_pos (by omega)]; omega), rfl⟩
  try simp only [decide_eq_true_eq, decide_eq_false_iff_not, Bool.and_eq_true, Bool.or_eq_true, Bool.not_eq_true', Bool.and_eq_false_iff, Bool.or_eq_false_iff, Bool.not_eq_false', Int.not_lt, Int.not_le, ne_eq, Decidable.not_not, Option.isSome_iff_ne_none, Option.isNone_iff_eq_none] at hc2
  refine Tri.fin ?_
  refine Nrm.unB ?_
  refine Nrm.next ?_
  refine Tri.seq (Tri.region ?_)
  refine TOps.field0 rfl Try.underlying24 rfl rfl ti3 rfl rfl rfl ?_
  refine TOps.load1 rfl ti3 (by first | exact Rd.lit (by repeat (first | exact List.Mem.head _ | apply List.Mem.tail)) rfl | (repeat (first | assumption | exact Rd.fld (by assumption) 0 rfl | apply Rd.up))) rfl ?_
  first | refine TOps.fieldB 1 rfl Try.underlying24 rfl rfl ti22 rfl rfl rfl ?_ | refine TOps.fieldN 1 rfl Try.underlying24 rfl rfl ti22 rfl rfl rfl ?_
  refine TOps.load1 rfl ti22 (by first | exact Rd.lit (by repeat (first | exact List.Mem.head _ | apply List.Mem.tail)) rfl | (repeat (first | assumption | exact Rd.fld (by assumption) 1 rfl | apply Rd.up))) rfl ?_
  refine TOps.len rfl Try.underlying22 rfl ?_
  refine TOps.add (r := I.vars + I.nodes.length) rfl rfl (by rw [wrapI (by omega) (by omega)]) rfl ?_
  refine TOps.move rfl rfl ?_
  refine TOps.add (r := I.vars + I.nodes.length + a) rfl rfl (by rw [wrapI (by omega) (by omega)]) rfl ?_
  refine TOps.field0 rfl Try.underlying24 rfl rfl ti3 rfl rfl rfl ?_
  refine TOps.load1 rfl ti3 (by first | exact Rd.lit (by repeat (first | exact List.Mem.head _ | apply List.Mem.tail)) rfl | (repeat (first | assumption | exact Rd.fld (by assumption) 0 rfl | apply Rd.up))) rfl ?_
  refine TOps.sub (r := I.vars + I.nodes.length + a - O.vars) rfl rfl (by rw [wrapI (by omega) (by omega)]) rfl ?_
  refine TOps.assign rfl rfl ?_
  refine TOps.next ?_
  refine Tri.ret1 (H' := H) Try.results44 (fun _ _ h => h) (.tmp rfl) l3 ⟨congrArg (Value.int .i64) (by rw [hpt, if_neg (by omega), if_neg (by omega)]; omega), rfl⟩
theorem rputN_g {H : List Ent} {ov iv : Value} {O I : Fm} (hO : RF H ov O) (hI : RF H iv I) (hkO : O.ok) (hkI : I.ok) :
    Gives Try.prog 19 [ov, iv] H (fun u H' => ∃ a cap N, u = .tuple (List.toArray [.agg (List.toArray [.int .i64 (O.putF I).vars, slV a 0 (O.putF I).nodes.length cap, .int .i64 (O.putF I).top]), .int .i64 ((O.putErr I).getD 0)]) ∧ RNodes N a 0 (O.putF I).nodes ∧ N ++ H = H') := by
  have hO0 := hO
  have hI0 := hI
  obtain ⟨oa0, ooff, oc0, osp, rfl, hNO⟩ := hO
  obtain ⟨ia0, ioff, ic0, isp, rfl, hNI⟩ := hI
  refine Gives.enter Try.func19 rfl (by exact Try.ntmps19) rfl ?_
  refine Tri.seq (Tri.region ?_)
  refine TOps.boxN rfl ti24 rfl rfl (fun b2 => ?_)
  refine TOps.hide (fun H1 l1 s1 r1 => ?_)
  replace hO0 := hO0.le l1; replace hI0 := hI0.le l1; replace hNO := hNO.le l1; replace hNI := hNI.le l1
  refine TOps.boxN rfl ti24 rfl rfl (fun b3 => ?_)
  refine TOps.hide (fun H2 l2 s2 r2 => ?_)
  replace hO0 := hO0.le l2; replace hI0 := hI0.le l2; replace hNO := hNO.le l2; replace hNI := hNI.le l2; replace r1 := r1.le l2; have l3 := l2.trans l1
  refine TOps.alloc ti24 rfl (fun b4 => ?_)
  refine TOps.assign rfl rfl ?_
  refine TOps.next ?_
  refine Tri.seq ?_
  refine Tri.seq (Tri.region ?_)
  refine TOps.loadN rfl ti24 (by first | exact Rd.all (by repeat (first | exact List.Mem.head _ | apply List.Mem.tail)) | (repeat (first | assumption | apply Rd.up))) rfl rfl ?_
  refine TOps.call (vs := [_]) Try.call13 ⟨rfl, trivial⟩ (rcheck_g (hO0.le (Le.drop (Le.refl _))) hkO) rfl ?_
  rintro _ _ ⟨rfl, rfl⟩
  refine TOps.assign rfl rfl ?_
  refine TOps.next ?_
  refine Tri.seq (Tri.region ?_)
  refine TOps.move rfl rfl ?_
  refine TOps.neqI rfl rfl rfl ?_
  refine TOps.next ?_
  refine Tri.cond rfl (fun hc1 => ?_) (fun hc1 => ?_)
  · try simp only [decide_eq_true_eq, decide_eq_false_iff_not, Bool.and_eq_true, Bool.or_eq_true, Bool.not_eq_true', Bool.and_eq_false_iff, Bool.or_eq_false_iff, Bool.not_eq_false', Int.not_lt, Int.not_le, ne_eq, Decidable.not_not, Option.isSome_iff_ne_none, Option.isNone_iff_eq_none] at hc1
    have hpe : O.putErr I = some (O.err.getD 0) := by
      unfold Fm.putErr
      cases he : O.err with
      | none => rw [he] at hc1; simp at hc1
      | some e => rfl
    refine Tri.seq (Tri.region ?_)
    refine TOps.buildStruct (vs := []) (xs := [_, _, _]) [(0, 1), (1, 1), (2, 1)] Try.underlying24 ti24 (fun w => by simp) trivial rfl rfl ?_
    refine TOps.move rfl rfl ?_
    refine TOps.storeN rfl rfl ti24 rfl rfl (by repeat (first | exact Upd.here | apply Upd.there)) (by first | decide | (simp; done) | (simp; omega)) ?_
    refine TOps.assign rfl rfl ?_
    refine TOps.next ?_
    refine Tri.ret2 (H' := H) Try.results19 (fun _ _ h => h) (.cellN rfl rfl ti24 (Rd.all (by repeat (first | exact List.Mem.head _ | apply List.Mem.tail))) rfl) (.tmp rfl) (Le.drop l3) ⟨none, 0, [], ?_, ?_, rfl⟩
    · unfold Fm.putF; rw [hpe]; rfl
    · unfold Fm.putF; rw [hpe]; exact .inl rfl
  try simp only [decide_eq_true_eq, decide_eq_false_iff_not, Bool.and_eq_true, Bool.or_eq_true, Bool.not_eq_true', Bool.and_eq_false_iff, Bool.or_eq_false_iff, Bool.not_eq_false', Int.not_lt, Int.not_le, ne_eq, Decidable.not_not, Option.isSome_iff_ne_none, Option.isNone_iff_eq_none] at hc1
  have heO : O.err = none := Fm.err_of (by simpa using hc1)
  have hgO := (Fm.good_iff O).1 heO
  refine Tri.fin ?_
  refine Nrm.next ?_
  refine Tri.seq ?_
  refine Tri.seq (Tri.region ?_)
  refine TOps.loadN rfl ti24 (by first | exact Rd.all (by repeat (first | exact List.Mem.head _ | apply List.Mem.tail)) | (repeat (first | assumption | apply Rd.up))) rfl rfl ?_
  refine TOps.call (vs := [_]) Try.call13 ⟨rfl, trivial⟩ (rcheck_g (hI0.le (Le.drop (Le.refl _))) hkI) rfl ?_
  rintro _ _ ⟨rfl, rfl⟩
  refine TOps.assign rfl rfl ?_
  refine TOps.next ?_
  refine Tri.seq (Tri.region ?_)
  refine TOps.move rfl rfl ?_
  refine TOps.neqI rfl rfl rfl ?_
  refine TOps.next ?_
  refine Tri.cond rfl (fun hc2 => ?_) (fun hc2 => ?_)
  · try simp only [decide_eq_true_eq, decide_eq_false_iff_not, Bool.and_eq_true, Bool.or_eq_true, Bool.not_eq_true', Bool.and_eq_false_iff, Bool.or_eq_false_iff, Bool.not_eq_false', Int.not_lt, Int.not_le, ne_eq, Decidable.not_not, Option.isSome_iff_ne_none, Option.isNone_iff_eq_none] at hc2
    have hpe : O.putErr I = some (I.err.getD 0) := by
      unfold Fm.putErr
      rw [heO]
      cases he : I.err with
      | none => rw [he] at hc2; simp at hc2
      | some e => rfl
    refine Tri.seq (Tri.region ?_)
    refine TOps.buildStruct (vs := []) (xs := [_, _, _]) [(0, 1), (1, 1), (2, 1)] Try.underlying24 ti24 (fun w => by simp) trivial rfl rfl ?_
    refine TOps.move rfl rfl ?_
    refine TOps.storeN rfl rfl ti24 rfl rfl (by repeat (first | exact Upd.here | apply Upd.there)) (by first | decide | (simp; done) | (simp; omega)) ?_
    refine TOps.assign rfl rfl ?_
    refine TOps.next ?_
    refine Tri.ret2 (H' := H) Try.results19 (fun _ _ h => h) (.cellN rfl rfl ti24 (Rd.all (by repeat (first | exact List.Mem.head _ | apply List.Mem.tail))) rfl) (.tmp rfl) (Le.drop l3) ⟨none, 0, [], ?_, ?_, rfl⟩
    · unfold Fm.putF; rw [hpe]; rfl
    · unfold Fm.putF; rw [hpe]; exact .inl rfl
  try simp only [decide_eq_true_eq, decide_eq_false_iff_not, Bool.and_eq_true, Bool.or_eq_true, Bool.not_eq_true', Bool.and_eq_false_iff, Bool.or_eq_false_iff, Bool.not_eq_false', Int.not_lt, Int.not_le, ne_eq, Decidable.not_not, Option.isSome_iff_ne_none, Option.isNone_iff_eq_none] at hc2
  have heI : I.err = none := Fm.err_of (by simpa using hc2)
  have hgI := (Fm.good_iff I).1 heI
  have o0 := hgO.v0; have o1 := hgO.v1; have o2 := hgO.n1; have ot := hgO.topLt
  have i0 := hgI.v0; have i1 := hgI.v1; have i2 := hgI.n1; have it := hgI.topLt
  have hperr : O.putErr I = if O.vars ≠ I.vars + 1 then some 11 else if 128 < O.nodes.length + I.nodes.length then some 4 else none := by unfold Fm.putErr; rw [heO, heI]
  refine Tri.fin ?_
  refine Nrm.next ?_
  refine Tri.seq ?_
  refine Tri.seq (Tri.region ?_)
  refine TOps.field0 rfl Try.underlying24 rfl rfl ti3 rfl rfl rfl ?_
  refine TOps.load1 rfl ti3 (by first | exact Rd.lit (by repeat (first | exact List.Mem.head _ | apply List.Mem.tail)) rfl | (repeat (first | assumption | exact Rd.fld (by assumption) 0 rfl | apply Rd.up))) rfl ?_
  refine TOps.field0 rfl Try.underlying24 rfl rfl ti3 rfl rfl rfl ?_
  refine TOps.load1 rfl ti3 (by first | exact Rd.lit (by repeat (first | exact List.Mem.head _ | apply List.Mem.tail)) rfl | (repeat (first | assumption | exact Rd.fld (by assumption) 0 rfl | apply Rd.up))) rfl ?_
  refine TOps.add (r := I.vars + 1) rfl rfl (by rw [wrapI (by omega) (by omega)]) rfl ?_
  refine TOps.neqI rfl rfl rfl ?_
  refine TOps.next ?_
  refine Tri.cond rfl (fun hc3 => ?_) (fun hc3 => ?_)
  · try simp only [decide_eq_true_eq, decide_eq_false_iff_not, Bool.and_eq_true, Bool.or_eq_true, Bool.not_eq_true', Bool.and_eq_false_iff, Bool.or_eq_false_iff, Bool.not_eq_false', Int.not_lt, Int.not_le, ne_eq, Decidable.not_not, Option.isSome_iff_ne_none, Option.isNone_iff_eq_none] at hc3
    have hpe : O.putErr I = some 11 := by rw [hperr, if_pos hc3]
    refine Tri.seq (Tri.region ?_)
    refine TOps.buildStruct (vs := []) (xs := [_, _, _]) [(0, 1), (1, 1), (2, 1)] Try.underlying24 ti24 (fun w => by simp) trivial rfl rfl ?_
    refine TOps.storeN rfl rfl ti24 rfl rfl (by repeat (first | exact Upd.here | apply Upd.there)) (by first | decide | (simp; done) | (simp; omega)) ?_
    refine TOps.assign rfl rfl ?_
    refine TOps.next ?_
    refine Tri.ret2 (H' := H) Try.results19 (fun _ _ h => h) (.cellN rfl rfl ti24 (Rd.all (by repeat (first | exact List.Mem.head _ | apply List.Mem.tail))) rfl) (.tmp rfl) (Le.drop l3) ⟨none, 0, [], ?_, ?_, rfl⟩
    · unfold Fm.putF; rw [hpe]; rfl
    · unfold Fm.putF; rw [hpe]; exact .inl rfl
  try simp only [decide_eq_true_eq, decide_eq_false_iff_not, Bool.and_eq_true, Bool.or_eq_true, Bool.not_eq_true', Bool.and_eq_false_iff, Bool.or_eq_false_iff, Bool.not_eq_false', Int.not_lt, Int.not_le, ne_eq, Decidable.not_not, Option.isSome_iff_ne_none, Option.isNone_iff_eq_none] at hc3
  have hov : O.vars = I.vars + 1 := by omega
  rw [if_neg (by omega)] at hperr
  refine Tri.fin ?_
  refine Nrm.next ?_
  refine Tri.seq ?_
  refine Tri.seq (Tri.region ?_)
  first | refine TOps.fieldB 1 rfl Try.underlying24 rfl rfl ti22 rfl rfl rfl ?_ | refine TOps.fieldN 1 rfl Try.underlying24 rfl rfl ti22 rfl rfl rfl ?_
  refine TOps.load1 rfl ti22 (by first | exact Rd.lit (by repeat (first | exact List.Mem.head _ | apply List.Mem.tail)) rfl | (repeat (first | assumption | exact Rd.fld (by assumption) 1 rfl | apply Rd.up))) rfl ?_
  refine TOps.len rfl Try.underlying22 rfl ?_
  first | refine TOps.fieldB 1 rfl Try.underlying24 rfl rfl ti22 rfl rfl rfl ?_ | refine TOps.fieldN 1 rfl Try.underlying24 rfl rfl ti22 rfl rfl rfl ?_
  refine TOps.load1 rfl ti22 (by first | exact Rd.lit (by repeat (first | exact List.Mem.head _ | apply List.Mem.tail)) rfl | (repeat (first | assumption | exact Rd.fld (by assumption) 1 rfl | apply Rd.up))) rfl ?_
  refine TOps.len rfl Try.underlying22 rfl ?_
  refine TOps.add (r := ((O.nodes.length + I.nodes.length : Nat) : Int)) rfl rfl (by rw [wrapI (by omega) (by omega)]; omega) rfl ?_
  refine TOps.gtr rfl rfl rfl ?_
  refine TOps.next ?_
  refine Tri.cond rfl (fun hc4 => ?_) (fun hc4 => ?_)
  · try simp only [decide_eq_true_eq, decide_eq_false_iff_not, Bool.and_eq_true, Bool.or_eq_true, Bool.not_eq_true', Bool.and_eq_false_iff, Bool.or_eq_false_iff, Bool.not_eq_false', Int.not_lt, Int.not_le, ne_eq, Decidable.not_not, Option.isSome_iff_ne_none, Option.isNone_iff_eq_none] at hc4
    have hpe : O.putErr I = some 4 := by rw [hperr, if_pos (by omega)]
    refine Tri.seq (Tri.region ?_)
    refine TOps.buildStruct (vs := []) (xs := [_, _, _]) [(0, 1), (1, 1), (2, 1)] Try.underlying24 ti24 (fun w => by simp) trivial rfl rfl ?_
    refine TOps.storeN rfl rfl ti24 rfl rfl (by repeat (first | exact Upd.here | apply Upd.there)) (by first | decide | (simp; done) | (simp; omega)) ?_
    refine TOps.assign rfl rfl ?_
    refine TOps.next ?_
    refine Tri.ret2 (H' := H) Try.results19 (fun _ _ h => h) (.cellN rfl rfl ti24 (Rd.all (by repeat (first | exact List.Mem.head _ | apply List.Mem.tail))) rfl) (.tmp rfl) (Le.drop l3) ⟨none, 0, [], ?_, ?_, rfl⟩
    · unfold Fm.putF; rw [hpe]; rfl
    · unfold Fm.putF; rw [hpe]; exact .inl rfl
  try simp only [decide_eq_true_eq, decide_eq_false_iff_not, Bool.and_eq_true, Bool.or_eq_true, Bool.not_eq_true', Bool.and_eq_false_iff, Bool.or_eq_false_iff, Bool.not_eq_false', Int.not_lt, Int.not_le, ne_eq, Decidable.not_not, Option.isSome_iff_ne_none, Option.isNone_iff_eq_none] at hc4
  have hpe : O.putErr I = none := by rw [hperr, if_neg (by omega)]
  have hpl : (putTab O I).length = O.vars.toNat + O.nodes.length := putTab_length O I
  refine Tri.fin ?_
  refine Nrm.next ?_
  refine Tri.seq (Tri.region ?_)
  refine TOps.field0 rfl Try.underlying24 rfl rfl ti3 rfl rfl rfl ?_
  refine TOps.load1 rfl ti3 (by first | exact Rd.lit (by repeat (first | exact List.Mem.head _ | apply List.Mem.tail)) rfl | (repeat (first | assumption | exact Rd.fld (by assumption) 0 rfl | apply Rd.up))) rfl ?_
  refine TOps.buildStruct (vs := [(0, _)]) (xs := [_, _, _]) [(0, 1), (1, 1), (2, 1)] Try.underlying24 ti24 (fun w => by simp) ⟨rfl, rfl, trivial⟩ rfl rfl ?_
  refine TOps.alloc ti24 rfl (fun b8 => ?_)
  refine TOps.storeN rfl rfl ti24 rfl rfl (by repeat (first | exact Upd.here | apply Upd.there)) (by first | decide | (simp; done) | (simp; omega)) ?_
  refine TOps.next ?_
  refine Tri.seq ?_
  refine Tri.seq (Tri.region ?_)
  first | refine TOps.fieldB 1 rfl Try.underlying24 rfl rfl ti22 rfl rfl rfl ?_ | refine TOps.fieldN 1 rfl Try.underlying24 rfl rfl ti22 rfl rfl rfl ?_
  refine TOps.load1 rfl ti22 (by first | exact Rd.lit (by repeat (first | exact List.Mem.head _ | apply List.Mem.tail)) rfl | (repeat (first | assumption | exact Rd.fld (by assumption) 1 rfl | apply Rd.up))) rfl ?_
  refine TOps.len rfl Try.underlying22 rfl ?_
  refine TOps.move rfl rfl ?_
  refine TOps.next ?_
  refine Tri.range (X := (Option Nat × Nat) × List SA × List Ent) (fun z k => [(2, .pointer (some ⟨b2, 0, none⟩)), (3, .pointer (some ⟨b3, 0, none⟩)), (4, .pointer (some ⟨b4, 0, none⟩)), (8, .pointer (some ⟨b8, 0, none⟩)), (48, slV ia0 ioff I.nodes.length ic0 isp)]) (fun z k => row (some b8) 24 3 1 [.int .i64 I.vars, slV z.1.1 0 k z.1.2, .int .i64 0] :: row z.1.1 66 3 z.1.2 (nsCells (I.nodes.take k) z.2.1) :: row (some b4) 24 3 1 [.int .i64 0, slV none 0 0 0, .int .i64 0] :: (z.2.2 ++ H2)) (fun z k => ArgsIn z.2.2 (I.nodes.take k) z.2.1 ∧ (I.nodes.take k ≠ [] → ∃ b, z.1.1 = some b)) (by omega) rfl rfl rfl (fun _ _ => ⟨rfl, rfl, rfl, rfl⟩) ((none, 0), [], []) ⟨ArgsIn.nil, fun h => absurd rfl h⟩ ⟨rfl, rfl, rfl, rfl, rfl, trivial⟩ (Le.addNil.trans (Sp.le (by repeat (first | exact Sp.refl _ | exact Sp.sub (by assumption) | refine Sp.cons (by repeat (first | exact Pick.here | apply Pick.there)) ?_ | exact Sp.nil | apply Sp.skip)))) (fun k z hlt hp => ?_) (fun z ac wc hp hS hM => ?_)
  · skip
    obtain ⟨⟨oa, ocap⟩, qs, H3⟩ := z
    obtain ⟨hp3, hp4⟩ := hp
    dsimp only at hp3 hp4 ⊢
    have hp1 : Le (H3 ++ H2) H2 := Le.sub (List.sublist_append_right _ _)
    obtain ⟨nb, aa, ao, acap, asp, rfl, rfl, hn⟩ := hNI.at hlt
    have hfi := hgI.fits k hlt
    have hcells := hn.cells
    have hal := hfi.len
    obtain ⟨d, hd⟩ : ∃ d, d = I.nodes[k] := ⟨_, rfl⟩
    rw [← hd] at hcells hn hal
    replace hcells := hcells.le hp1; replace hn := hn.le hp1
    have htk : (I.nodes.take k).length = k := by rw [List.length_take]; omega
    have hsn : I.nodes.take (k + 1) = I.nodes.take k ++ [d] := by rw [List.take_succ_eq_append_getElem hlt, ← hd]
    refine Tri.seq (Tri.region ?_)
    refine TOps.indexAddr (off' := ioff + k * 3) rfl rfl Try.underlying22 ti66 (by omega) (by omega) (by simp) rfl ?_
    refine TOps.loadN (vs := [.int .i64 d.kind, .int .i64 d.k, slV aa ao d.args.length acap asp]) rfl ti66 (by repeat (first | exact hcells | apply Rd.up)) rfl rfl ?_
    refine TOps.alloc ti66 rfl (fun b10 => ?_)
    refine TOps.storeN rfl rfl ti66 rfl rfl (by repeat (first | exact Upd.here | apply Upd.there)) (by first | decide | (simp; done) | (simp; omega)) ?_
    refine TOps.next ?_
    obtain ⟨CS, hCS⟩ : ∃ CS, CS = nsCells (I.nodes.take k) qs := ⟨_, rfl⟩
    have hcl : CS.length = k * 3 := by rw [hCS, nsCells_length _ _ hp3.1, htk]
    obtain ⟨kk, hkk⟩ : ∃ kk, k = kk := ⟨_, rfl⟩
    obtain ⟨HB, hHB⟩ : ∃ HB, HB = row (some b4) 24 3 1 [.int .i64 0, slV none 0 0 0, .int .i64 0] :: (H3 ++ H2) := ⟨_, rfl⟩
    have hBr : RInts HB aa ao d.args asp := by rw [hHB]; exact RdS.up hn.args
    have hr5 : ∀ (x : Nat × OA (ints d.args) × Nat × Nat × Nat × Nat) (c : Nat), Rd (match c with | 0 => row (some b10) 66 3 1 [.int .i64 d.kind, .int .i64 d.k, slV aa ao d.args.length acap asp] :: row (some b8) 24 3 1 [.int .i64 I.vars, slV oa 0 kk ocap, .int .i64 0] :: row oa 66 3 ocap CS :: HB | 1 => row (some x.1) 3 1 0 [] :: row (some b10) 66 3 1 [.int .i64 d.kind, .int .i64 d.k, slV aa ao d.args.length acap asp] :: row (some b8) 24 3 1 [.int .i64 I.vars, slV oa 0 kk ocap, .int .i64 0] :: row oa 66 3 ocap CS :: HB | 2 => row x.2.1.1 3 1 x.2.2.1 (ints d.args) :: row (some b10) 66 3 1 [.int .i64 d.kind, .int .i64 d.k, slV aa ao d.args.length acap asp] :: row (some b8) 24 3 1 [.int .i64 I.vars, slV oa 0 kk ocap, .int .i64 0] :: row oa 66 3 ocap CS :: HB | 3 => row (some x.2.2.2.1) 66 3 1 [.int .i64 d.kind, .int .i64 d.k, slV x.2.1.1 0 (0 + d.args.length) x.2.2.1] :: row x.2.1.1 3 1 x.2.2.1 (ints d.args) :: row (some b10) 66 3 1 [.int .i64 d.kind, .int .i64 d.k, slV aa ao d.args.length acap asp] :: row (some b8) 24 3 1 [.int .i64 I.vars, slV oa 0 kk ocap, .int .i64 0] :: row oa 66 3 ocap CS :: HB | 4 => row x.2.1.1 3 1 x.2.2.1 (ints d.args) :: row (some b10) 66 3 1 [.int .i64 d.kind, .int .i64 d.k, slV aa ao d.args.length acap asp] :: row (some b8) 24 3 1 [.int .i64 I.vars, slV oa 0 kk ocap, .int .i64 0] :: row (some x.2.2.2.2.1) 66 3 x.2.2.2.2.2 (CS ++ [.int .i64 d.kind, .int .i64 d.k, slV x.2.1.1 0 (0 + d.args.length) x.2.2.1]) :: HB | _ + 5 => row x.2.1.1 3 1 x.2.2.1 (ints d.args) :: row (some b10) 66 3 1 [.int .i64 d.kind, .int .i64 d.k, slV aa ao d.args.length acap asp] :: row (some b8) 24 3 1 [.int .i64 I.vars, slV (some x.2.2.2.2.1) 0 (kk + 1) x.2.2.2.2.2, .int .i64 0] :: row (some x.2.2.2.2.1) 66 3 x.2.2.2.2.2 (CS ++ [.int .i64 d.kind, .int .i64 d.k, slV x.2.1.1 0 (0 + d.args.length) x.2.2.1]) :: HB) b10 0 [.int .i64 d.kind, .int .i64 d.k, slV aa ao d.args.length acap asp] := by
      intro x c
      match c with
      | 0 => exact Rd.all (by repeat (first | exact List.Mem.head _ | apply List.Mem.tail))
      | 1 => exact Rd.all (by repeat (first | exact List.Mem.head _ | apply List.Mem.tail))
      | 2 => exact Rd.all (by repeat (first | exact List.Mem.head _ | apply List.Mem.tail))
      | 3 => exact Rd.all (by repeat (first | exact List.Mem.head _ | apply List.Mem.tail))
      | 4 => exact Rd.all (by repeat (first | exact List.Mem.head _ | apply List.Mem.tail))
      | _ + 5 => exact Rd.all (by repeat (first | exact List.Mem.head _ | apply List.Mem.tail))
    refine Tri.drawX (X := Nat × OA (ints d.args) × Nat × Nat × Nat × Nat) rfl [(2, .pointer (some ⟨b2, 0, none⟩)), (3, .pointer (some ⟨b3, 0, none⟩)), (4, .pointer (some ⟨b4, 0, none⟩)), (8, .pointer (some ⟨b8, 0, none⟩)), (48, slV (some nb) ioff I.nodes.length ic0), (49, .int .i64 I.nodes.length), (50, .int .i64 k), (10, .pointer (some ⟨b10, 0, none⟩))] [] (fun x => [_, slV oa 0 kk ocap, _, _, _, _, slV (some x.1) 0 0 0, _, _, slV x.2.1.1 0 (0 + d.args.length) x.2.2.1, .agg (List.toArray [.int .i64 d.kind, .int .i64 d.k, slV x.2.1.1 0 (0 + d.args.length) x.2.2.1]), slV (some x.2.2.2.1) 0 1 1, slV (some x.2.2.2.2.1) 0 (kk + 1) x.2.2.2.2.2, _, undef]) (fun x c => match c with | 0 => row (some b10) 66 3 1 [.int .i64 d.kind, .int .i64 d.k, slV aa ao d.args.length acap asp] :: row (some b8) 24 3 1 [.int .i64 I.vars, slV oa 0 kk ocap, .int .i64 0] :: row oa 66 3 ocap CS :: HB | 1 => row (some x.1) 3 1 0 [] :: row (some b10) 66 3 1 [.int .i64 d.kind, .int .i64 d.k, slV aa ao d.args.length acap asp] :: row (some b8) 24 3 1 [.int .i64 I.vars, slV oa 0 kk ocap, .int .i64 0] :: row oa 66 3 ocap CS :: HB | 2 => row x.2.1.1 3 1 x.2.2.1 (ints d.args) :: row (some b10) 66 3 1 [.int .i64 d.kind, .int .i64 d.k, slV aa ao d.args.length acap asp] :: row (some b8) 24 3 1 [.int .i64 I.vars, slV oa 0 kk ocap, .int .i64 0] :: row oa 66 3 ocap CS :: HB | 3 => row (some x.2.2.2.1) 66 3 1 [.int .i64 d.kind, .int .i64 d.k, slV x.2.1.1 0 (0 + d.args.length) x.2.2.1] :: row x.2.1.1 3 1 x.2.2.1 (ints d.args) :: row (some b10) 66 3 1 [.int .i64 d.kind, .int .i64 d.k, slV aa ao d.args.length acap asp] :: row (some b8) 24 3 1 [.int .i64 I.vars, slV oa 0 kk ocap, .int .i64 0] :: row oa 66 3 ocap CS :: HB | 4 => row x.2.1.1 3 1 x.2.2.1 (ints d.args) :: row (some b10) 66 3 1 [.int .i64 d.kind, .int .i64 d.k, slV aa ao d.args.length acap asp] :: row (some b8) 24 3 1 [.int .i64 I.vars, slV oa 0 kk ocap, .int .i64 0] :: row (some x.2.2.2.2.1) 66 3 x.2.2.2.2.2 (CS ++ [.int .i64 d.kind, .int .i64 d.k, slV x.2.1.1 0 (0 + d.args.length) x.2.2.1]) :: HB | _ + 5 => row x.2.1.1 3 1 x.2.2.1 (ints d.args) :: row (some b10) 66 3 1 [.int .i64 d.kind, .int .i64 d.k, slV aa ao d.args.length acap asp] :: row (some b8) 24 3 1 [.int .i64 I.vars, slV (some x.2.2.2.2.1) 0 (kk + 1) x.2.2.2.2.2, .int .i64 0] :: row (some x.2.2.2.2.1) 66 3 x.2.2.2.2.2 (CS ++ [.int .i64 d.kind, .int .i64 d.k, slV x.2.1.1 0 (0 + d.args.length) x.2.2.1]) :: HB) [6, 9, 11, 12, 14] (0, OA.zero _, 0, 0, 0, 0) [] rfl rfl ⟨rfl, rfl, rfl, rfl, rfl, rfl, rfl, rfl, trivial⟩ trivial (by subst hHB hCS hkk; exact (Sp.le (by repeat (first | exact Sp.refl _ | exact Sp.sub (by assumption) | refine Sp.cons (by repeat (first | exact Pick.here | apply Pick.there)) ?_ | exact Sp.nil | apply Sp.skip)))) (by
      refine ⟨?_, ?_, ?_, ?_, ?_, ?_, ?_, ?_, ?_, ?_, ?_, ?_, ?_, ?_, ?_, trivial⟩
      · refine ⟨fun x S c he hw hd hc hcu hm _ => ?_, trivial⟩
        first | refine TOps.fieldB 1 (he _ _ rfl) Try.underlying24 rfl rfl ti22 rfl rfl rfl ?_ | refine TOps.fieldN 1 (he _ _ rfl) Try.underlying24 rfl rfl ti22 rfl rfl rfl ?_
        exact TOps.fin (Nrm.draw x (fun _ _ _ => rfl) rfl (by first | exact Le.refl _ | assumption | exact (by repeat (first | exact Le.refl _ | assumption | apply Le.drop))))
      · refine ⟨fun x S c he hw hd hc hcu hm _ => ?_, trivial⟩
        obtain ⟨h0, -⟩ := hd
        rcases (show c = 0 ∨ c = 1 ∨ c = 2 ∨ c = 3 by have : c ≤ 3 := hcu; omega) with rfl | rfl | rfl | rfl <;> refine TOps.load1 h0 ti22 (Rd.lit (by repeat (first | exact List.Mem.head _ | apply List.Mem.tail)) rfl) rfl ?_
        all_goals exact TOps.fin (Nrm.draw x (fun _ _ _ => rfl) rfl (Le.refl _))
      · refine ⟨fun x S c he hw hd hc hcu hm _ => ?_, trivial⟩
        refine TOps.field0 (he _ _ rfl) Try.underlying66 rfl rfl ti3 rfl rfl rfl ?_
        exact TOps.fin (Nrm.draw x (fun _ _ _ => rfl) rfl (by first | exact Le.refl _ | assumption | exact (by repeat (first | exact Le.refl _ | assumption | apply Le.drop))))
      · refine ⟨fun x S c he hw hd hc hcu hm _ => ?_, trivial⟩
        obtain ⟨h2, -⟩ := hd
        refine TOps.load1 h2 ti3 ((hr5 x c).fld 0 rfl) rfl ?_
        exact TOps.fin (Nrm.draw x (fun _ _ _ => rfl) rfl (by first | exact Le.refl _ | assumption | exact (by repeat (first | exact Le.refl _ | assumption | apply Le.drop))))
      · refine ⟨fun x S c he hw hd hc hcu hm _ => ?_, trivial⟩
        first | refine TOps.fieldB 1 (he _ _ rfl) Try.underlying66 rfl rfl ti3 rfl rfl rfl ?_ | refine TOps.fieldN 1 (he _ _ rfl) Try.underlying66 rfl rfl ti3 rfl rfl rfl ?_
        exact TOps.fin (Nrm.draw x (fun _ _ _ => rfl) rfl (by first | exact Le.refl _ | assumption | exact (by repeat (first | exact Le.refl _ | assumption | apply Le.drop))))
      · refine ⟨fun x S c he hw hd hc hcu hm _ => ?_, trivial⟩
        obtain ⟨h4, -⟩ := hd
        refine TOps.load1 h4 ti3 ((hr5 x c).fld 1 rfl) rfl ?_
        exact TOps.fin (Nrm.draw x (fun _ _ _ => rfl) rfl (by first | exact Le.refl _ | assumption | exact (by repeat (first | exact Le.refl _ | assumption | apply Le.drop))))
      · refine ⟨fun x S c he hw hd hc hcu hm _ => ?_, trivial⟩
        obtain rfl : c = 0 := hm rfl
        refine TOps.buildSlice0 Try.underlying50 ti3 rfl (fun b60 => ?_)
        refine TOps.fin (Nrm.draw (b60, x.2) ?_ rfl (Le.refl _))
        intro j hj hcj; rcases j with _|_|_|_|_|_|_|_|_|_|_|_|_|_|_|j <;> first | rfl | exact absurd rfl hj | exact absurd hcj (by decide)
      · refine ⟨fun x S c he hw hd hc hcu hm _ => ?_, trivial⟩
        first | refine TOps.fieldB 2 (he _ _ rfl) Try.underlying66 rfl rfl ti50 rfl rfl rfl ?_ | refine TOps.fieldN 2 (he _ _ rfl) Try.underlying66 rfl rfl ti50 rfl rfl rfl ?_
        exact TOps.fin (Nrm.draw x (fun _ _ _ => rfl) rfl (by first | exact Le.refl _ | assumption | exact (by repeat (first | exact Le.refl _ | assumption | apply Le.drop))))
      · refine ⟨fun x S c he hw hd hc hcu hm _ => ?_, trivial⟩
        obtain ⟨h7, -⟩ := hd
        refine TOps.load1 h7 ti50 ((hr5 x c).fld 2 rfl) rfl ?_
        exact TOps.fin (Nrm.draw x (fun _ _ _ => rfl) rfl (by first | exact Le.refl _ | assumption | exact (by repeat (first | exact Le.refl _ | assumption | apply Le.drop))))
      · refine ⟨fun x S c he hw hd hc hcu hm _ => ?_, trivial⟩
        obtain ⟨h6, h8, -⟩ := hd
        obtain rfl : c = 1 := hm rfl
        refine TOps.append (ys := ints d.args) h6 h8 Try.underlying50 ti3 rfl (fun _ _ => Upd.here) (RdS.up (RdS.up (RdS.up (RdS.up hBr)))) (by simp) rfl (oneInts d.args) (by omega) (by omega) rfl (fun a' cap' h0' => ?_)
        refine TOps.fin (Nrm.draw (x.1, ⟨a', h0'⟩, cap', x.2.2.2) ?_ rfl (Le.refl _))
        intro j hj hcj; rcases j with _|_|_|_|_|_|_|_|_|_|_|_|_|_|_|j <;> first | rfl | exact absurd rfl hj | exact absurd hcj (by decide)
      · refine ⟨fun x S c he hw hd hc hcu hm _ => ?_, trivial⟩
        obtain ⟨h3, h5, h9, -⟩ := hd
        refine TOps.buildStruct (vs := [(0, _), (1, _), (2, _)]) (xs := [_, _, _]) [(0, 1), (1, 1), (2, 1)] Try.underlying66 ti66 (fun w => by simp) ⟨rfl, h3, rfl, h5, rfl, h9, trivial⟩ rfl rfl ?_
        exact TOps.fin (Nrm.draw x (fun _ _ _ => rfl) rfl (by first | exact Le.refl _ | assumption | exact (by repeat (first | exact Le.refl _ | assumption | apply Le.drop))))
      · refine ⟨fun x S c he hw hd hc hcu hm _ => ?_, trivial⟩
        obtain ⟨h10, -⟩ := hd
        obtain rfl : c = 2 := hm rfl
        refine TOps.buildSlice (vs := [_]) (xs := [_, _, _]) Try.underlying22 ti66 ⟨rfl, h10, trivial⟩ rfl rfl rfl rfl rfl rfl (by decide) rfl (fun b65 => ?_)
        refine TOps.fin (Nrm.draw (x.1, x.2.1, x.2.2.1, b65, x.2.2.2.2) ?_ rfl (Le.refl _))
        intro j hj hcj; rcases j with _|_|_|_|_|_|_|_|_|_|_|_|_|_|_|j <;> first | rfl | exact absurd rfl hj | exact absurd hcj (by decide)
      · refine ⟨fun x S c he hw hd hc hcu hm _ => ?_, trivial⟩
        obtain ⟨h1, h11, h9, -⟩ := hd
        obtain rfl : c = 3 := hm rfl
        refine TOps.appendLit h1 h11 Try.underlying22 ti66 rfl (fun _ _ => (by repeat (first | exact Upd.here | apply Upd.there))) rfl (by rw [hcl, hkk]) rfl (by omega) (by omega) (by simp) rfl (fun b66 cap66 => ?_)
        refine TOps.fin (Nrm.draw (x.1, x.2.1, x.2.2.1, x.2.2.2.1, b66, cap66) ?_ rfl (Le.refl _))
        intro j hj hcj; rcases j with _|_|_|_|_|_|_|_|_|_|_|_|_|_|_|j <;> first | rfl | exact absurd rfl hj | exact absurd hcj (by decide)
      · refine ⟨fun x S c he hw hd hc hcu hm _ => ?_, trivial⟩
        obtain ⟨h0, h1, h2, h3, h4, h5, h6, h7, h8, h9, h10, h11, h12, -⟩ := hd
        first | refine TOps.fieldB 1 (he _ _ rfl) Try.underlying24 rfl rfl ti22 rfl rfl rfl ?_ | refine TOps.fieldN 1 (he _ _ rfl) Try.underlying24 rfl rfl ti22 rfl rfl rfl ?_
        exact TOps.fin (Nrm.draw x (fun _ _ _ => rfl) rfl (by first | exact Le.refl _ | assumption | exact (by repeat (first | exact Le.refl _ | assumption | apply Le.drop))))
      · refine ⟨fun x S c he hw hd hc hcu hm _ => ?_, trivial⟩
        obtain ⟨h13, h12, _, h0, h1, h2, h3, h4, h5, h6, h7, h8, h9, h10, h11, _, -⟩ := hd
        obtain rfl : c = 4 := hm rfl
        refine TOps.store1 h13 h12 ti22 rfl rfl (by repeat (first | exact Upd.here | apply Upd.there)) (by simp) ?_
        exact TOps.fin (Nrm.draw x (fun _ _ _ => rfl) rfl (by first | exact Le.refl _ | assumption | exact (by repeat (first | exact Le.refl _ | assumption | apply Le.drop))))
      ) (fun w => ?_)
    subst hHB hkk
    refine Nrm.body ((some w.2.2.2.2.1, w.2.2.2.2.2), qs ++ [(w.2.1.1, 0, w.2.2.1, none)], row w.2.1.1 3 1 w.2.2.1 (ints d.args) :: H3) (by rw [hsn]; exact ⟨ArgsIn.snoc (hp3.le (Le.drop (Le.refl _))) (RdS.ofRowA (List.Mem.head _) w.2.1.2), fun _ => ⟨_, rfl⟩⟩) ⟨rfl, rfl, rfl, rfl, rfl, rfl, rfl, trivial⟩ (by rw [hsn]; exact (Sp.le (by repeat (first | exact Sp.refl _ | exact Sp.sub (by assumption) | refine Sp.cons (by repeat (first | exact Pick.here | exact Pick.row (by first | (simp; done) | (rw [nsCells_snoc _ _ _ _ hp3.1, ← hCS]; simp [ndCells]; done)) | apply Pick.there)) ?_ | exact Sp.nil | apply Sp.skip))))
  obtain ⟨hp3, hp4⟩ := hp
  rw [List.take_length] at hM hp3 hp4
  obtain ⟨⟨oa1, ocap1⟩, qs1, H3⟩ := z
  dsimp only at hM hS hp3 hp4
  have hp1 : Le (H3 ++ H2) H2 := Le.sub (List.sublist_append_right _ _)
  have r1y := r1.le hp1
  refine Nrm.of hS hM ?_
  refine Nrm.next ?_
  refine Tri.seq ?_
  refine Tri.seq (Tri.region ?_)
  first | refine TOps.fieldB 1 rfl Try.underlying24 rfl rfl ti22 rfl rfl rfl ?_ | refine TOps.fieldN 1 rfl Try.underlying24 rfl rfl ti22 rfl rfl rfl ?_
  refine TOps.load1 rfl ti22 (by first | exact Rd.lit (by repeat (first | exact List.Mem.head _ | apply List.Mem.tail)) rfl | (repeat (first | assumption | exact Rd.fld (by assumption) 1 rfl | apply Rd.up))) rfl ?_
  refine TOps.len rfl Try.underlying22 rfl ?_
  refine TOps.move rfl rfl ?_
  refine TOps.next ?_
  refine Tri.range (X := (Option Nat × Nat) × List SA × List Ent) (fun z k => [(2, .pointer (some ⟨b2, 0, none⟩)), (3, .pointer (some ⟨b3, 0, none⟩)), (4, .pointer (some ⟨b4, 0, none⟩)), (8, .pointer (some ⟨b8, 0, none⟩)), (70, slV oa0 ooff O.nodes.length oc0 osp)]) (fun z k => row (some b8) 24 3 1 [.int .i64 I.vars, slV z.1.1 0 (I.nodes.length + k) z.1.2, .int .i64 0] :: row z.1.1 66 3 z.1.2 (nsCells (I.nodes ++ (O.nodes.take k).map (trN (putTab O I))) z.2.1) :: row (some b4) 24 3 1 [.int .i64 0, slV none 0 0 0, .int .i64 0] :: (z.2.2 ++ H2)) (fun z k => ArgsIn z.2.2 (I.nodes ++ (O.nodes.take k).map (trN (putTab O I))) z.2.1 ∧ (I.nodes ++ (O.nodes.take k).map (trN (putTab O I)) ≠ [] → ∃ b, z.1.1 = some b)) (by omega) rfl rfl rfl (fun _ _ => ⟨rfl, rfl, rfl, rfl⟩) ((oa1, ocap1), qs1, H3) ⟨by simpa using hp3, by simpa using hp4⟩ ⟨rfl, rfl, rfl, rfl, rfl, trivial⟩ (Sp.le (by repeat (first | exact Sp.refl _ | exact Sp.sub (by assumption) | refine Sp.cons (by repeat (first | exact Pick.here | exact Pick.row (by simp) | apply Pick.there)) ?_ | exact Sp.nil | apply Sp.skip))) (fun k z hlt hp => ?_) (fun z ac wc hp hS hM => ?_)
  · skip
    obtain ⟨⟨oa, ocap⟩, qs, H4⟩ := z
    obtain ⟨hq3, hq4⟩ := hp
    dsimp only at hq3 hq4 ⊢
    have hq1 : Le (H4 ++ H2) H2 := Le.sub (List.sublist_append_right _ _)
    obtain ⟨nb, aa, ao, acap, asp, rfl, rfl, hn⟩ := hNO.at hlt
    have hfi := hgO.fits k hlt
    have hcells := hn.cells
    have hal := hfi.len
    have hat := hfi.args
    obtain ⟨d, hd⟩ : ∃ d, d = O.nodes[k] := ⟨_, rfl⟩
    rw [← hd] at hcells hn hal hat
    replace hcells := hcells.le hq1; replace hn := hn.le hq1
    have r1' := r1.le hq1; have r2' := r2.le hq1; have hO1 := hO0.le hq1; have hI1 := hI0.le hq1
    have htk : (I.nodes ++ (O.nodes.take k).map (trN (putTab O I))).length = I.nodes.length + k := by rw [List.length_append, List.length_map, List.length_take]; omega
    have htake : I.nodes ++ (O.nodes.take (k + 1)).map (trN (putTab O I)) = (I.nodes ++ (O.nodes.take k).map (trN (putTab O I))) ++ [trN (putTab O I) d] := by rw [List.take_succ_eq_append_getElem hlt, List.map_append, ← hd]; simp
    refine Tri.seq (Tri.region ?_)
    refine TOps.indexAddr (off' := ooff + k * 3) rfl rfl Try.underlying22 ti66 (by omega) (by omega) (by simp) rfl ?_
    refine TOps.loadN (vs := [.int .i64 d.kind, .int .i64 d.k, slV aa ao d.args.length acap asp]) rfl ti66 (by repeat (first | exact hcells | apply Rd.up)) rfl rfl ?_
    refine TOps.alloc ti66 rfl (fun b12 => ?_)
    refine TOps.storeN rfl rfl ti66 rfl rfl (by repeat (first | exact Upd.here | apply Upd.there)) (by first | decide | (simp; done) | (simp; omega)) ?_
    refine TOps.next ?_
    refine Tri.seq (Tri.region ?_)
    refine TOps.assign rfl rfl ?_
    refine TOps.next ?_
    refine Tri.seq ?_
    refine Tri.seq (Tri.region ?_)
    first | refine TOps.fieldB 2 rfl Try.underlying66 rfl rfl ti50 rfl rfl rfl ?_ | refine TOps.fieldN 2 rfl Try.underlying66 rfl rfl ti50 rfl rfl rfl ?_
    refine TOps.load1 rfl ti50 (by first | exact Rd.lit (by repeat (first | exact List.Mem.head _ | apply List.Mem.tail)) rfl | (repeat (first | assumption | exact Rd.fld (by assumption) 2 rfl | apply Rd.up))) rfl ?_
    refine TOps.len rfl Try.underlying50 rfl ?_
    refine TOps.move rfl rfl ?_
    refine TOps.next ?_
    refine Tri.range (X := Option Nat × Nat) (fun y j => [(2, .pointer (some ⟨b2, 0, none⟩)), (3, .pointer (some ⟨b3, 0, none⟩)), (4, .pointer (some ⟨b4, 0, none⟩)), (8, .pointer (some ⟨b8, 0, none⟩)), (70, slV (some nb) ooff O.nodes.length oc0), (71, .int .i64 O.nodes.length), (72, .int .i64 k), (12, .pointer (some ⟨b12, 0, none⟩)), (13, slV y.1 0 j y.2), (77, slV aa ao d.args.length acap asp)]) (fun y j => row y.1 3 1 y.2 (ints (trA (putTab O I) (d.args.take j))) :: row (some b12) 66 3 1 [.int .i64 d.kind, .int .i64 d.k, slV aa ao d.args.length acap asp] :: row (some b8) 24 3 1 [.int .i64 I.vars, slV oa 0 (I.nodes.length + k) ocap, .int .i64 0] :: row oa 66 3 ocap (nsCells (I.nodes ++ (O.nodes.take k).map (trN (putTab O I))) qs) :: row (some b4) 24 3 1 [.int .i64 0, slV none 0 0 0, .int .i64 0] :: (H4 ++ H2)) (fun y j => j ≠ 0 → ∃ b, y.1 = some b) (by omega) rfl rfl rfl (fun _ _ => ⟨rfl, rfl, rfl, rfl⟩) (none, 0) (fun h => absurd rfl h) ⟨rfl, rfl, rfl, rfl, rfl, rfl, rfl, rfl, rfl, rfl, trivial⟩ Le.addNil (fun j y hltj hpj => ?_) (fun y ac wc hpj hS hM => ?_)
    · skip
      obtain ⟨ab, rfl, rfl, ha⟩ := RInts.at hn.args hltj
      have hb := hat _ (List.getElem_mem hltj)
      refine Tri.seq (Tri.region ?_)
      refine TOps.indexAddr (off' := ao + j) rfl rfl Try.underlying50 ti3 (by omega) (by omega) (by simp) rfl ?_
      refine TOps.load1 rfl ti3 (by first | exact Rd.lit (by repeat (first | exact List.Mem.head _ | apply List.Mem.tail)) rfl | (repeat (first | assumption | apply Rd.up))) rfl ?_
      refine TOps.assign rfl rfl ?_
      refine TOps.next ?_
      refine Tri.region ?_
      refine TOps.move rfl rfl ?_
      refine TOps.loadN rfl ti24 (by first | exact Rd.all (by repeat (first | exact List.Mem.head _ | apply List.Mem.tail)) | (repeat (first | assumption | apply Rd.up))) rfl rfl ?_
      refine TOps.loadN rfl ti24 (by first | exact Rd.all (by repeat (first | exact List.Mem.head _ | apply List.Mem.tail)) | (repeat (first | assumption | apply Rd.up))) rfl rfl ?_
      refine TOps.move rfl rfl ?_
      refine TOps.call (vs := [_, _, _]) Try.call44 ⟨rfl, rfl, rfl, trivial⟩ (moved_g (hO1.le (by repeat (first | exact Le.refl _ | apply Le.drop))) (hI1.le (by repeat (first | exact Le.refl _ | apply Le.drop))) hgO hgI hov d.args[j] (by omega) (by omega)) rfl ?_
      rintro _ _ ⟨rfl, rfl⟩
      refine TOps.buildSlice (vs := [_]) (xs := [_]) Try.underlying50 ti3 ⟨rfl, rfl, trivial⟩ rfl rfl rfl rfl rfl rfl (by decide) rfl (fun b88 => ?_)
      refine TOps.appendLit rfl rfl Try.underlying50 ti3 rfl (fun _ _ => Upd.here) rfl (by simp [trA_length]; omega) rfl (by omega) (by omega) (by simp) rfl (fun b63 cap63 => ?_)
      refine TOps.assign rfl rfl ?_
      refine TOps.fin ?_
      refine Nrm.body (some b63, cap63) (fun _ => ⟨_, rfl⟩) ⟨rfl, rfl, rfl, rfl, rfl, rfl, rfl, rfl, rfl, rfl, rfl, rfl, trivial⟩ (Le.rowEq (by rw [trA_take_succ hltj]; simp [ints]))
    rw [List.take_length] at hM
    refine Nrm.of hS hM ?_
    refine Nrm.next ?_
    refine Tri.region ?_
    first | refine TOps.fieldB 1 rfl Try.underlying24 rfl rfl ti22 rfl rfl rfl ?_ | refine TOps.fieldN 1 rfl Try.underlying24 rfl rfl ti22 rfl rfl rfl ?_
    refine TOps.load1 rfl ti22 (by first | exact Rd.lit (by repeat (first | exact List.Mem.head _ | apply List.Mem.tail)) rfl | (repeat (first | assumption | exact Rd.fld (by assumption) 1 rfl | apply Rd.up))) rfl ?_
    refine TOps.field0 rfl Try.underlying66 rfl rfl ti3 rfl rfl rfl ?_
    refine TOps.load1 rfl ti3 (by first | exact Rd.lit (by repeat (first | exact List.Mem.head _ | apply List.Mem.tail)) rfl | (repeat (first | assumption | exact Rd.fld (by assumption) 0 rfl | apply Rd.up))) rfl ?_
    first | refine TOps.fieldB 1 rfl Try.underlying66 rfl rfl ti3 rfl rfl rfl ?_ | refine TOps.fieldN 1 rfl Try.underlying66 rfl rfl ti3 rfl rfl rfl ?_
    refine TOps.load1 rfl ti3 (by first | exact Rd.lit (by repeat (first | exact List.Mem.head _ | apply List.Mem.tail)) rfl | (repeat (first | assumption | exact Rd.fld (by assumption) 1 rfl | apply Rd.up))) rfl ?_
    refine TOps.move rfl rfl ?_
    refine TOps.buildStruct (vs := [(0, _), (1, _), (2, _)]) (xs := [_, _, _]) [(0, 1), (1, 1), (2, 1)] Try.underlying66 ti66 (fun w => by simp) ⟨rfl, rfl, rfl, rfl, rfl, rfl, trivial⟩ rfl rfl ?_
    refine TOps.buildSlice (vs := [_]) (xs := [_, _, _]) Try.underlying22 ti66 ⟨rfl, rfl, trivial⟩ rfl rfl rfl rfl rfl rfl (by decide) rfl (fun b99 => ?_)
    refine TOps.appendLit rfl rfl Try.underlying22 ti66 rfl (fun _ _ => (by repeat (first | exact Upd.here | apply Upd.there))) rfl (by rw [nsCells_length _ _ hq3.1, htk]) rfl (by omega) (by omega) (by simp) rfl (fun b86 cap86 => ?_)
    first | refine TOps.fieldB 1 rfl Try.underlying24 rfl rfl ti22 rfl rfl rfl ?_ | refine TOps.fieldN 1 rfl Try.underlying24 rfl rfl ti22 rfl rfl rfl ?_
    refine TOps.store1 rfl rfl ti22 rfl rfl (by repeat (first | exact Upd.here | apply Upd.there)) (by first | decide | (simp; done) | (simp; omega) | exact (show (1 : Nat) < 3 by decide)) ?_
    refine TOps.fin ?_
    refine Nrm.body ((some b86, cap86), qs ++ [(y.1, 0, y.2, none)], row y.1 3 1 y.2 (ints (trA (putTab O I) d.args)) :: H4) (by rw [htake]; exact ⟨ArgsIn.snoc (hq3.le (Le.drop (Le.refl _))) (RdS.ofRowA (List.Mem.head _) (fun h => hpj (fun h0 => h (by simp [List.eq_nil_of_length_eq_zero h0, trA, trN])))), fun _ => ⟨_, rfl⟩⟩) ⟨rfl, rfl, rfl, rfl, rfl, rfl, rfl, trivial⟩ (by rw [htake]; exact (Sp.le (by repeat (first | exact Sp.refl _ | exact Sp.sub (by assumption) | refine Sp.cons (by repeat (first | exact Pick.here | exact Pick.row (by first | (simp; done) | (dsimp only; rw [nsCells_snoc _ _ _ _ hq3.1]; simp [ndCells, trN, trA_length]; done)) | apply Pick.there)) ?_ | exact Sp.nil | apply Sp.skip))))
  obtain ⟨hq3, hq4⟩ := hp
  have hq1 : Le (z.2.2 ++ H2) H2 := Le.sub (List.sublist_append_right _ _)
  rw [List.take_length] at hM hq3 hq4
  replace r1 := r1.le hq1; replace r2 := r2.le hq1; replace hO0 := hO0.le hq1; replace hI0 := hI0.le hq1
  refine Nrm.of hS hM ?_
  refine Nrm.next ?_
  refine Tri.seq (Tri.region ?_)
  refine TOps.loadN rfl ti24 (by first | exact Rd.all (by repeat (first | exact List.Mem.head _ | apply List.Mem.tail)) | (repeat (first | assumption | apply Rd.up))) rfl rfl ?_
  refine TOps.loadN rfl ti24 (by first | exact Rd.all (by repeat (first | exact List.Mem.head _ | apply List.Mem.tail)) | (repeat (first | assumption | apply Rd.up))) rfl rfl ?_
  first | refine TOps.fieldB 2 rfl Try.underlying24 rfl rfl ti3 rfl rfl rfl ?_ | refine TOps.fieldN 2 rfl Try.underlying24 rfl rfl ti3 rfl rfl rfl ?_
  refine TOps.load1 rfl ti3 (by first | exact Rd.lit (by repeat (first | exact List.Mem.head _ | apply List.Mem.tail)) rfl | (repeat (first | assumption | exact Rd.fld (by assumption) 2 rfl | apply Rd.up))) rfl ?_
  refine TOps.call (vs := [_, _, _]) Try.call44 ⟨rfl, rfl, rfl, trivial⟩ (moved_g (hO0.le (by repeat (first | exact Le.refl _ | apply Le.drop))) (hI0.le (by repeat (first | exact Le.refl _ | apply Le.drop))) hgO hgI hov O.top (by omega) (by omega)) rfl ?_
  rintro _ _ ⟨rfl, rfl⟩
  first | refine TOps.fieldB 2 rfl Try.underlying24 rfl rfl ti3 rfl rfl rfl ?_ | refine TOps.fieldN 2 rfl Try.underlying24 rfl rfl ti3 rfl rfl rfl ?_
  refine TOps.store1 rfl rfl ti3 rfl rfl (by repeat (first | exact Upd.here | apply Upd.there)) (by first | decide | (simp; done) | (simp; omega) | exact (show (2 : Nat) < 3 by decide)) ?_
  refine TOps.next ?_
  refine Tri.seq (Tri.region ?_)
  refine TOps.loadN rfl ti24 (by first | exact Rd.all (by repeat (first | exact List.Mem.head _ | apply List.Mem.tail)) | (repeat (first | assumption | apply Rd.up))) rfl rfl ?_
  refine TOps.storeN rfl rfl ti24 rfl rfl (by repeat (first | exact Upd.here | apply Upd.there)) (by first | decide | (simp; done) | (simp; omega)) ?_
  refine TOps.assign rfl rfl ?_
  refine TOps.next ?_
  refine Tri.ret2 (H' := (row z.1.1 66 3 z.1.2 (nsCells (I.nodes ++ O.nodes.map (trN (putTab O I))) z.2.1) :: z.2.2) ++ H) Try.results19 (fun _ _ h => h) (.cellN rfl rfl ti24 (Rd.all (by repeat (first | exact List.Mem.head _ | apply List.Mem.tail))) rfl) (.tmp rfl) ?_ ⟨z.1.1, z.1.2, row z.1.1 66 3 z.1.2 (nsCells (I.nodes ++ O.nodes.map (trN (putTab O I))) z.2.1) :: z.2.2, ?_, ?_, rfl⟩
  · exact Le.sub (by simp only [List.cons_append]; repeat (first | exact List.Sublist.cons_cons _ (List.Sublist.cons _ (List.Sublist.append_left (s1.trans s2) _)) | apply List.Sublist.cons))
  · unfold Fm.putF Fm.put; rw [hpe]; simp; rfl
  · unfold Fm.putF; rw [hpe]
    exact RNodes.ofA (E := 66) (sz := 3) (cap := z.1.2) (List.Mem.head _) (hq3.le (Le.drop (Le.refl _))) hq4
theorem rput_g {H : List Ent} {ov iv : Value} {O I : Fm} (hO : RF H ov O) (hI : RF H iv I) (hkO : O.ok) (hkI : I.ok) :
    Gives Try.prog 19 [ov, iv] H (fun u H' => ∃ tv, u = .tuple (List.toArray [tv, .int .i64 ((O.putErr I).getD 0)]) ∧ NewF (O.putF I) H tv H') := by
  intro w hM
  refine (rputN_g hO hI hkO hkI w hM).mono fun e W' h => ?_
  obtain ⟨v, H', ⟨a, cap, N, h1, h2, h3⟩, h4, h5⟩ := h
  subst h3
  exact ⟨v, N ++ H, ⟨_, h1, Le.sub (List.sublist_append_right _ _), List.sublist_append_right _ _, ⟨a, 0, cap, none, rfl, h2.le (Le.sub (List.sublist_append_left _ _))⟩⟩, h4, h5⟩
end Go.Proofs
