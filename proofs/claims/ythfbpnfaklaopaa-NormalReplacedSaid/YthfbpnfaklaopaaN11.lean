import Derived.Test.YthfbpnfaklaopaaM11
import Derived.Test.YthfbpnfaklaopaaGL74
namespace Go.Proofs
open Go.GL
set_option linter.unusedVariables false
set_option linter.unusedSimpArgs false
theorem normalReplaces_g {H : List Ent} {fv gv : Value} {F G : Fm} (hF : RF H fv F) (hk : F.ok) (hG : RF H gv G) (hkG : G.ok) (e : Int) (hei : I64 e) :
    Gives Try.prog 4 [fv, gv, .int .i64 e] H (R1 (.bool true) H) := by
  have hF0 := hF
  have hG0 := hG
  obtain ⟨X, hX⟩ : ∃ X, F.replF e G = X := ⟨_, rfl⟩
  obtain ⟨E, hE⟩ : ∃ E, F.replE e G = E := ⟨_, rfl⟩
  have hko := replF_ok F e G
  rw [hX] at hko
  obtain ⟨na, off, cap, nsp, rfl, hN⟩ := hF
  obtain ⟨ma, mo, mc, ms, rfl, hM2⟩ := hG
  refine Gives.enter Try.func4 rfl (by exact Try.ntmps4) rfl ?_
  refine Tri.seq (Tri.region ?_)
  refine TOps.boxN rfl ti24 rfl rfl (fun b3 => ?_)
  refine TOps.hide (fun H0 l0 s0 r3 => ?_)
  replace hF0 := hF0.le l0; replace hG0 := hG0.le l0
  refine TOps.boxN rfl ti24 rfl rfl (fun b4 => ?_)
  refine TOps.hide (fun H1 l1 s1 r4 => ?_)
  replace hF0 := hF0.le l1; replace hG0 := hG0.le l1; replace r3 := r3.le l1
  replace l1 := l1.trans l0
  refine TOps.assign rfl rfl ?_
  refine TOps.next ?_
  refine Tri.seq ?_
  refine Tri.seq (Tri.region ?_)
  refine TOps.call (vs := []) Try.call11 trivial (awake11_g) rfl ?_
  rintro _ _ ⟨rfl, rfl⟩
  refine TOps.not rfl rfl ?_
  refine TOps.move rfl rfl ?_
  refine' TOps.orB 3 rfl rfl rfl rfl (fun hg1_2 => ?_) ?_; rotate_left
  · have hg1_2' := hg1_2
    try simp only [decide_eq_true_eq, decide_eq_false_iff_not, Bool.and_eq_true, Bool.or_eq_true, Bool.not_eq_true', Bool.and_eq_false_iff, Bool.or_eq_false_iff, Bool.not_eq_false', Int.not_lt, Int.not_le, ne_eq, Decidable.not_not] at hg1_2'
    refine TOps.strip 2 false rfl rfl hg1_2 rfl ?_
    refine TOps.loadN rfl ti24 (by first | exact Rd.all (by repeat (first | exact List.Mem.head _ | apply List.Mem.tail)) | (repeat (first | assumption | apply Rd.up))) rfl rfl ?_
    refine TOps.call (vs := [_]) Try.call12 ⟨rfl, trivial⟩ (light_g hF0 hk) rfl ?_
    rintro _ _ ⟨rfl, rfl⟩
    refine TOps.not rfl rfl ?_
    refine TOps.blk rfl (by repeat (first | exact Ext.refl _ | refine Ext.cons rfl ?_)) (by repeat (first | exact Le.refl _ | apply Le.drop))
  refine TOps.move rfl rfl ?_
  refine' TOps.orB 3 rfl rfl rfl rfl (fun hg1_7 => ?_) ?_; rotate_left
  · have hg1_7' := hg1_7
    try simp only [decide_eq_true_eq, decide_eq_false_iff_not, Bool.and_eq_true, Bool.or_eq_true, Bool.not_eq_true', Bool.and_eq_false_iff, Bool.or_eq_false_iff, Bool.not_eq_false', Int.not_lt, Int.not_le, ne_eq, Decidable.not_not] at hg1_7'
    refine TOps.strip 7 false rfl rfl hg1_7 rfl ?_
    refine TOps.loadN rfl ti24 (by first | exact Rd.all (by repeat (first | exact List.Mem.head _ | apply List.Mem.tail)) | (repeat (first | assumption | apply Rd.up))) rfl rfl ?_
    refine TOps.call (vs := [_]) Try.call12 ⟨rfl, trivial⟩ (light_g hG0 hkG) rfl ?_
    rintro _ _ ⟨rfl, rfl⟩
    refine TOps.not rfl rfl ?_
    refine TOps.blk rfl (by repeat (first | exact Ext.refl _ | refine Ext.cons rfl ?_)) (by repeat (first | exact Le.refl _ | apply Le.drop))
  refine TOps.next ?_
  refine Tri.cond rfl (fun hc1 => ?_) (fun hc1 => ?_)
  · try simp only [decide_eq_true_eq, decide_eq_false_iff_not, Bool.and_eq_true, Bool.or_eq_true, Bool.not_eq_true', Bool.and_eq_false_iff, Bool.or_eq_false_iff, Bool.not_eq_false', Int.not_lt, Int.not_le, ne_eq, Decidable.not_not, Option.isSome_iff_ne_none, Option.isNone_iff_eq_none] at hc1
    refine Tri.seq (Tri.region ?_)
    refine TOps.call (vs := []) Try.call11 trivial (awake11_g) rfl ?_
    rintro _ _ ⟨rfl, rfl⟩
    refine TOps.assign rfl rfl ?_
    refine TOps.next ?_
    refine Tri.ret1 (H' := H) Try.results4 (fun _ _ h => h) (.tmp rfl) l1 ⟨rfl, rfl⟩
  try simp only [decide_eq_true_eq, decide_eq_false_iff_not, Bool.and_eq_true, Bool.or_eq_true, Bool.not_eq_true', Bool.and_eq_false_iff, Bool.or_eq_false_iff, Bool.not_eq_false', Int.not_lt, Int.not_le, ne_eq, Decidable.not_not, Option.isSome_iff_ne_none, Option.isNone_iff_eq_none] at hc1
  refine Tri.fin ?_
  refine Nrm.next ?_
  refine Tri.seq (Tri.region ?_)
  refine TOps.loadN rfl ti24 (by first | exact Rd.all (by repeat (first | exact List.Mem.head _ | apply List.Mem.tail)) | (repeat (first | assumption | apply Rd.up))) rfl rfl ?_
  refine TOps.move rfl rfl ?_
  refine TOps.loadN rfl ti24 (by first | exact Rd.all (by repeat (first | exact List.Mem.head _ | apply List.Mem.tail)) | (repeat (first | assumption | apply Rd.up))) rfl rfl ?_
  refine TOps.call (vs := [_, _, _]) Try.call17 ⟨rfl, rfl, rfl, trivial⟩ (replace_g hF0 hk hG0 hkG e hei) rfl ?_
  rintro _ _ ⟨a, c, NN, rfl, hN2, rfl⟩
  rw [hE, hX]
  rw [hX] at hN2
  refine TOps.move rfl rfl ?_
  refine TOps.extract rfl rfl rfl ?_
  refine TOps.extract rfl rfl rfl ?_
  refine TOps.alloc ti24 rfl (fun b7 => ?_)
  refine TOps.storeN rfl rfl ti24 rfl rfl (by repeat (first | exact Upd.here | apply Upd.there)) (by first | decide | (simp; done) | (simp; omega)) ?_
  refine TOps.assign rfl rfl ?_
  refine TOps.hide (fun H2 l2 s2 r7 => ?_)
  replace r7 : Rd H2 b7 0 [.int .i64 X.vars, slV a 0 X.nodes.length c, .int .i64 X.top] := r7
  have l3 := l2.trans (Le.sub (List.sublist_append_right NN H1))
  have hXf : RF H2 (.agg (List.toArray [.int .i64 X.vars, slV a 0 X.nodes.length c, .int .i64 X.top])) X := ⟨a, 0, c, none, rfl, hN2.le (l2.trans (Le.sub (List.sublist_append_left _ _)))⟩
  replace hF0 := hF0.le l3; replace hG0 := hG0.le l3; replace r3 := r3.le l3; replace r4 := r4.le l3
  have l4 := l3.trans l1
  refine TOps.next ?_
  refine Tri.seq (Tri.region ?_)
  refine TOps.loadN rfl ti24 (by first | exact Rd.all (by repeat (first | exact List.Mem.head _ | apply List.Mem.tail)) | (repeat (first | assumption | apply Rd.up))) rfl rfl ?_
  refine TOps.call (vs := [_]) Try.call14 ⟨rfl, trivial⟩ (rcheck_g hF0 hk) rfl ?_
  rintro _ _ ⟨rfl, rfl⟩
  refine TOps.assign rfl rfl ?_
  obtain ⟨cc, hcc⟩ : ∃ cc, cc = codeOf F G := ⟨_, rfl⟩
  refine TOps.next ?_
  refine Tri.seqMid (X := Unit) (fun y => [(3, .pointer (some ⟨b3, 0, none⟩)), (4, .pointer (some ⟨b4, 0, none⟩)), (2, .int .i64 e), (7, .pointer (some ⟨b7, 0, none⟩)), (8, errV 47 E), (9, .int .i64 cc)]) (fun y => H2) (fun y => True) ?_ (fun y hmid => ?_)
  · skip
    refine Tri.seq (Tri.region ?_)
    refine TOps.move rfl rfl ?_
    refine TOps.eqlI rfl rfl rfl ?_
    refine TOps.next ?_
    refine Tri.cond rfl (fun hc2 => ?_) (fun hc2 => ?_)
    · try simp only [decide_eq_true_eq, decide_eq_false_iff_not, Bool.and_eq_true, Bool.or_eq_true, Bool.not_eq_true', Bool.and_eq_false_iff, Bool.or_eq_false_iff, Bool.not_eq_false', Int.not_lt, Int.not_le, ne_eq, Decidable.not_not, Option.isSome_iff_ne_none, Option.isNone_iff_eq_none] at hc2
      obtain rfl : cc = G.err.getD 0 := by rw [hcc]; unfold codeOf; rw [if_pos hc2]
      refine Tri.region ?_
      refine TOps.loadN rfl ti24 (by first | exact Rd.all (by repeat (first | exact List.Mem.head _ | apply List.Mem.tail)) | (repeat (first | assumption | apply Rd.up))) rfl rfl ?_
      refine TOps.call (vs := [_]) Try.call14 ⟨rfl, trivial⟩ (rcheck_g hG0 hkG) rfl ?_
      rintro _ _ ⟨rfl, rfl⟩
      refine TOps.assign rfl rfl ?_
      refine TOps.fin ?_
      refine Nrm.mid () trivial (by exact ⟨rfl, rfl, rfl, rfl, rfl, rfl, trivial⟩) (by repeat (first | exact Le.refl _ | assumption | apply Le.drop))
    try simp only [decide_eq_true_eq, decide_eq_false_iff_not, Bool.and_eq_true, Bool.or_eq_true, Bool.not_eq_true', Bool.and_eq_false_iff, Bool.or_eq_false_iff, Bool.not_eq_false', Int.not_lt, Int.not_le, ne_eq, Decidable.not_not, Option.isSome_iff_ne_none, Option.isNone_iff_eq_none] at hc2
    obtain rfl : cc = F.err.getD 0 := by rw [hcc]; unfold codeOf; rw [if_neg hc2]
    refine Tri.fin ?_
    refine Nrm.mid () trivial (by exact ⟨rfl, rfl, rfl, rfl, rfl, rfl, trivial⟩) (by repeat (first | exact Le.refl _ | assumption | apply Le.drop))
  refine Tri.seq ?_
  refine Tri.seq (Tri.region ?_)
  refine TOps.move rfl rfl ?_
  refine TOps.neqI rfl rfl rfl ?_
  refine TOps.next ?_
  refine Tri.cond rfl (fun hc3 => ?_) (fun hc3 => ?_)
  · try simp only [decide_eq_true_eq, decide_eq_false_iff_not, Bool.and_eq_true, Bool.or_eq_true, Bool.not_eq_true', Bool.and_eq_false_iff, Bool.or_eq_false_iff, Bool.not_eq_false', Int.not_lt, Int.not_le, ne_eq, Decidable.not_not, Option.isSome_iff_ne_none, Option.isNone_iff_eq_none] at hc3
    rw [hcc] at hc3
    obtain ⟨e1, e2⟩ := repl_bad (e := e) hc3
    rw [hE] at e1
    rw [hX] at e2
    refine Tri.seq (Tri.region ?_)
    refine TOps.loadN rfl ti24 (by first | exact Rd.all (by repeat (first | exact List.Mem.head _ | apply List.Mem.tail)) | (repeat (first | assumption | apply Rd.up))) rfl rfl ?_
    refine TOps.move rfl rfl ?_
    refine TOps.buildStruct (vs := []) (xs := [_, _, _]) [(0, 1), (1, 1), (2, 1)] Try.underlying24 ti24 (fun w => by simp) trivial rfl rfl ?_
    refine TOps.move rfl rfl ?_
    refine TOps.call (vs := [_, _, _, _]) Try.call15 ⟨rfl, rfl, rfl, rfl, trivial⟩ (same_g hXf rfZero E cc hko.2.2.2 (fun d hd => (hko.2.2.1 d hd).2.2.2) (fun d hd => by simp [Fm.zero] at hd)) rfl ?_
    rintro _ _ ⟨rfl, rfl⟩
    refine TOps.assign rfl rfl ?_
    refine TOps.next ?_
    refine Tri.ret1 (H' := H) Try.results4 (fun _ _ h => h) (.tmp rfl) l4 ⟨by rw [e1, e2, hcc]; simp, rfl⟩
  try simp only [decide_eq_true_eq, decide_eq_false_iff_not, Bool.and_eq_true, Bool.or_eq_true, Bool.not_eq_true', Bool.and_eq_false_iff, Bool.or_eq_false_iff, Bool.not_eq_false', Int.not_lt, Int.not_le, ne_eq, Decidable.not_not, Option.isSome_iff_ne_none, Option.isNone_iff_eq_none] at hc3
  rw [hcc] at hc3
  obtain ⟨he, heG⟩ := code_zero hc3
  have hg := (Fm.good_iff F).1 he
  have hgG := (Fm.good_iff G).1 heG
  refine Tri.fin ?_
  refine Nrm.next ?_
  refine Tri.seq (Tri.region ?_)
  refine TOps.loadN rfl ti24 (by first | exact Rd.all (by repeat (first | exact List.Mem.head _ | apply List.Mem.tail)) | (repeat (first | assumption | apply Rd.up))) rfl rfl ?_
  refine TOps.move rfl rfl ?_
  refine TOps.loadN rfl ti24 (by first | exact Rd.all (by repeat (first | exact List.Mem.head _ | apply List.Mem.tail)) | (repeat (first | assumption | apply Rd.up))) rfl rfl ?_
  refine TOps.call (vs := [_, _, _]) Try.call18 ⟨rfl, rfl, rfl, trivial⟩ (rreplace_g hF0 hg hG0 hgG e hei) rfl ?_
  rintro _ _ ⟨a2, c2, NN2, rfl, hN3, rfl⟩
  rw [hE, hX]
  rw [hX] at hN3
  refine TOps.move rfl rfl ?_
  refine TOps.extract rfl rfl rfl ?_
  refine TOps.extract rfl rfl rfl ?_
  refine TOps.alloc ti24 rfl (fun b10 => ?_)
  refine TOps.storeN rfl rfl ti24 rfl rfl (by repeat (first | exact Upd.here | apply Upd.there)) (by first | decide | (simp; done) | (simp; omega)) ?_
  refine TOps.assign rfl rfl ?_
  refine TOps.hide (fun H3 l5 s5 r10 => ?_)
  replace r10 : Rd H3 b10 0 [.int .i64 X.vars, slV a2 0 X.nodes.length c2, .int .i64 X.top] := r10
  have l6 := l5.trans (Le.sub (List.sublist_append_right NN2 H2))
  have hY : RF H3 (.agg (List.toArray [.int .i64 X.vars, slV a2 0 X.nodes.length c2, .int .i64 X.top])) X := ⟨a2, 0, c2, none, rfl, hN3.le (l5.trans (Le.sub (List.sublist_append_left _ _)))⟩
  replace hXf := hXf.le l6; replace r7 := r7.le l6
  refine TOps.next ?_
  refine Tri.seq (Tri.region ?_)
  refine TOps.loadN rfl ti24 (by first | exact Rd.all (by repeat (first | exact List.Mem.head _ | apply List.Mem.tail)) | (repeat (first | assumption | apply Rd.up))) rfl rfl ?_
  refine TOps.move rfl rfl ?_
  refine TOps.loadN rfl ti24 (by first | exact Rd.all (by repeat (first | exact List.Mem.head _ | apply List.Mem.tail)) | (repeat (first | assumption | apply Rd.up))) rfl rfl ?_
  refine TOps.move rfl rfl ?_
  refine TOps.call (vs := [_, _, _, _]) Try.call15 ⟨rfl, rfl, rfl, rfl, trivial⟩ (same_g hXf hY E (E.getD 0) hko.2.2.2 (fun d hd => (hko.2.2.1 d hd).2.2.2) (fun d hd => (hko.2.2.1 d hd).2.2.2)) rfl ?_
  rintro _ _ ⟨rfl, rfl⟩
  refine TOps.assign rfl rfl ?_
  refine TOps.next ?_
  refine Tri.ret1 (H' := H) Try.results4 (fun _ _ h => h) (.tmp rfl) (l6.trans l4) ⟨by simp, rfl⟩
end Go.Proofs
