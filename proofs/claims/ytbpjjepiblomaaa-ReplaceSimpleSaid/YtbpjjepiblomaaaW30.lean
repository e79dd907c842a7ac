import Derived.Test.YtbpjjepiblomaaaT30
import Derived.Test.YtbpjjepiblomaaaGL62
namespace Go.Proofs
open Go.GL
set_option linter.unusedVariables false
set_option linter.unusedSimpArgs false
set_option maxHeartbeats 4000000 in
theorem replaceSimple_g {H : List Ent} {fv : Value} {F : Fm} (hF : RF H fv F) (hk : F.ok) :
    Gives Try.prog 6 [fv] H (R1 (.bool true) H) := by
  have hF0 := hF
  obtain ⟨na, off, ncap, nsp, rfl, hN⟩ := hF
  refine Gives.enter Try.func6 rfl (by exact Try.ntmps6) rfl ?_
  refine Tri.seq (Tri.region ?_)
  refine TOps.boxN rfl ti24 rfl rfl (fun b1 => ?_)
  refine TOps.hide (fun H1 l1 s1 r1 => ?_)
  replace hF0 := hF0.le l1
  refine TOps.assign rfl rfl ?_
  refine TOps.next ?_
  refine Tri.seq ?_
  refine Tri.seq (Tri.region ?_)
  refine TOps.call (vs := []) Try.call10 trivial (awake30_g) rfl ?_
  rintro _ _ ⟨rfl, rfl⟩
  refine TOps.not rfl rfl ?_
  refine TOps.move rfl rfl ?_
  refine' TOps.orB 2 rfl rfl rfl rfl (fun hg1_2 => ?_) ?_; rotate_left
  · have hg1_2' := hg1_2
    try simp only [decide_eq_true_eq, decide_eq_false_iff_not, Bool.and_eq_true, Bool.or_eq_true, Bool.not_eq_true', Bool.and_eq_false_iff, Bool.or_eq_false_iff, Bool.not_eq_false', Int.not_lt, Int.not_le, ne_eq, Decidable.not_not] at hg1_2'
    refine TOps.strip 2 false rfl rfl hg1_2 rfl ?_
    refine TOps.loadN rfl ti24 (by first | exact Rd.all (by repeat (first | exact List.Mem.head _ | apply List.Mem.tail)) | (repeat (first | assumption | apply Rd.up))) rfl rfl ?_
    refine TOps.call (vs := [_]) Try.call11 ⟨rfl, trivial⟩ (heavy_g hF0 hk) rfl ?_
    rintro _ _ ⟨rfl, rfl⟩
    refine TOps.blk rfl (by repeat (first | exact Ext.refl _ | refine Ext.cons rfl ?_)) (by repeat (first | exact Le.refl _ | apply Le.drop))
  refine TOps.move rfl rfl ?_
  refine' TOps.orB 3 rfl rfl rfl rfl (fun hg1_6 => ?_) ?_; rotate_left
  · have hg1_6' := hg1_6
    try simp only [decide_eq_true_eq, decide_eq_false_iff_not, Bool.and_eq_true, Bool.or_eq_true, Bool.not_eq_true', Bool.and_eq_false_iff, Bool.or_eq_false_iff, Bool.not_eq_false', Int.not_lt, Int.not_le, ne_eq, Decidable.not_not] at hg1_6'
    refine TOps.strip 6 false rfl rfl hg1_6 rfl ?_
    refine TOps.loadN rfl ti24 (by first | exact Rd.all (by repeat (first | exact List.Mem.head _ | apply List.Mem.tail)) | (repeat (first | assumption | apply Rd.up))) rfl rfl ?_
    refine TOps.call (vs := [_]) Try.call22 ⟨rfl, trivial⟩ (check_g hF0 hk) rfl ?_
    rintro _ _ ⟨rfl, rfl⟩
    refine TOps.neqNil (T := 45) (o := F.err) rfl Try.underlying28 rfl ?_
    refine TOps.blk rfl (by repeat (first | exact Ext.refl _ | refine Ext.cons rfl ?_)) (by repeat (first | exact Le.refl _ | apply Le.drop))
  refine TOps.next ?_
  refine Tri.cond rfl (fun hc1 => ?_) (fun hc1 => ?_)
  · try simp only [decide_eq_true_eq, decide_eq_false_iff_not, Bool.and_eq_true, Bool.or_eq_true, Bool.not_eq_true', Bool.and_eq_false_iff, Bool.or_eq_false_iff, Bool.not_eq_false', Int.not_lt, Int.not_le, ne_eq, Decidable.not_not, Option.isSome_iff_ne_none, Option.isNone_iff_eq_none] at hc1
    refine Tri.seq (Tri.region ?_)
    refine TOps.call (vs := []) Try.call10 trivial (awake30_g) rfl ?_
    rintro _ _ ⟨rfl, rfl⟩
    refine TOps.assign rfl rfl ?_
    refine TOps.next ?_
    refine Tri.ret1 (H' := H) Try.results6 (fun _ _ h => h) (.tmp rfl) l1 ⟨rfl, rfl⟩
  try simp only [decide_eq_true_eq, decide_eq_false_iff_not, Bool.and_eq_true, Bool.or_eq_true, Bool.not_eq_true', Bool.and_eq_false_iff, Bool.or_eq_false_iff, Bool.not_eq_false', Int.not_lt, Int.not_le, ne_eq, Decidable.not_not, Option.isSome_iff_ne_none, Option.isNone_iff_eq_none] at hc1
  have he : F.err = none := by simpa using hc1.2
  have hg := (Fm.good_iff F).1 he
  have g0 := hg.v0; have g1 := hg.v1
  obtain ⟨LR, hLR⟩ : ∃ LR, levR F = LR := ⟨_, rfl⟩
  have hLF : levF (25 - F.vars.toNat) F [] = LR := by rw [← hLR]; unfold levR; rw [he]
  have hgd := levF_good (25 - F.vars.toNat) F [] hg (fun x hx => by simp at hx)
  have hlen := levF_len (25 - F.vars.toNat) F []
  have hler := levF_err (25 - F.vars.toNat) F [] hg
  rw [hLF] at hgd hlen hler
  rw [List.length_nil] at hlen
  refine Tri.fin ?_
  refine Nrm.next ?_
  refine Tri.seq (Tri.region ?_)
  refine TOps.loadN rfl ti24 (by first | exact Rd.all (by repeat (first | exact List.Mem.head _ | apply List.Mem.tail)) | (repeat (first | assumption | apply Rd.up))) rfl rfl ?_
  refine TOps.call (vs := [_]) Try.call23 ⟨rfl, trivial⟩ (levelsAll_g hF0 hk hLR) rfl ?_
  rintro _ H6 ⟨la, lc, rfl, l6, hL1⟩
  have r2 := r1.le l6
  refine TOps.move rfl rfl ?_
  refine TOps.extract rfl rfl rfl ?_
  refine TOps.extract rfl rfl rfl ?_
  refine TOps.assign rfl rfl ?_
  refine TOps.assign rfl rfl ?_
  refine TOps.next ?_
  refine Tri.seq ?_
  refine Tri.seq (Tri.region ?_)
  refine TOps.move rfl rfl ?_
  refine TOps.neqNil (T := 45) (o := LR.2) rfl Try.underlying28 rfl ?_
  refine TOps.next ?_
  refine Tri.cond rfl (fun hc2 => ?_) (fun hc2 => ?_)
  · try simp only [decide_eq_true_eq, decide_eq_false_iff_not, Bool.and_eq_true, Bool.or_eq_true, Bool.not_eq_true', Bool.and_eq_false_iff, Bool.or_eq_false_iff, Bool.not_eq_false', Int.not_lt, Int.not_le, ne_eq, Decidable.not_not, Option.isSome_iff_ne_none, Option.isNone_iff_eq_none] at hc2
    refine Tri.seq (Tri.region ?_)
    refine TOps.move rfl rfl ?_
    refine TOps.call (vs := [_, _]) Try.call21 ⟨rfl, rfl, trivial⟩ (is_g LR.2 4) rfl ?_
    rintro _ _ ⟨rfl, rfl⟩
    refine TOps.assign rfl rfl ?_
    refine TOps.next ?_
    refine Tri.ret1 (H' := H) Try.results6 (fun _ _ h => h) (.tmp rfl) (l6.trans l1) ⟨by rcases hler with h | h <;> simp_all, rfl⟩
  try simp only [decide_eq_true_eq, decide_eq_false_iff_not, Bool.and_eq_true, Bool.or_eq_true, Bool.not_eq_true', Bool.and_eq_false_iff, Bool.or_eq_false_iff, Bool.not_eq_false', Int.not_lt, Int.not_le, ne_eq, Decidable.not_not, Option.isSome_iff_ne_none, Option.isNone_iff_eq_none] at hc2
  have hL2 : LR.2 = none := by simpa using hc2
  obtain ⟨M, hM, hMne, hall⟩ := levF_simple (25 - F.vars.toNat) F [] LR.1 hg (by omega) (by rw [hLF, ← hL2])
  rw [List.nil_append] at hM
  rw [← hM] at hMne hall
  have hpos : 0 < LR.1.length := List.length_pos_iff.2 hMne
  refine Tri.fin ?_
  refine Nrm.next ?_
  refine Tri.seq ?_
  refine Tri.seq (Tri.region ?_)
  refine TOps.move rfl rfl ?_
  refine TOps.len rfl Try.underlying38 rfl ?_
  refine TOps.move rfl rfl ?_
  refine TOps.next ?_
  refine Tri.range (X := Unit) (fun x k => [(1, .pointer (some ⟨b1, 0, none⟩)), (3, slV la 0 LR.1.length lc), (31, slV la 0 LR.1.length lc)]) (fun x k => H6) (fun x k => True) (by omega) rfl rfl rfl (fun _ _ => ⟨rfl, rfl, rfl, rfl⟩) () trivial ⟨rfl, rfl, rfl, trivial⟩ (by repeat (first | exact Le.refl _ | assumption | apply Le.drop)) (fun k x hlt hp => ?_) (fun x ac wc hp hS hM => ?_)
  · skip
    obtain ⟨fb1, na1, no1, nc1, ns1, rfl, -, hc1', hN1⟩ := hL1.at hlt
    have hge := hgd _ (List.getElem_mem hlt)
    obtain ⟨a1, a2⟩ := hall k hlt
    rw [Nat.zero_add] at hc1'
    refine Tri.seq (Tri.region ?_)
    refine TOps.move rfl rfl ?_
    refine TOps.indexAddr (off' := k * 3) rfl rfl Try.underlying38 ti24 (by omega) (by omega) (by simp) rfl ?_
    refine TOps.loadN rfl ti24 hc1' rfl rfl ?_
    refine TOps.alloc ti24 rfl (fun b6 => ?_)
    refine TOps.assign rfl rfl ?_
    refine TOps.storeN rfl rfl ti24 rfl rfl (by repeat (first | exact Upd.here | apply Upd.there)) (by first | decide | (simp; done) | (simp; omega)) ?_
    refine TOps.hide (fun H7 l7 s7 r6 => ?_)
    replace r6 : Rd H7 b6 0 [.int .i64 LR.1[k].vars, slV na1 no1 LR.1[k].nodes.length nc1 ns1, .int .i64 LR.1[k].top] := r6
    have r3 := r2.le l7
    have hX : RF H7 (.agg (List.toArray [.int .i64 LR.1[k].vars, slV na1 no1 LR.1[k].nodes.length nc1 ns1, .int .i64 LR.1[k].top])) LR.1[k] := ⟨na1, no1, nc1, ns1, rfl, hN1.le l7⟩
    refine TOps.next ?_
    refine Tri.seq (Tri.region ?_)
    refine TOps.loadN rfl ti24 (by first | exact Rd.all (by repeat (first | exact List.Mem.head _ | apply List.Mem.tail)) | (repeat (first | assumption | apply Rd.up))) rfl rfl ?_
    refine TOps.call (vs := [_]) Try.call24 ⟨rfl, trivial⟩ (proper2_g hX hge) rfl ?_
    rintro _ _ ⟨pa, pc, rfl, hpa, rfl⟩
    rw [a1]
    refine TOps.move rfl rfl ?_
    refine TOps.extract rfl rfl rfl ?_
    refine TOps.extract rfl rfl rfl ?_
    refine TOps.assign rfl rfl ?_
    refine TOps.assign rfl rfl ?_
    refine TOps.next ?_
    refine Tri.seq (Tri.region ?_)
    refine TOps.field0 rfl Try.underlying24 rfl rfl ti3 rfl rfl rfl ?_
    refine TOps.load1 rfl ti3 (by first | exact Rd.lit (by repeat (first | exact List.Mem.head _ | apply List.Mem.tail)) rfl | (repeat (first | assumption | exact Rd.fld (by assumption) 0 rfl | apply Rd.up))) rfl ?_
    refine TOps.move rfl rfl ?_
    refine TOps.add (r := F.vars + k) rfl rfl (by rw [wrapI (by omega) (by omega)]) rfl ?_
    refine TOps.assign rfl rfl ?_
    refine TOps.next ?_
    refine Tri.seq (Tri.region ?_)
    refine TOps.move rfl rfl ?_
    refine TOps.neqNil (T := 45) (o := none) rfl Try.underlying28 rfl ?_
    refine TOps.move rfl rfl ?_
    refine' TOps.orB 3 rfl rfl rfl rfl (fun hg11_2 => ?_) ?_; rotate_left
    · have hg11_2' := hg11_2
      try simp only [decide_eq_true_eq, decide_eq_false_iff_not, Bool.and_eq_true, Bool.or_eq_true, Bool.not_eq_true', Bool.and_eq_false_iff, Bool.or_eq_false_iff, Bool.not_eq_false', Int.not_lt, Int.not_le, ne_eq, Decidable.not_not] at hg11_2'
      refine TOps.strip 2 false rfl rfl hg11_2 rfl ?_
      refine TOps.move rfl rfl ?_
      refine TOps.len rfl Try.underlying50 rfl ?_
      refine TOps.neqI rfl rfl rfl ?_
      refine TOps.blk rfl (by repeat (first | exact Ext.refl _ | refine Ext.cons rfl ?_)) (by repeat (first | exact Le.refl _ | apply Le.drop))
    refine TOps.move rfl rfl ?_
    refine' TOps.orB 4 rfl rfl rfl rfl (fun hg11_7 => ?_) ?_; rotate_left
    · have hg11_7' := hg11_7
      try simp only [decide_eq_true_eq, decide_eq_false_iff_not, Bool.and_eq_true, Bool.or_eq_true, Bool.not_eq_true', Bool.and_eq_false_iff, Bool.or_eq_false_iff, Bool.not_eq_false', Int.not_lt, Int.not_le, ne_eq, Decidable.not_not] at hg11_7'
      refine TOps.strip 7 false rfl rfl hg11_7 rfl ?_
      refine TOps.field0 rfl Try.underlying24 rfl rfl ti3 rfl rfl rfl ?_
      refine TOps.load1 rfl ti3 (by first | exact Rd.lit (by repeat (first | exact List.Mem.head _ | apply List.Mem.tail)) rfl | (repeat (first | assumption | exact Rd.fld (by assumption) 0 rfl | apply Rd.up))) rfl ?_
      refine TOps.move rfl rfl ?_
      refine TOps.neqI rfl rfl rfl ?_
      refine TOps.blk rfl (by repeat (first | exact Ext.refl _ | refine Ext.cons rfl ?_)) (by repeat (first | exact Le.refl _ | apply Le.drop))
    refine TOps.next ?_
    refine Tri.cond rfl (fun hc3 => ?_) (fun hc3 => ?_)
    · try simp only [decide_eq_true_eq, decide_eq_false_iff_not, Bool.and_eq_true, Bool.or_eq_true, Bool.not_eq_true', Bool.and_eq_false_iff, Bool.or_eq_false_iff, Bool.not_eq_false', Int.not_lt, Int.not_le, ne_eq, Decidable.not_not, Option.isSome_iff_ne_none, Option.isNone_iff_eq_none] at hc3
      have hfalse : False := by rw [a2] at hc3; simp at hc3
      refine Tri.seq (Tri.region ?_)
      refine TOps.assign rfl rfl ?_
      refine TOps.next ?_
      exact hfalse.elim
    try simp only [decide_eq_true_eq, decide_eq_false_iff_not, Bool.and_eq_true, Bool.or_eq_true, Bool.not_eq_true', Bool.and_eq_false_iff, Bool.or_eq_false_iff, Bool.not_eq_false', Int.not_lt, Int.not_le, ne_eq, Decidable.not_not, Option.isSome_iff_ne_none, Option.isNone_iff_eq_none] at hc3
    refine Tri.fin ?_
    refine Nrm.body () trivial ⟨rfl, rfl, rfl, rfl, rfl, trivial⟩ (Le.drop l7)
  refine Nrm.of hS hM ?_
  refine Nrm.next ?_
  refine Tri.seq (Tri.region ?_)
  refine TOps.move rfl rfl ?_
  refine TOps.len rfl Try.underlying38 rfl ?_
  refine TOps.gtr rfl rfl rfl ?_
  refine TOps.assign rfl rfl ?_
  refine TOps.next ?_
  refine Tri.ret1 (H' := H) Try.results6 (fun _ _ h => h) (.tmp rfl) (l6.trans l1) ⟨by congr 1; simpa using hpos, rfl⟩
end Go.Proofs
