import Derived.Test.YtclpcnbdmmlogaaB09
import Derived.Test.YtclpcnbdmmlogaaGL35
namespace Go.Proofs
open Go.GL
set_option linter.unusedVariables false
set_option linter.unusedSimpArgs false
theorem ternarySplits_g {H : List Ent} {fv : Value} {F : Fm} (hF : RF H fv F) (hk : F.ok) (a0 a1 turns : Int) :
    Gives Try.prog 8 [fv, .agg (List.toArray [.int .i64 a0, .int .i64 a1]), .int .i64 turns] H (R1 (.bool true) H) := by
  have hF0 := hF
  obtain ⟨na, off, cap, nsp, rfl, hN⟩ := hF
  refine Gives.enter Try.func8 rfl (by exact Try.ntmps8) rfl ?_
  refine Tri.seq (Tri.region ?_)
  refine TOps.boxN rfl ti24 rfl rfl (fun b3 => ?_)
  refine TOps.hide (fun H1 l1 s1 r1 => ?_)
  replace hF0 := hF0.le l1
  refine TOps.boxN rfl ti43 rfl rfl (fun b4 => ?_)
  refine TOps.hide (fun H2 l2 s2 r4 => ?_)
  replace hF0 := hF0.le l2; replace r1 := r1.le l2; have l3 := l2.trans l1
  replace r4 : Rd H2 b4 0 [.int .i64 a0, .int .i64 a1] := r4
  refine TOps.assign rfl rfl ?_
  refine TOps.next ?_
  refine Tri.seq ?_
  refine Tri.seq (Tri.region ?_)
  refine TOps.call (vs := []) Try.call9 trivial (awake09_g) rfl ?_
  rintro _ _ ⟨rfl, rfl⟩
  refine TOps.not rfl rfl ?_
  refine TOps.move rfl rfl ?_
  refine' TOps.orB 3 rfl rfl rfl rfl (fun hg1_2 => ?_) ?_; rotate_left
  · have hg1_2' := hg1_2
    try simp only [decide_eq_true_eq, decide_eq_false_iff_not, Bool.and_eq_true, Bool.or_eq_true, Bool.not_eq_true', Bool.and_eq_false_iff, Bool.or_eq_false_iff, Bool.not_eq_false', Int.not_lt, Int.not_le, ne_eq, Decidable.not_not] at hg1_2'
    refine TOps.strip 2 false rfl rfl hg1_2 rfl ?_
    refine TOps.loadN rfl ti24 (by first | exact Rd.all (by repeat (first | exact List.Mem.head _ | apply List.Mem.tail)) | (repeat (first | assumption | apply Rd.up))) rfl rfl ?_
    refine TOps.call (vs := [_]) Try.call10 ⟨rfl, trivial⟩ (light_g hF0 hk) rfl ?_
    rintro _ _ ⟨rfl, rfl⟩
    refine TOps.not rfl rfl ?_
    refine TOps.blk rfl (by repeat (first | exact Ext.refl _ | refine Ext.cons rfl ?_)) (by repeat (first | exact Le.refl _ | apply Le.drop))
  refine TOps.move rfl rfl ?_
  refine' TOps.orB 3 rfl rfl rfl rfl (fun hg1_7 => ?_) ?_; rotate_left
  · have hg1_7' := hg1_7
    try simp only [decide_eq_true_eq, decide_eq_false_iff_not, Bool.and_eq_true, Bool.or_eq_true, Bool.not_eq_true', Bool.and_eq_false_iff, Bool.or_eq_false_iff, Bool.not_eq_false', Int.not_lt, Int.not_le, ne_eq, Decidable.not_not] at hg1_7'
    refine TOps.strip 7 false rfl rfl hg1_7 rfl ?_
    refine TOps.loadN rfl ti24 (by first | exact Rd.all (by repeat (first | exact List.Mem.head _ | apply List.Mem.tail)) | (repeat (first | assumption | apply Rd.up))) rfl rfl ?_
    refine TOps.call (vs := [_]) Try.call11 ⟨rfl, trivial⟩ (check_g hF0 hk) rfl ?_
    rintro _ _ ⟨rfl, rfl⟩
    refine TOps.neqNil rfl Try.underlying28 rfl ?_
    refine TOps.blk rfl (by repeat (first | exact Ext.refl _ | refine Ext.cons rfl ?_)) (by repeat (first | exact Le.refl _ | apply Le.drop))
  refine TOps.next ?_
  refine Tri.cond rfl (fun hc1 => ?_) (fun hc1 => ?_)
  · try simp only [decide_eq_true_eq, decide_eq_false_iff_not, Bool.and_eq_true, Bool.or_eq_true, Bool.not_eq_true', Bool.and_eq_false_iff, Bool.or_eq_false_iff, Bool.not_eq_false', Int.not_lt, Int.not_le, ne_eq, Decidable.not_not, Option.isSome_iff_ne_none, Option.isNone_iff_eq_none] at hc1
    refine Tri.seq (Tri.region ?_)
    refine TOps.call (vs := []) Try.call9 trivial (awake09_g) rfl ?_
    rintro _ _ ⟨rfl, rfl⟩
    refine TOps.assign rfl rfl ?_
    refine TOps.next ?_
    refine Tri.ret1 (H' := H) Try.results8 (fun _ _ h => h) (.tmp rfl) l3 ⟨rfl, rfl⟩
  try simp only [decide_eq_true_eq, decide_eq_false_iff_not, Bool.and_eq_true, Bool.or_eq_true, Bool.not_eq_true', Bool.and_eq_false_iff, Bool.or_eq_false_iff, Bool.not_eq_false', Int.not_lt, Int.not_le, ne_eq, Decidable.not_not, Option.isSome_iff_ne_none, Option.isNone_iff_eq_none] at hc1
  have he : F.err = none := by simpa using hc1.2
  have hg := (Fm.good_iff F).1 he
  have g0 := hg.v0; have g1 := hg.v1; have g2 := hg.n1; have gt := hg.topLt
  have hv24 : F.vars.toNat ≤ 24 := by omega
  have h24 := pow24 hv24
  have hpos := Nat.two_pow_pos F.vars.toNat
  have hA := lowBits_lt a0 F.vars.toNat
  have hN' := noPart_lt (y := lowBits a0 F.vars.toNat) (lowBits_lt a1 F.vars.toNat)
  have hAN := noPart_and (lowBits a0 F.vars.toNat) (lowBits a1 F.vars.toNat)
  obtain ⟨Y, hYe⟩ : ∃ Y, lowBits a0 F.vars.toNat = Y := ⟨_, rfl⟩
  rw [hYe] at hA hN' hAN
  obtain ⟨N, hNe⟩ : ∃ N, noPart Y (lowBits a1 F.vars.toNat) = N := ⟨_, rfl⟩
  rw [hNe] at hN' hAN
  refine Tri.fin ?_
  refine Nrm.next ?_
  refine Tri.seq (Tri.region ?_)
  refine TOps.loadN rfl ti24 (by first | exact Rd.all (by repeat (first | exact List.Mem.head _ | apply List.Mem.tail)) | (repeat (first | assumption | apply Rd.up))) rfl rfl ?_
  refine TOps.indexAddrA (off' := 0) rfl rfl Try.underlying43 ti3 (by omega) (by omega) rfl rfl ?_
  refine TOps.load1 rfl ti3 (Rd.fld r4 0 rfl) rfl ?_
  refine TOps.indexAddrA (off' := 1) rfl rfl Try.underlying43 ti3 (by omega) (by omega) rfl rfl ?_
  refine TOps.load1 rfl ti3 (Rd.fld r4 1 rfl) rfl ?_
  refine TOps.call (vs := [_, _, _]) Try.call12 ⟨rfl, rfl, rfl, trivial⟩ (cube_g hF0 hg a0 a1) rfl ?_
  rintro _ _ ⟨rfl, rfl⟩
  rw [hYe, hNe]
  refine TOps.move rfl rfl ?_
  refine TOps.extract rfl rfl rfl ?_
  refine TOps.extract rfl rfl rfl ?_
  refine TOps.alloc ti31 rfl (fun b7 => ?_)
  refine TOps.storeN rfl rfl ti31 rfl rfl (by repeat (first | exact Upd.here | apply Upd.there)) (by first | decide | (simp; done) | (simp; omega)) ?_
  refine TOps.le (H' := row (some b7) 31 2 1 [.int .i64 Y, .int .i64 N] :: H2) (Le.rowEq rfl) ?_
  refine TOps.assign rfl rfl ?_
  refine TOps.next ?_
  refine Tri.seq (Tri.region ?_)
  refine TOps.loadN rfl ti24 (by first | exact Rd.all (by repeat (first | exact List.Mem.head _ | apply List.Mem.tail)) | (repeat (first | assumption | apply Rd.up))) rfl rfl ?_
  refine TOps.call (vs := [_]) Try.call26 ⟨rfl, trivial⟩ (support_g (hF0.le (Le.drop (Le.refl _))) hk) rfl ?_
  rintro _ _ ⟨rfl, rfl⟩
  rw [he, show (bif (none : Option Int).isNone then (F.support : Int) else 0) = (F.support : Int) from rfl]
  refine TOps.move rfl rfl ?_
  refine TOps.extract rfl rfl rfl ?_
  refine TOps.extract rfl rfl rfl ?_
  refine TOps.assign rfl rfl ?_
  refine TOps.assign rfl rfl ?_
  refine TOps.next ?_
  refine Tri.seq ?_
  refine Tri.seq (Tri.region ?_)
  refine TOps.move rfl rfl ?_
  refine TOps.neqNil (T := 62) (o := none) rfl Try.underlying28 rfl ?_
  refine TOps.next ?_
  refine Tri.cond rfl (fun hc2 => ?_) (fun hc2 => ?_)
  · try simp only [decide_eq_true_eq, decide_eq_false_iff_not, Bool.and_eq_true, Bool.or_eq_true, Bool.not_eq_true', Bool.and_eq_false_iff, Bool.or_eq_false_iff, Bool.not_eq_false', Int.not_lt, Int.not_le, ne_eq, Decidable.not_not, Option.isSome_iff_ne_none, Option.isNone_iff_eq_none] at hc2
    have hfalse : False := by simp at hc2
    refine Tri.seq (Tri.region ?_)
    refine TOps.assign rfl rfl ?_
    refine TOps.next ?_
    exact hfalse.elim
  try simp only [decide_eq_true_eq, decide_eq_false_iff_not, Bool.and_eq_true, Bool.or_eq_true, Bool.not_eq_true', Bool.and_eq_false_iff, Bool.or_eq_false_iff, Bool.not_eq_false', Int.not_lt, Int.not_le, ne_eq, Decidable.not_not, Option.isSome_iff_ne_none, Option.isNone_iff_eq_none] at hc2
  refine Tri.fin ?_
  refine Nrm.next ?_
  refine Tri.seq ?_
  refine Tri.seq (Tri.region ?_)
  refine TOps.move rfl rfl ?_
  refine TOps.next ?_
  refine Tri.block ?_
  refine Tri.loop (X := Nat × Nat × Nat) (fun x => [(2, .int .i64 turns), (3, .pointer (some ⟨b3, 0, none⟩)), (7, .pointer (some ⟨b7, 0, none⟩)), (9, .int .i64 (F.support : Nat)), (48, .int .i64 (x.1 : Nat))]) (fun x => row (some b7) 31 2 1 [.int .i64 (x.2.1 : Nat), .int .i64 (x.2.2 : Nat)] :: H2) (fun x => SplitOk F.vars.toNat x.1 x.2.1 x.2.2) (fun x => 25 - x.1) (0, Y, N) ⟨hA, hN', hAN, Nat.zero_le _⟩ ⟨rfl, rfl, rfl, rfl, rfl, trivial⟩ (by repeat (first | exact Le.refl _ | assumption | apply Le.drop)) (fun x hp => ?_)
  obtain ⟨k, y, n⟩ := x
  dsimp only at hp ⊢
  have p1 := hp.y1; have p2 := hp.n1; have p3 := hp.yn; have p4 := hp.kk
  have hkn := kn_le y n F.vars.toNat
  have hk24 : k ≤ 24 := by omega
  have c1 := Fm.cubeErr_good hg p1 p2 p3
  have hse : F.setErr (y : Int) = none := Fm.setErr_of hg p1
  have hF1 : RF (row (some b7) 31 2 1 [.int .i64 (y : Nat), .int .i64 (n : Nat)] :: H2) _ F := hF0.le (Le.drop (Le.refl _))
  refine Tri.seq (Tri.region ?_)
  refine TOps.lss rfl rfl rfl ?_
  refine TOps.next ?_
  refine Tri.seq ?_
  refine Tri.cond rfl (fun hc3 => ?_) (fun hc3 => ?_)
  · try simp only [decide_eq_true_eq, decide_eq_false_iff_not, Bool.and_eq_true, Bool.or_eq_true, Bool.not_eq_true', Bool.and_eq_false_iff, Bool.or_eq_false_iff, Bool.not_eq_false', Int.not_lt, Int.not_le, ne_eq, Decidable.not_not, Option.isSome_iff_ne_none, Option.isNone_iff_eq_none] at hc3
    refine Tri.fin ?_
    refine Nrm.next ?_
    refine Tri.seq ?_
    refine Tri.block ?_
    refine Tri.seq (Tri.region ?_)
    refine TOps.loadN rfl ti24 (by first | exact Rd.all (by repeat (first | exact List.Mem.head _ | apply List.Mem.tail)) | (repeat (first | assumption | apply Rd.up))) rfl rfl ?_
    refine TOps.loadN rfl ti31 (by first | exact Rd.all (by repeat (first | exact List.Mem.head _ | apply List.Mem.tail)) | (repeat (first | assumption | apply Rd.up))) rfl rfl ?_
    refine TOps.call (vs := [_, _]) Try.call18 ⟨rfl, rfl, trivial⟩ (tnext_g hF1 hk (y : Int) (n : Int)) rfl ?_
    rintro _ _ ⟨rfl, rfl⟩
    rw [c1, show (bif (none : Option Int).isNone then F.next y n else 0) = F.next y n from rfl]
    refine TOps.move rfl rfl ?_
    refine TOps.extract rfl rfl rfl ?_
    refine TOps.extract rfl rfl rfl ?_
    refine TOps.assign rfl rfl ?_
    refine TOps.assign rfl rfl ?_
    refine TOps.next ?_
    refine Tri.seq (Tri.region ?_)
    refine TOps.loadN rfl ti24 (by first | exact Rd.all (by repeat (first | exact List.Mem.head _ | apply List.Mem.tail)) | (repeat (first | assumption | apply Rd.up))) rfl rfl ?_
    refine TOps.loadN rfl ti31 (by first | exact Rd.all (by repeat (first | exact List.Mem.head _ | apply List.Mem.tail)) | (repeat (first | assumption | apply Rd.up))) rfl rfl ?_
    refine TOps.call (vs := [_, _]) Try.call17 ⟨rfl, rfl, trivial⟩ (tdecided_g hF1 hk (y : Int) (n : Int)) rfl ?_
    rintro _ _ ⟨rfl, rfl⟩
    rw [c1, show ((none : Option Int).isNone && decide ((bif (none : Option Int).isNone then ((F.tval (y : Int) (n : Int) F.top.toNat : Nat) : Int) else 0) ≠ 2)) = decide (F.next y n = -1) from by simp only [Option.isNone_none, cond_true, Bool.true_and]; exact next_decided hg _ _]
    refine TOps.move rfl rfl ?_
    refine TOps.extract rfl rfl rfl ?_
    refine TOps.extract rfl rfl rfl ?_
    refine TOps.assign rfl rfl ?_
    refine TOps.assign rfl rfl ?_
    refine TOps.next ?_
    refine Tri.seq ?_
    refine Tri.seq (Tri.region ?_)
    refine TOps.move rfl rfl ?_
    refine TOps.neqNil (T := 62) (o := none) rfl Try.underlying28 rfl ?_
    refine TOps.move rfl rfl ?_
    refine' TOps.orB 2 rfl rfl rfl rfl (fun hg11_2 => ?_) ?_; rotate_left
    · have hg11_2' := hg11_2
      try simp only [decide_eq_true_eq, decide_eq_false_iff_not, Bool.and_eq_true, Bool.or_eq_true, Bool.not_eq_true', Bool.and_eq_false_iff, Bool.or_eq_false_iff, Bool.not_eq_false', Int.not_lt, Int.not_le, ne_eq, Decidable.not_not] at hg11_2'
      refine TOps.strip 2 false rfl rfl hg11_2 rfl ?_
      refine TOps.move rfl rfl ?_
      refine TOps.neqNil (T := 62) (o := none) rfl Try.underlying28 rfl ?_
      refine TOps.blk rfl (by repeat (first | exact Ext.refl _ | refine Ext.cons rfl ?_)) (by repeat (first | exact Le.refl _ | apply Le.drop))
    refine TOps.move rfl rfl ?_
    refine' TOps.orB 4 rfl rfl rfl rfl (fun hg11_6 => ?_) ?_; rotate_left
    · have hg11_6' := hg11_6
      try simp only [decide_eq_true_eq, decide_eq_false_iff_not, Bool.and_eq_true, Bool.or_eq_true, Bool.not_eq_true', Bool.and_eq_false_iff, Bool.or_eq_false_iff, Bool.not_eq_false', Int.not_lt, Int.not_le, ne_eq, Decidable.not_not] at hg11_6'
      refine TOps.strip 6 false rfl rfl hg11_6 rfl ?_
      refine TOps.move rfl rfl ?_
      refine TOps.move rfl rfl ?_
      refine TOps.eqlI rfl rfl rfl ?_
      refine TOps.neqBr (r := false) rfl rfl (by simp) Try.underlying4 rfl ?_
      refine TOps.blk rfl (by repeat (first | exact Ext.refl _ | refine Ext.cons rfl ?_)) (by repeat (first | exact Le.refl _ | apply Le.drop))
    refine TOps.next ?_
    refine Tri.cond rfl (fun hc4 => ?_) (fun hc4 => ?_)
    · try simp only [decide_eq_true_eq, decide_eq_false_iff_not, Bool.and_eq_true, Bool.or_eq_true, Bool.not_eq_true', Bool.and_eq_false_iff, Bool.or_eq_false_iff, Bool.not_eq_false', Int.not_lt, Int.not_le, ne_eq, Decidable.not_not, Option.isSome_iff_ne_none, Option.isNone_iff_eq_none] at hc4
      have hfalse : False := by simp at hc4
      refine Tri.seq (Tri.region ?_)
      refine TOps.assign rfl rfl ?_
      refine TOps.next ?_
      exact hfalse.elim
    try simp only [decide_eq_true_eq, decide_eq_false_iff_not, Bool.and_eq_true, Bool.or_eq_true, Bool.not_eq_true', Bool.and_eq_false_iff, Bool.or_eq_false_iff, Bool.not_eq_false', Int.not_lt, Int.not_le, ne_eq, Decidable.not_not, Option.isSome_iff_ne_none, Option.isNone_iff_eq_none] at hc4
    refine Tri.fin ?_
    refine Nrm.next ?_
    refine Tri.seq ?_
    refine Tri.seq (Tri.region ?_)
    refine TOps.move rfl rfl ?_
    refine TOps.next ?_
    refine Tri.cond rfl (fun hc5 => ?_) (fun hc5 => ?_)
    · try simp only [decide_eq_true_eq, decide_eq_false_iff_not, Bool.and_eq_true, Bool.or_eq_true, Bool.not_eq_true', Bool.and_eq_false_iff, Bool.or_eq_false_iff, Bool.not_eq_false', Int.not_lt, Int.not_le, ne_eq, Decidable.not_not, Option.isSome_iff_ne_none, Option.isNone_iff_eq_none] at hc5
      have h2 : F.tval (y : Int) (n : Int) F.top.toNat ≠ 2 := by
        have := of_decide_eq_true ((next_decided hg (y : Int) (n : Int)).trans (decide_eq_true hc5)); omega
      refine Tri.seq (Tri.region ?_)
      refine TOps.loadN rfl ti24 (by first | exact Rd.all (by repeat (first | exact List.Mem.head _ | apply List.Mem.tail)) | (repeat (first | assumption | apply Rd.up))) rfl rfl ?_
      refine TOps.loadN rfl ti31 (by first | exact Rd.all (by repeat (first | exact List.Mem.head _ | apply List.Mem.tail)) | (repeat (first | assumption | apply Rd.up))) rfl rfl ?_
      refine TOps.call (vs := [_, _]) Try.call13 ⟨rfl, rfl, trivial⟩ (tvalue_g hF1 hk (y : Int) (n : Int)) rfl ?_
      rintro _ _ ⟨rfl, rfl⟩
      rw [c1, show (bif (none : Option Int).isNone then ((F.tval (y : Int) (n : Int) F.top.toNat : Nat) : Int) else 0) = (F.tval (y : Int) (n : Int) F.top.toNat : Nat) from rfl]
      refine TOps.move rfl rfl ?_
      refine TOps.extract rfl rfl rfl ?_
      refine TOps.extract rfl rfl rfl ?_
      refine TOps.assign rfl rfl ?_
      refine TOps.assign rfl rfl ?_
      refine TOps.next ?_
      refine Tri.seq (Tri.region ?_)
      refine TOps.loadN rfl ti24 (by first | exact Rd.all (by repeat (first | exact List.Mem.head _ | apply List.Mem.tail)) | (repeat (first | assumption | apply Rd.up))) rfl rfl ?_
      refine TOps.field0 rfl Try.underlying31 rfl rfl ti3 rfl rfl rfl ?_
      refine TOps.load1 rfl ti3 (by first | exact Rd.lit (by repeat (first | exact List.Mem.head _ | apply List.Mem.tail)) rfl | (repeat (first | assumption | exact Rd.fld (by assumption) 0 rfl | apply Rd.up))) rfl ?_
      refine TOps.call (vs := [_, _]) Try.call27 ⟨rfl, rfl, trivial⟩ (value_g hF1 hk (y : Int)) rfl ?_
      rintro _ _ ⟨rfl, rfl⟩
      rw [hse, show ((none : Option Int).isNone && F.value y) = F.value y from rfl]
      refine TOps.move rfl rfl ?_
      refine TOps.extract rfl rfl rfl ?_
      refine TOps.extract rfl rfl rfl ?_
      refine TOps.assign rfl rfl ?_
      refine TOps.assign rfl rfl ?_
      refine TOps.next ?_
      refine Tri.seq (Tri.region ?_)
      refine TOps.move rfl rfl ?_
      refine TOps.eqlNil (T := 62) (o := none) rfl Try.underlying28 rfl ?_
      refine TOps.move rfl rfl ?_
      refine' TOps.andB 2 rfl rfl rfl rfl (fun hg16_2 => ?_) ?_; rotate_left
      · have hg16_2' := hg16_2
        try simp only [decide_eq_true_eq, decide_eq_false_iff_not, Bool.and_eq_true, Bool.or_eq_true, Bool.not_eq_true', Bool.and_eq_false_iff, Bool.or_eq_false_iff, Bool.not_eq_false', Int.not_lt, Int.not_le, ne_eq, Decidable.not_not] at hg16_2'
        refine TOps.strip 2 true rfl rfl hg16_2 rfl ?_
        refine TOps.move rfl rfl ?_
        refine TOps.eqlNil (T := 62) (o := none) rfl Try.underlying28 rfl ?_
        refine TOps.blk rfl (by repeat (first | exact Ext.refl _ | refine Ext.cons rfl ?_)) (by repeat (first | exact Le.refl _ | apply Le.drop))
      refine TOps.move rfl rfl ?_
      refine' TOps.andB 4 rfl rfl rfl rfl (fun hg16_6 => ?_) ?_; rotate_left
      · have hg16_6' := hg16_6
        try simp only [decide_eq_true_eq, decide_eq_false_iff_not, Bool.and_eq_true, Bool.or_eq_true, Bool.not_eq_true', Bool.and_eq_false_iff, Bool.or_eq_false_iff, Bool.not_eq_false', Int.not_lt, Int.not_le, ne_eq, Decidable.not_not] at hg16_6'
        refine TOps.strip 6 true rfl rfl hg16_6 rfl ?_
        refine TOps.move rfl rfl ?_
        refine TOps.eqlI rfl rfl rfl ?_
        refine TOps.move rfl rfl ?_
        refine TOps.eqlBr (r := true) rfl rfl (by rw [law_split_end hg p1 p2 p3 h2]; simp) Try.underlying4 rfl ?_
        refine TOps.blk rfl (by repeat (first | exact Ext.refl _ | refine Ext.cons rfl ?_)) (by repeat (first | exact Le.refl _ | apply Le.drop))
      refine TOps.assign rfl rfl ?_
      refine TOps.next ?_
      refine Tri.ret1 (H' := H) Try.results8 (fun _ _ h => h) (.tmp rfl) (Le.drop l3) ⟨rfl, rfl⟩
    try simp only [decide_eq_true_eq, decide_eq_false_iff_not, Bool.and_eq_true, Bool.or_eq_true, Bool.not_eq_true', Bool.and_eq_false_iff, Bool.or_eq_false_iff, Bool.not_eq_false', Int.not_lt, Int.not_le, ne_eq, Decidable.not_not, Option.isSome_iff_ne_none, Option.isNone_iff_eq_none] at hc5
    have h2 : F.tval (y : Int) (n : Int) F.top.toNat = 2 := by
      have := of_decide_eq_false ((next_decided hg (y : Int) (n : Int)).trans (decide_eq_false hc5)); omega
    obtain ⟨e, hee, hev, heb, he2⟩ := next_event hg (y : Int) (n : Int) h2
    have ub := unknown_bits hg p1 p2 hev he2
    have hsup : iand (ishr ((F.support : Nat) : Int) e) 1 = 1 := of_decide_eq_true ((bitB_nat (pow_lt63 hv24 (Fm.support_lt F)) (by omega)).trans (by unfold Fm.support; rw [setOf_testBit, heb]; simp [hev]))
    have hor : y ||| n < 2 ^ F.vars.toNat := Nat.or_lt_two_pow p1 p2
    have hyn : decide (iand (ishr ((y ||| n : Nat) : Int) e) 1 = 1) = false := (bitB_nat (pow_lt63 hv24 hor) (by omega)).trans (by rw [Nat.testBit_or, ub.1, ub.2]; rfl)
    have h2e : 2 ^ e < 2 ^ F.vars.toNat := Nat.pow_lt_pow_right (by decide) hev
    rw [hee]
    refine Tri.fin ?_
    refine Nrm.next ?_
    refine Tri.seq ?_
    refine Tri.seq (Tri.region ?_)
    refine TOps.move rfl rfl ?_
    refine TOps.lssr (r := false) rfl rfl (decide_eq_false (by omega)) rfl ?_
    refine TOps.move rfl rfl ?_
    refine' TOps.orB 4 rfl rfl rfl rfl (fun hg17_2 => ?_) ?_; rotate_left
    · have hg17_2' := hg17_2
      try simp only [decide_eq_true_eq, decide_eq_false_iff_not, Bool.and_eq_true, Bool.or_eq_true, Bool.not_eq_true', Bool.and_eq_false_iff, Bool.or_eq_false_iff, Bool.not_eq_false', Int.not_lt, Int.not_le, ne_eq, Decidable.not_not] at hg17_2'
      refine TOps.strip 2 false rfl rfl hg17_2 rfl ?_
      refine TOps.move rfl rfl ?_
      refine TOps.field0 rfl Try.underlying24 rfl rfl ti3 rfl rfl rfl ?_
      refine TOps.load1 rfl ti3 (by first | exact Rd.lit (by repeat (first | exact List.Mem.head _ | apply List.Mem.tail)) rfl | (repeat (first | assumption | exact Rd.fld (by assumption) 0 rfl | apply Rd.up))) rfl ?_
      refine TOps.geqr (r := false) rfl rfl (decide_eq_false (by omega)) rfl ?_
      refine TOps.blk rfl (by repeat (first | exact Ext.refl _ | refine Ext.cons rfl ?_)) (by repeat (first | exact Le.refl _ | apply Le.drop))
    refine TOps.move rfl rfl ?_
    refine' TOps.orB 5 rfl rfl rfl rfl (fun hg17_8 => ?_) ?_; rotate_left
    · have hg17_8' := hg17_8
      try simp only [decide_eq_true_eq, decide_eq_false_iff_not, Bool.and_eq_true, Bool.or_eq_true, Bool.not_eq_true', Bool.and_eq_false_iff, Bool.or_eq_false_iff, Bool.not_eq_false', Int.not_lt, Int.not_le, ne_eq, Decidable.not_not] at hg17_8'
      refine TOps.strip 8 false rfl rfl hg17_8 rfl ?_
      refine TOps.move rfl rfl ?_
      refine TOps.move rfl rfl ?_
      refine TOps.shr (r := ishr ((F.support : Nat) : Int) e) rfl rfl (by omega) rfl rfl ?_
      refine TOps.and rfl rfl rfl rfl ?_
      refine TOps.eqlIr (r := false) rfl rfl (decide_eq_false (by rw [hsup]; decide)) rfl ?_
      refine TOps.blk rfl (by repeat (first | exact Ext.refl _ | refine Ext.cons rfl ?_)) (by repeat (first | exact Le.refl _ | apply Le.drop))
    refine TOps.move rfl rfl ?_
    refine' TOps.orB 9 rfl rfl rfl rfl (fun hg17_15 => ?_) ?_; rotate_left
    · have hg17_15' := hg17_15
      try simp only [decide_eq_true_eq, decide_eq_false_iff_not, Bool.and_eq_true, Bool.or_eq_true, Bool.not_eq_true', Bool.and_eq_false_iff, Bool.or_eq_false_iff, Bool.not_eq_false', Int.not_lt, Int.not_le, ne_eq, Decidable.not_not] at hg17_15'
      refine TOps.strip 15 false rfl rfl hg17_15 rfl ?_
      refine TOps.field0 rfl Try.underlying31 rfl rfl ti3 rfl rfl rfl ?_
      refine TOps.load1 rfl ti3 (by first | exact Rd.lit (by repeat (first | exact List.Mem.head _ | apply List.Mem.tail)) rfl | (repeat (first | assumption | exact Rd.fld (by assumption) 0 rfl | apply Rd.up))) rfl ?_
      first | refine TOps.fieldB 1 rfl Try.underlying31 rfl rfl ti3 rfl rfl rfl ?_ | refine TOps.fieldN 1 rfl Try.underlying31 rfl rfl ti3 rfl rfl rfl ?_
      refine TOps.load1 rfl ti3 (by first | exact Rd.lit (by repeat (first | exact List.Mem.head _ | apply List.Mem.tail)) rfl | (repeat (first | assumption | exact Rd.fld (by assumption) 1 rfl | apply Rd.up))) rfl ?_
      refine TOps.or (r := ((y ||| n : Nat) : Int)) rfl rfl (ior_nat (by omega) (by omega)) rfl ?_
      refine TOps.move rfl rfl ?_
      refine TOps.shr (r := ishr ((y ||| n : Nat) : Int) e) rfl rfl (by omega) rfl rfl ?_
      refine TOps.and rfl rfl rfl rfl ?_
      refine TOps.eqlIr (r := false) rfl rfl hyn rfl ?_
      refine TOps.blk rfl (by repeat (first | exact Ext.refl _ | refine Ext.cons rfl ?_)) (by repeat (first | exact Le.refl _ | apply Le.drop))
    refine TOps.next ?_
    refine Tri.cond rfl (fun hc6 => ?_) (fun hc6 => ?_)
    · try simp only [decide_eq_true_eq, decide_eq_false_iff_not, Bool.and_eq_true, Bool.or_eq_true, Bool.not_eq_true', Bool.and_eq_false_iff, Bool.or_eq_false_iff, Bool.not_eq_false', Int.not_lt, Int.not_le, ne_eq, Decidable.not_not, Option.isSome_iff_ne_none, Option.isNone_iff_eq_none] at hc6
      have hfalse : False := by simp at hc6
      refine Tri.seq (Tri.region ?_)
      refine TOps.assign rfl rfl ?_
      refine TOps.next ?_
      exact hfalse.elim
    try simp only [decide_eq_true_eq, decide_eq_false_iff_not, Bool.and_eq_true, Bool.or_eq_true, Bool.not_eq_true', Bool.and_eq_false_iff, Bool.or_eq_false_iff, Bool.not_eq_false', Int.not_lt, Int.not_le, ne_eq, Decidable.not_not, Option.isSome_iff_ne_none, Option.isNone_iff_eq_none] at hc6
    refine Tri.fin ?_
    refine Nrm.next ?_
    refine Tri.seq (Tri.region ?_)
    refine TOps.move rfl rfl ?_
    refine TOps.move rfl rfl ?_
    refine TOps.shr rfl rfl (by omega) rfl rfl ?_
    refine TOps.and rfl rfl rfl rfl ?_
    refine TOps.eqlI rfl rfl rfl ?_
    refine TOps.next ?_
    refine Tri.cond rfl (fun hc7 => ?_) (fun hc7 => ?_)
    · try simp only [decide_eq_true_eq, decide_eq_false_iff_not, Bool.and_eq_true, Bool.or_eq_true, Bool.not_eq_true', Bool.and_eq_false_iff, Bool.or_eq_false_iff, Bool.not_eq_false', Int.not_lt, Int.not_le, ne_eq, Decidable.not_not, Option.isSome_iff_ne_none, Option.isNone_iff_eq_none] at hc7
      refine Tri.drawX (X := Unit) rfl [(2, .int .i64 turns), (3, .pointer (some ⟨b3, 0, none⟩)), (7, .pointer (some ⟨b7, 0, none⟩)), (9, .int .i64 (F.support : Nat)), (48, .int .i64 (k : Nat)), (11, .int .i64 (e : Nat))] [] (fun x => [_, _, _, _, _, _, undef]) (fun x c => match c with | 0 => row (some b7) 31 2 1 [.int .i64 (y : Nat), .int .i64 (n : Nat)] :: H2 | _ + 1 => row (some b7) 31 2 1 [.int .i64 (y ||| 2 ^ e : Nat), .int .i64 (n : Nat)] :: H2) [6] () [] rfl rfl ⟨rfl, rfl, rfl, rfl, rfl, rfl, trivial⟩ trivial (by repeat (first | exact Le.refl _ | assumption | apply Le.drop)) (by
        refine ⟨?_, ?_, ?_, ?_, ?_, ?_, ?_, trivial⟩
        · refine ⟨fun x S c he hw hd hc hcu hm _ => ?_, trivial⟩
          refine TOps.field0 (he _ _ rfl) Try.underlying31 rfl rfl ti3 rfl rfl rfl ?_
          exact TOps.fin (Nrm.draw x (fun _ _ _ => rfl) rfl (by first | exact Le.refl _ | assumption | exact (by repeat (first | exact Le.refl _ | assumption | apply Le.drop))))
        · refine ⟨fun x S c he hw hd hc hcu hm _ => ?_, trivial⟩
          obtain ⟨h0, -⟩ := hd
          obtain rfl : c = 0 := by have : c ≤ 0 := hcu; omega
          refine TOps.load1 h0 ti3 (by first | exact Rd.lit (by repeat (first | exact List.Mem.head _ | apply List.Mem.tail)) rfl | (repeat (first | assumption | exact Rd.fld (by assumption) 0 rfl | apply Rd.up))) rfl ?_
          exact TOps.fin (Nrm.draw x (fun _ _ _ => rfl) rfl (by first | exact Le.refl _ | assumption | exact (by repeat (first | exact Le.refl _ | assumption | apply Le.drop))))
        · refine ⟨fun x S c he hw hd hc hcu hm _ => ?_, trivial⟩
          refine TOps.move (he _ _ rfl) rfl ?_
          exact TOps.fin (Nrm.draw x (fun _ _ _ => rfl) rfl (by first | exact Le.refl _ | assumption | exact (by repeat (first | exact Le.refl _ | assumption | apply Le.drop))))
        · refine ⟨fun x S c he hw hd hc hcu hm _ => ?_, trivial⟩
          obtain ⟨h2, -⟩ := hd
          refine TOps.shl (r := ((2 ^ e : Nat) : Int)) rfl h2 (by omega) (by rw [Int.toNat_natCast]; exact ishl_one (by omega)) rfl ?_
          exact TOps.fin (Nrm.draw x (fun _ _ _ => rfl) rfl (by first | exact Le.refl _ | assumption | exact (by repeat (first | exact Le.refl _ | assumption | apply Le.drop))))
        · refine ⟨fun x S c he hw hd hc hcu hm _ => ?_, trivial⟩
          obtain ⟨h1, h3, -⟩ := hd
          refine TOps.or (r := ((y ||| 2 ^ e : Nat) : Int)) h1 h3 (ior_nat (by omega) (by omega)) rfl ?_
          exact TOps.fin (Nrm.draw x (fun _ _ _ => rfl) rfl (by first | exact Le.refl _ | assumption | exact (by repeat (first | exact Le.refl _ | assumption | apply Le.drop))))
        · refine ⟨fun x S c he hw hd hc hcu hm _ => ?_, trivial⟩
          obtain ⟨h0, h1, h2, h3, h4, -⟩ := hd
          refine TOps.field0 (he _ _ rfl) Try.underlying31 rfl rfl ti3 rfl rfl rfl ?_
          exact TOps.fin (Nrm.draw x (fun _ _ _ => rfl) rfl (by first | exact Le.refl _ | assumption | exact (by repeat (first | exact Le.refl _ | assumption | apply Le.drop))))
        · refine ⟨fun x S c he hw hd hc hcu hm _ => ?_, trivial⟩
          obtain ⟨h5, h4, h0, h1, h2, h3, _, -⟩ := hd
          obtain rfl : c = 0 := hm rfl
          refine TOps.store1 h5 h4 ti3 rfl rfl (by repeat (first | exact Upd.here | apply Upd.there)) (by first | decide | (simp; done) | (simp; omega) | exact (show (0 : Nat) < 2 by decide)) ?_
          exact TOps.fin (Nrm.draw x (fun _ _ _ => rfl) rfl (by first | exact Le.refl _ | assumption | exact (by repeat (first | exact Le.refl _ | assumption | apply Le.drop))))
        ) (fun u0 => ?_)
      refine Nrm.unB ?_
      refine Nrm.next ?_
      refine Tri.region ?_
      refine TOps.add rfl rfl (wrapI (by omega) (by omega)) rfl ?_
      refine TOps.move rfl rfl ?_
      refine TOps.fin ?_
      first
       | refine Nrm.loop (k + 1, y ||| 2 ^ e, n) (hp.yes hev ub.1 ub.2) (by simp only; omega) ⟨rfl, rfl, rfl, rfl, rfl, trivial⟩ (Le.refl _)
       | refine Nrm.loop (k + 1, y, n ||| 2 ^ e) (hp.no hev ub.1 ub.2) (by simp only; omega) ⟨rfl, rfl, rfl, rfl, rfl, trivial⟩ (by repeat (first | exact Le.refl _ | assumption | apply Le.drop))
    try simp only [decide_eq_true_eq, decide_eq_false_iff_not, Bool.and_eq_true, Bool.or_eq_true, Bool.not_eq_true', Bool.and_eq_false_iff, Bool.or_eq_false_iff, Bool.not_eq_false', Int.not_lt, Int.not_le, ne_eq, Decidable.not_not, Option.isSome_iff_ne_none, Option.isNone_iff_eq_none] at hc7
    refine Tri.drawX (X := Unit) rfl [(2, .int .i64 turns), (3, .pointer (some ⟨b3, 0, none⟩)), (7, .pointer (some ⟨b7, 0, none⟩)), (9, .int .i64 (F.support : Nat)), (48, .int .i64 (k : Nat)), (11, .int .i64 (e : Nat))] [] (fun x => [_, _, _, _, _, _, undef]) (fun x c => match c with | 0 => row (some b7) 31 2 1 [.int .i64 (y : Nat), .int .i64 (n : Nat)] :: H2 | _ + 1 => row (some b7) 31 2 1 [.int .i64 (y : Nat), .int .i64 (n ||| 2 ^ e : Nat)] :: H2) [6] () [] rfl rfl ⟨rfl, rfl, rfl, rfl, rfl, rfl, trivial⟩ trivial (by repeat (first | exact Le.refl _ | assumption | apply Le.drop)) (by
      refine ⟨?_, ?_, ?_, ?_, ?_, ?_, ?_, trivial⟩
      · refine ⟨fun x S c he hw hd hc hcu hm _ => ?_, trivial⟩
        first | refine TOps.fieldB 1 (he _ _ rfl) Try.underlying31 rfl rfl ti3 rfl rfl rfl ?_ | refine TOps.fieldN 1 (he _ _ rfl) Try.underlying31 rfl rfl ti3 rfl rfl rfl ?_
        exact TOps.fin (Nrm.draw x (fun _ _ _ => rfl) rfl (by first | exact Le.refl _ | assumption | exact (by repeat (first | exact Le.refl _ | assumption | apply Le.drop))))
      · refine ⟨fun x S c he hw hd hc hcu hm _ => ?_, trivial⟩
        obtain ⟨h0, -⟩ := hd
        obtain rfl : c = 0 := by have : c ≤ 0 := hcu; omega
        refine TOps.load1 h0 ti3 (by first | exact Rd.lit (by repeat (first | exact List.Mem.head _ | apply List.Mem.tail)) rfl | (repeat (first | assumption | exact Rd.fld (by assumption) 1 rfl | apply Rd.up))) rfl ?_
        exact TOps.fin (Nrm.draw x (fun _ _ _ => rfl) rfl (by first | exact Le.refl _ | assumption | exact (by repeat (first | exact Le.refl _ | assumption | apply Le.drop))))
      · refine ⟨fun x S c he hw hd hc hcu hm _ => ?_, trivial⟩
        refine TOps.move (he _ _ rfl) rfl ?_
        exact TOps.fin (Nrm.draw x (fun _ _ _ => rfl) rfl (by first | exact Le.refl _ | assumption | exact (by repeat (first | exact Le.refl _ | assumption | apply Le.drop))))
      · refine ⟨fun x S c he hw hd hc hcu hm _ => ?_, trivial⟩
        obtain ⟨h2, -⟩ := hd
        refine TOps.shl (r := ((2 ^ e : Nat) : Int)) rfl h2 (by omega) (by rw [Int.toNat_natCast]; exact ishl_one (by omega)) rfl ?_
        exact TOps.fin (Nrm.draw x (fun _ _ _ => rfl) rfl (by first | exact Le.refl _ | assumption | exact (by repeat (first | exact Le.refl _ | assumption | apply Le.drop))))
      · refine ⟨fun x S c he hw hd hc hcu hm _ => ?_, trivial⟩
        obtain ⟨h1, h3, -⟩ := hd
        refine TOps.or (r := ((n ||| 2 ^ e : Nat) : Int)) h1 h3 (ior_nat (by omega) (by omega)) rfl ?_
        exact TOps.fin (Nrm.draw x (fun _ _ _ => rfl) rfl (by first | exact Le.refl _ | assumption | exact (by repeat (first | exact Le.refl _ | assumption | apply Le.drop))))
      · refine ⟨fun x S c he hw hd hc hcu hm _ => ?_, trivial⟩
        obtain ⟨h0, h1, h2, h3, h4, -⟩ := hd
        first | refine TOps.fieldB 1 (he _ _ rfl) Try.underlying31 rfl rfl ti3 rfl rfl rfl ?_ | refine TOps.fieldN 1 (he _ _ rfl) Try.underlying31 rfl rfl ti3 rfl rfl rfl ?_
        exact TOps.fin (Nrm.draw x (fun _ _ _ => rfl) rfl (by first | exact Le.refl _ | assumption | exact (by repeat (first | exact Le.refl _ | assumption | apply Le.drop))))
      · refine ⟨fun x S c he hw hd hc hcu hm _ => ?_, trivial⟩
        obtain ⟨h5, h4, h0, h1, h2, h3, _, -⟩ := hd
        obtain rfl : c = 0 := hm rfl
        refine TOps.store1 h5 h4 ti3 rfl rfl (by repeat (first | exact Upd.here | apply Upd.there)) (by first | decide | (simp; done) | (simp; omega) | exact (show (1 : Nat) < 2 by decide)) ?_
        exact TOps.fin (Nrm.draw x (fun _ _ _ => rfl) rfl (by first | exact Le.refl _ | assumption | exact (by repeat (first | exact Le.refl _ | assumption | apply Le.drop))))
      ) (fun u0 => ?_)
    refine Nrm.unB ?_
    refine Nrm.next ?_
    refine Tri.region ?_
    refine TOps.add rfl rfl (wrapI (by omega) (by omega)) rfl ?_
    refine TOps.move rfl rfl ?_
    refine TOps.fin ?_
    first
     | refine Nrm.loop (k + 1, y ||| 2 ^ e, n) (hp.yes hev ub.1 ub.2) (by simp only; omega) ⟨rfl, rfl, rfl, rfl, rfl, trivial⟩ (Le.refl _)
     | refine Nrm.loop (k + 1, y, n ||| 2 ^ e) (hp.no hev ub.1 ub.2) (by simp only; omega) ⟨rfl, rfl, rfl, rfl, rfl, trivial⟩ (by repeat (first | exact Le.refl _ | assumption | apply Le.drop))
  try simp only [decide_eq_true_eq, decide_eq_false_iff_not, Bool.and_eq_true, Bool.or_eq_true, Bool.not_eq_true', Bool.and_eq_false_iff, Bool.or_eq_false_iff, Bool.not_eq_false', Int.not_lt, Int.not_le, ne_eq, Decidable.not_not, Option.isSome_iff_ne_none, Option.isNone_iff_eq_none] at hc3
  have hfalse : False := by omega
  refine Tri.exitW ?_
  refine Nrm.next ?_
  refine Tri.seq (Tri.region ?_)
  refine TOps.assign rfl rfl ?_
  refine TOps.next ?_
  exact hfalse.elim
end Go.Proofs
