import Derived.Test.YtclpcnbdmmlogaaJ09
import Derived.Test.YtclpcnbdmmlogaaGL34
namespace Go.Proofs
open Go.GL
set_option linter.unusedVariables false
set_option linter.unusedSimpArgs false
theorem ternarySound_g {H : List Ent} {fv : Value} {F : Fm} (hF : RF H fv F) (hk : F.ok) (a0 a1 : Int) :
    Gives Try.prog 7 [fv, .int .i64 a0, .int .i64 a1] H (R1 (.bool true) H) := by
  have hF0 := hF
  obtain ⟨na, off, cap, nsp, rfl, hN⟩ := hF
  refine Gives.enter Try.func7 rfl (by exact Try.ntmps7) rfl ?_
  refine Tri.seq (Tri.region ?_)
  refine TOps.boxN rfl ti24 rfl rfl (fun b3 => ?_)
  refine TOps.hide (fun H1 l1 s1 r1 => ?_)
  replace hF0 := hF0.le l1
  refine TOps.assign rfl rfl ?_
  refine TOps.next ?_
  refine Tri.seq ?_
  refine Tri.seq (Tri.region ?_)
  refine TOps.call (vs := []) Try.call9 trivial (awake09_g) rfl ?_
  rintro _ _ ⟨rfl, rfl⟩
  refine TOps.not rfl rfl ?_
  refine TOps.move rfl rfl ?_
  refine' TOps.orB 3 rfl rfl rfl rfl (fun hg1_2 => ?_) ?_; rotate_left
  · have hg1_2' := hg1_2
    try simp only [decide_eq_true_eq, decide_eq_false_iff_not, Bool.and_eq_true, Bool.or_eq_true, Bool.not_eq_true', Bool.and_eq_false_iff, Bool.or_eq_false_iff, Bool.not_eq_false', Int.not_lt, Int.not_le, ne_eq, Decidable.not_not] at hg1_2'
    refine TOps.strip 2 false rfl rfl hg1_2 rfl ?_
    refine TOps.loadN rfl ti24 (by first | exact Rd.all (by repeat (first | exact List.Mem.head _ | apply List.Mem.tail)) | (repeat (first | assumption | apply Rd.up))) rfl rfl ?_
    refine TOps.call (vs := [_]) Try.call10 ⟨rfl, trivial⟩ (light_g hF0 hk) rfl ?_
    rintro _ _ ⟨rfl, rfl⟩
    refine TOps.not rfl rfl ?_
    refine TOps.blk rfl (by repeat (first | exact Ext.refl _ | refine Ext.cons rfl ?_)) (by repeat (first | exact Le.refl _ | apply Le.drop))
  refine TOps.move rfl rfl ?_
  refine' TOps.orB 3 rfl rfl rfl rfl (fun hg1_7 => ?_) ?_; rotate_left
  · have hg1_7' := hg1_7
    try simp only [decide_eq_true_eq, decide_eq_false_iff_not, Bool.and_eq_true, Bool.or_eq_true, Bool.not_eq_true', Bool.and_eq_false_iff, Bool.or_eq_false_iff, Bool.not_eq_false', Int.not_lt, Int.not_le, ne_eq, Decidable.not_not] at hg1_7'
    refine TOps.strip 7 false rfl rfl hg1_7 rfl ?_
    refine TOps.loadN rfl ti24 (by first | exact Rd.all (by repeat (first | exact List.Mem.head _ | apply List.Mem.tail)) | (repeat (first | assumption | apply Rd.up))) rfl rfl ?_
    refine TOps.call (vs := [_]) Try.call11 ⟨rfl, trivial⟩ (check_g hF0 hk) rfl ?_
    rintro _ _ ⟨rfl, rfl⟩
    refine TOps.neqNil rfl Try.underlying28 rfl ?_
    refine TOps.blk rfl (by repeat (first | exact Ext.refl _ | refine Ext.cons rfl ?_)) (by repeat (first | exact Le.refl _ | apply Le.drop))
  refine TOps.next ?_
  refine Tri.cond rfl (fun hc1 => ?_) (fun hc1 => ?_)
  · try simp only [decide_eq_true_eq, decide_eq_false_iff_not, Bool.and_eq_true, Bool.or_eq_true, Bool.not_eq_true', Bool.and_eq_false_iff, Bool.or_eq_false_iff, Bool.not_eq_false', Int.not_lt, Int.not_le, ne_eq, Decidable.not_not, Option.isSome_iff_ne_none, Option.isNone_iff_eq_none] at hc1
    refine Tri.seq (Tri.region ?_)
    refine TOps.call (vs := []) Try.call9 trivial (awake09_g) rfl ?_
    rintro _ _ ⟨rfl, rfl⟩
    refine TOps.assign rfl rfl ?_
    refine TOps.next ?_
    refine Tri.ret1 (H' := H) Try.results7 (fun _ _ h => h) (.tmp rfl) l1 ⟨rfl, rfl⟩
  try simp only [decide_eq_true_eq, decide_eq_false_iff_not, Bool.and_eq_true, Bool.or_eq_true, Bool.not_eq_true', Bool.and_eq_false_iff, Bool.or_eq_false_iff, Bool.not_eq_false', Int.not_lt, Int.not_le, ne_eq, Decidable.not_not, Option.isSome_iff_ne_none, Option.isNone_iff_eq_none] at hc1
  have he : F.err = none := by simpa using hc1.2
  have hg := (Fm.good_iff F).1 he
  have g0 := hg.v0; have g1 := hg.v1; have g2 := hg.n1; have gt := hg.topLt
  have hv24 : F.vars.toNat ≤ 24 := by omega
  have h24 := pow24 hv24
  have hpos := Nat.two_pow_pos F.vars.toNat
  have hA := lowBits_lt a0 F.vars.toNat
  have hN' := noPart_lt (y := lowBits a0 F.vars.toNat) (lowBits_lt a1 F.vars.toNat)
  have hAN := noPart_and (lowBits a0 F.vars.toNat) (lowBits a1 F.vars.toNat)
  obtain ⟨Y, hYe⟩ : ∃ Y, lowBits a0 F.vars.toNat = Y := ⟨_, rfl⟩
  rw [hYe] at hA hN' hAN
  obtain ⟨N, hNe⟩ : ∃ N, noPart Y (lowBits a1 F.vars.toNat) = N := ⟨_, rfl⟩
  rw [hNe] at hN' hAN
  have c0 := Fm.cubeErr_good hg hA hN' hAN
  have hnl := F.tnodeVals_length Y N
  have hc3 : noPart N (2 ^ F.vars.toNat - 1) < 2 ^ F.vars.toNat := noPart_lt (by omega)
  refine Tri.fin ?_
  refine Nrm.next ?_
  refine Tri.seq (Tri.region ?_)
  refine TOps.loadN rfl ti24 (by first | exact Rd.all (by repeat (first | exact List.Mem.head _ | apply List.Mem.tail)) | (repeat (first | assumption | apply Rd.up))) rfl rfl ?_
  refine TOps.move rfl rfl ?_
  refine TOps.move rfl rfl ?_
  refine TOps.call (vs := [_, _, _]) Try.call12 ⟨rfl, rfl, rfl, trivial⟩ (cube_g hF0 hg a0 a1) rfl ?_
  rintro _ _ ⟨rfl, rfl⟩
  rw [hYe, hNe]
  refine TOps.move rfl rfl ?_
  refine TOps.extract rfl rfl rfl ?_
  refine TOps.extract rfl rfl rfl ?_
  refine TOps.alloc ti31 rfl (fun b7 => ?_)
  refine TOps.storeN rfl rfl ti31 rfl rfl (by repeat (first | exact Upd.here | apply Upd.there)) (by first | decide | (simp; done) | (simp; omega)) ?_
  refine TOps.hide (fun H4 l6 s6 r7 => ?_)
  replace r7 : Rd H4 b7 0 [.int .i64 Y, .int .i64 N] := r7
  replace hF0 := hF0.le l6; replace r1 := r1.le l6; have l7 := l6.trans l1
  refine TOps.assign rfl rfl ?_
  refine TOps.next ?_
  refine Tri.seq (Tri.region ?_)
  refine TOps.loadN rfl ti24 (by first | exact Rd.all (by repeat (first | exact List.Mem.head _ | apply List.Mem.tail)) | (repeat (first | assumption | apply Rd.up))) rfl rfl ?_
  refine TOps.loadN rfl ti31 (by first | exact Rd.all (by repeat (first | exact List.Mem.head _ | apply List.Mem.tail)) | (repeat (first | assumption | apply Rd.up))) rfl rfl ?_
  refine TOps.call (vs := [_, _]) Try.call16 ⟨rfl, rfl, trivial⟩ (tvaluesTop_g hF0 hk Y N) rfl ?_
  rintro _ _ ⟨xs, xa, xcap, hxs, rfl, hxa, rfl⟩
  obtain rfl : xs = F.tnodeVals Y N := by rw [hxs, c0]; rfl
  rw [c0]
  have hrx : RdS (row xa 3 1 xcap (nats (F.tnodeVals Y N)) :: H4) xa 0 (nats (F.tnodeVals Y N)) := RdS.ofRowA (List.Mem.head _) hxa
  replace r1 := r1.up (e := row xa 3 1 xcap (nats (F.tnodeVals Y N))); replace r7 := r7.up (e := row xa 3 1 xcap (nats (F.tnodeVals Y N))); replace hF0 := hF0.le (Le.drop (e := row xa 3 1 xcap (nats (F.tnodeVals Y N))) (Le.refl _))
  have l8 : Le (row xa 3 1 xcap (nats (F.tnodeVals Y N)) :: H4) H := Le.drop l7
  generalize row xa 3 1 xcap (nats (F.tnodeVals Y N)) :: H4 = H6 at *
  rw [hnl]
  refine TOps.move rfl rfl ?_
  refine TOps.extract rfl rfl rfl ?_
  refine TOps.extract rfl rfl rfl ?_
  refine TOps.assign rfl rfl ?_
  refine TOps.assign rfl rfl ?_
  refine TOps.next ?_
  refine Tri.seq ?_
  refine Tri.seq (Tri.region ?_)
  refine TOps.move rfl rfl ?_
  refine TOps.neqNil (T := 62) (o := none) rfl Try.underlying28 rfl ?_
  refine TOps.move rfl rfl ?_
  refine' TOps.orB 6 rfl rfl rfl rfl (fun hg5_2 => ?_) ?_; rotate_left
  · have hg5_2' := hg5_2
    try simp only [decide_eq_true_eq, decide_eq_false_iff_not, Bool.and_eq_true, Bool.or_eq_true, Bool.not_eq_true', Bool.and_eq_false_iff, Bool.or_eq_false_iff, Bool.not_eq_false', Int.not_lt, Int.not_le, ne_eq, Decidable.not_not] at hg5_2'
    refine TOps.strip 2 false rfl rfl hg5_2 rfl ?_
    refine TOps.move rfl rfl ?_
    refine TOps.len rfl Try.underlying34 rfl ?_
    first | refine TOps.fieldB 1 rfl Try.underlying24 rfl rfl ti22 rfl rfl rfl ?_ | refine TOps.fieldN 1 rfl Try.underlying24 rfl rfl ti22 rfl rfl rfl ?_
    refine TOps.load1 rfl ti22 (by first | exact Rd.lit (by repeat (first | exact List.Mem.head _ | apply List.Mem.tail)) rfl | (repeat (first | assumption | exact Rd.fld (by assumption) 1 rfl | apply Rd.up))) rfl ?_
    refine TOps.len rfl Try.underlying22 rfl ?_
    refine TOps.neqI rfl rfl rfl ?_
    refine TOps.blk rfl (by repeat (first | exact Ext.refl _ | refine Ext.cons rfl ?_)) (by repeat (first | exact Le.refl _ | apply Le.drop))
  refine TOps.next ?_
  refine Tri.cond rfl (fun hc2 => ?_) (fun hc2 => ?_)
  · try simp only [decide_eq_true_eq, decide_eq_false_iff_not, Bool.and_eq_true, Bool.or_eq_true, Bool.not_eq_true', Bool.and_eq_false_iff, Bool.or_eq_false_iff, Bool.not_eq_false', Int.not_lt, Int.not_le, ne_eq, Decidable.not_not, Option.isSome_iff_ne_none, Option.isNone_iff_eq_none] at hc2
    have hfalse : False := by simp at hc2
    refine Tri.seq (Tri.region ?_)
    refine TOps.assign rfl rfl ?_
    refine TOps.next ?_
    exact hfalse.elim
  try simp only [decide_eq_true_eq, decide_eq_false_iff_not, Bool.and_eq_true, Bool.or_eq_true, Bool.not_eq_true', Bool.and_eq_false_iff, Bool.or_eq_false_iff, Bool.not_eq_false', Int.not_lt, Int.not_le, ne_eq, Decidable.not_not, Option.isSome_iff_ne_none, Option.isNone_iff_eq_none] at hc2
  refine Tri.fin ?_
  refine Nrm.next ?_
  refine Tri.seq ?_
  refine Tri.seq (Tri.region ?_)
  refine TOps.field0 rfl Try.underlying31 rfl rfl ti3 rfl rfl rfl ?_
  refine TOps.load1 rfl ti3 (by first | exact Rd.lit (by repeat (first | exact List.Mem.head _ | apply List.Mem.tail)) rfl | (repeat (first | assumption | exact Rd.fld (by assumption) 0 rfl | apply Rd.up))) rfl ?_
  refine TOps.move rfl rfl ?_
  first | refine TOps.fieldB 1 rfl Try.underlying31 rfl rfl ti3 rfl rfl rfl ?_ | refine TOps.fieldN 1 rfl Try.underlying31 rfl rfl ti3 rfl rfl rfl ?_
  refine TOps.load1 rfl ti3 (by first | exact Rd.lit (by repeat (first | exact List.Mem.head _ | apply List.Mem.tail)) rfl | (repeat (first | assumption | exact Rd.fld (by assumption) 1 rfl | apply Rd.up))) rfl ?_
  refine TOps.andNot (r := (noPart N (2 ^ F.vars.toNat - 1) : Nat)) rfl rfl (iandn_nat (by omega) (by omega)) rfl ?_
  refine TOps.field0 rfl Try.underlying31 rfl rfl ti3 rfl rfl rfl ?_
  refine TOps.load1 rfl ti3 (by first | exact Rd.lit (by repeat (first | exact List.Mem.head _ | apply List.Mem.tail)) rfl | (repeat (first | assumption | exact Rd.fld (by assumption) 0 rfl | apply Rd.up))) rfl ?_
  refine TOps.move rfl rfl ?_
  first | refine TOps.fieldB 1 rfl Try.underlying31 rfl rfl ti3 rfl rfl rfl ?_ | refine TOps.fieldN 1 rfl Try.underlying31 rfl rfl ti3 rfl rfl rfl ?_
  refine TOps.load1 rfl ti3 (by first | exact Rd.lit (by repeat (first | exact List.Mem.head _ | apply List.Mem.tail)) rfl | (repeat (first | assumption | exact Rd.fld (by assumption) 1 rfl | apply Rd.up))) rfl ?_
  refine TOps.andNot (r := (noPart N (2 ^ F.vars.toNat - 1) : Nat)) rfl rfl (iandn_nat (by omega) (by omega)) rfl ?_
  refine TOps.move rfl rfl ?_
  refine TOps.shr rfl rfl (by omega) rfl rfl ?_
  refine TOps.move rfl rfl ?_
  refine TOps.shl rfl rfl (by omega) rfl rfl ?_
  refine TOps.xor rfl rfl rfl rfl ?_
  refine TOps.and (r := (noPart N (2 ^ F.vars.toNat - 1) &&& lowBits (ixor (ishr a0 3) (ishl a1 2)) F.vars.toNat : Nat)) rfl rfl (iand_low' hc3 (by omega)) rfl ?_
  refine TOps.or (r := (Y ||| (noPart N (2 ^ F.vars.toNat - 1) &&& lowBits (ixor (ishr a0 3) (ishl a1 2)) F.vars.toNat) : Nat)) rfl rfl (ior_nat (by omega) (Nat.lt_of_le_of_lt Nat.and_le_left (by omega))) rfl ?_
  refine TOps.buildSlice (vs := [_, _, _]) (xs := [_, _, _]) Try.underlying34 ti3 ⟨rfl, rfl, rfl, rfl, rfl, rfl, trivial⟩ rfl rfl rfl rfl rfl rfl (by decide) rfl (fun b73 => ?_)
  obtain ⟨SS, hSS⟩ : ∃ SS, SS = sets3 Y N (lowBits (ixor (ishr a0 3) (ishl a1 2)) F.vars.toNat) F.vars.toNat := ⟨_, rfl⟩
  have hall := sets3_ok (z := lowBits (ixor (ishr a0 3) (ishl a1 2)) F.vars.toNat) hA hN' hAN
  rw [← hSS] at hall
  have hS3 : SS.length = 3 := by rw [hSS]; rfl
  refine TOps.le (H' := row (some b73) 3 1 3 (nats SS) :: H6) (Le.rowEq (by rw [hSS]; rfl)) ?_
  have hrs : RdS (row (some b73) 3 1 3 (nats SS) :: H6) (some b73) 0 (nats SS) := RdS.ofRowS (List.Mem.head _)
  replace r1 := r1.up (e := row (some b73) 3 1 3 (nats SS)); replace hrx := RdS.up (e := row (some b73) 3 1 3 (nats SS)) hrx; replace hF0 := hF0.le (Le.drop (e := row (some b73) 3 1 3 (nats SS)) (Le.refl _))
  have l9 : Le (row (some b73) 3 1 3 (nats SS) :: H6) H := Le.drop l8
  generalize row (some b73) 3 1 3 (nats SS) :: H6 = H7 at *
  refine TOps.len rfl Try.underlying34 rfl ?_
  refine TOps.move rfl rfl ?_
  refine TOps.next ?_
  refine Tri.range (X := Unit) (fun x k => [(3, .pointer (some ⟨b3, 0, none⟩)), (8, .int .i64 ((2 ^ F.vars.toNat - 1 : Nat) : Int)), (9, slV xa 0 F.nodes.length xcap), (73, slV (some b73) 0 3 3)]) (fun x k => H7) (fun x k => True) (by omega) rfl rfl rfl (fun _ _ => ⟨rfl, rfl, rfl, rfl⟩) () trivial ⟨rfl, rfl, rfl, rfl, trivial⟩ (by repeat (first | exact Le.refl _ | assumption | apply Le.drop)) (fun k x hlt hp => ?_) (fun x ac wc hp hS hM => ?_)
  · skip
    obtain ⟨sb, hsbe, -, hs⟩ := nats_at hrs (i := k) (by omega)
    cases hsbe
    rw [Nat.zero_add] at hs
    obtain ⟨q1, q2, q3⟩ := hall SS[k] (List.getElem_mem (by omega))
    generalize SS[k] = s at *
    have hsnd := law_sound hg hA hN' q1 q2 q3
    have hse : F.setErr (s : Int) = none := Fm.setErr_of hg q1
    have hcs : noPart s (2 ^ F.vars.toNat - 1) < 2 ^ F.vars.toNat := noPart_lt (by omega)
    have c1 := Fm.cubeErr_good hg q1 hcs (noPart_and _ _)
    have hvl := F.nodeVals_length s
    have htop := hsnd.2 F.top.toNat (by omega)
    refine Tri.seq (Tri.region ?_)
    refine TOps.indexAddr (off' := k) rfl rfl Try.underlying34 ti3 (by omega) (by omega) (by simp) rfl ?_
    refine TOps.load1 rfl ti3 (by first | exact Rd.lit (by repeat (first | exact List.Mem.head _ | apply List.Mem.tail)) rfl | (repeat (first | assumption | apply Rd.up))) rfl ?_
    refine TOps.assign rfl rfl ?_
    refine TOps.next ?_
    refine Tri.seq (Tri.region ?_)
    refine TOps.loadN rfl ti24 (by first | exact Rd.all (by repeat (first | exact List.Mem.head _ | apply List.Mem.tail)) | (repeat (first | assumption | apply Rd.up))) rfl rfl ?_
    refine TOps.move rfl rfl ?_
    refine TOps.call (vs := [_, _]) Try.call25 ⟨rfl, rfl, trivial⟩ (fvalues_g hF0 hk (s : Int)) rfl ?_
    rintro _ _ ⟨ys, ya, ycap, hys, rfl, hya, rfl⟩
    obtain rfl : ys = F.nodeVals s := by rw [hys, hse]; rfl
    rw [hse]
    have hry : RdS (row ya 4 1 ycap (bools (F.nodeVals s)) :: H7) ya 0 (bools (F.nodeVals s)) := RdS.ofRowA (List.Mem.head _) hya
    have hrx' := RdS.up (e := row ya 4 1 ycap (bools (F.nodeVals s))) hrx
    have r1' := r1.up (e := row ya 4 1 ycap (bools (F.nodeVals s)))
    have hF1 := hF0.le (Le.drop (e := row ya 4 1 ycap (bools (F.nodeVals s))) (Le.refl _))
    have l10 : Le (row ya 4 1 ycap (bools (F.nodeVals s)) :: H7) H7 := Le.drop (Le.refl _)
    generalize row ya 4 1 ycap (bools (F.nodeVals s)) :: H7 = H8 at *
    rw [hvl]
    refine TOps.move rfl rfl ?_
    refine TOps.extract rfl rfl rfl ?_
    refine TOps.extract rfl rfl rfl ?_
    refine TOps.assign rfl rfl ?_
    refine TOps.assign rfl rfl ?_
    refine TOps.next ?_
    refine Tri.seq (Tri.region ?_)
    refine TOps.loadN rfl ti24 (by first | exact Rd.all (by repeat (first | exact List.Mem.head _ | apply List.Mem.tail)) | (repeat (first | assumption | apply Rd.up))) rfl rfl ?_
    refine TOps.move rfl rfl ?_
    refine TOps.move rfl rfl ?_
    refine TOps.move rfl rfl ?_
    refine TOps.andNot (r := (noPart s (2 ^ F.vars.toNat - 1) : Nat)) rfl rfl (iandn_nat (by omega) (by omega)) rfl ?_
    refine TOps.buildStruct (vs := [(0, _), (1, _)]) (xs := [_, _]) [(0, 1), (1, 1)] Try.underlying31 ti31 (fun w => by simp) ⟨rfl, rfl, rfl, rfl, trivial⟩ rfl rfl ?_
    refine TOps.call (vs := [_, _]) Try.call17 ⟨rfl, rfl, trivial⟩ (tdecided_g hF1 hk (s : Int) (noPart s (2 ^ F.vars.toNat - 1) : Nat)) rfl ?_
    rintro _ _ ⟨rfl, rfl⟩
    rw [c1, show ((none : Option Int).isNone && decide ((bif (none : Option Int).isNone then ((F.tval (s : Int) (noPart s (2 ^ F.vars.toNat - 1) : Nat) F.top.toNat : Nat) : Int) else 0) ≠ 2)) = true from by simp only [Option.isNone_none, cond_true, Bool.true_and]; exact decide_eq_true (by omega)]
    refine TOps.move rfl rfl ?_
    refine TOps.extract rfl rfl rfl ?_
    refine TOps.extract rfl rfl rfl ?_
    refine TOps.assign rfl rfl ?_
    refine TOps.assign rfl rfl ?_
    refine TOps.next ?_
    refine Tri.seq ?_
    refine Tri.seq (Tri.region ?_)
    refine TOps.move rfl rfl ?_
    refine TOps.neqNil (T := 62) (o := none) rfl Try.underlying28 rfl ?_
    refine TOps.move rfl rfl ?_
    refine' TOps.orB 2 rfl rfl rfl rfl (fun hg12_2 => ?_) ?_; rotate_left
    · have hg12_2' := hg12_2
      try simp only [decide_eq_true_eq, decide_eq_false_iff_not, Bool.and_eq_true, Bool.or_eq_true, Bool.not_eq_true', Bool.and_eq_false_iff, Bool.or_eq_false_iff, Bool.not_eq_false', Int.not_lt, Int.not_le, ne_eq, Decidable.not_not] at hg12_2'
      refine TOps.strip 2 false rfl rfl hg12_2 rfl ?_
      refine TOps.move rfl rfl ?_
      refine TOps.neqNil (T := 62) (o := none) rfl Try.underlying28 rfl ?_
      refine TOps.blk rfl (by repeat (first | exact Ext.refl _ | refine Ext.cons rfl ?_)) (by repeat (first | exact Le.refl _ | apply Le.drop))
    refine TOps.move rfl rfl ?_
    refine' TOps.orB 2 rfl rfl rfl rfl (fun hg12_6 => ?_) ?_; rotate_left
    · have hg12_6' := hg12_6
      try simp only [decide_eq_true_eq, decide_eq_false_iff_not, Bool.and_eq_true, Bool.or_eq_true, Bool.not_eq_true', Bool.and_eq_false_iff, Bool.or_eq_false_iff, Bool.not_eq_false', Int.not_lt, Int.not_le, ne_eq, Decidable.not_not] at hg12_6'
      refine TOps.strip 6 false rfl rfl hg12_6 rfl ?_
      refine TOps.move rfl rfl ?_
      refine TOps.not rfl rfl ?_
      refine TOps.blk rfl (by repeat (first | exact Ext.refl _ | refine Ext.cons rfl ?_)) (by repeat (first | exact Le.refl _ | apply Le.drop))
    refine TOps.move rfl rfl ?_
    refine' TOps.orB 5 rfl rfl rfl rfl (fun hg12_10 => ?_) ?_; rotate_left
    · have hg12_10' := hg12_10
      try simp only [decide_eq_true_eq, decide_eq_false_iff_not, Bool.and_eq_true, Bool.or_eq_true, Bool.not_eq_true', Bool.and_eq_false_iff, Bool.or_eq_false_iff, Bool.not_eq_false', Int.not_lt, Int.not_le, ne_eq, Decidable.not_not] at hg12_10'
      refine TOps.strip 10 false rfl rfl hg12_10 rfl ?_
      refine TOps.move rfl rfl ?_
      refine TOps.len rfl Try.underlying55 rfl ?_
      refine TOps.move rfl rfl ?_
      refine TOps.len rfl Try.underlying34 rfl ?_
      refine TOps.neqI rfl rfl rfl ?_
      refine TOps.blk rfl (by repeat (first | exact Ext.refl _ | refine Ext.cons rfl ?_)) (by repeat (first | exact Le.refl _ | apply Le.drop))
    refine TOps.next ?_
    refine Tri.cond rfl (fun hc3 => ?_) (fun hc3 => ?_)
    · try simp only [decide_eq_true_eq, decide_eq_false_iff_not, Bool.and_eq_true, Bool.or_eq_true, Bool.not_eq_true', Bool.and_eq_false_iff, Bool.or_eq_false_iff, Bool.not_eq_false', Int.not_lt, Int.not_le, ne_eq, Decidable.not_not, Option.isSome_iff_ne_none, Option.isNone_iff_eq_none] at hc3
      have hfalse : False := by simp at hc3
      refine Tri.seq (Tri.region ?_)
      refine TOps.assign rfl rfl ?_
      refine TOps.next ?_
      exact hfalse.elim
    try simp only [decide_eq_true_eq, decide_eq_false_iff_not, Bool.and_eq_true, Bool.or_eq_true, Bool.not_eq_true', Bool.and_eq_false_iff, Bool.or_eq_false_iff, Bool.not_eq_false', Int.not_lt, Int.not_le, ne_eq, Decidable.not_not, Option.isSome_iff_ne_none, Option.isNone_iff_eq_none] at hc3
    refine Tri.fin ?_
    refine Nrm.next ?_
    refine Tri.seq (Tri.region ?_)
    refine TOps.move rfl rfl ?_
    refine TOps.len rfl Try.underlying34 rfl ?_
    refine TOps.move rfl rfl ?_
    refine TOps.next ?_
    refine Tri.range (X := Unit) (fun z j => [(3, .pointer (some ⟨b3, 0, none⟩)), (8, .int .i64 ((2 ^ F.vars.toNat - 1 : Nat) : Int)), (9, slV xa 0 F.nodes.length xcap), (73, slV (some b73) 0 3 3), (74, .int .i64 3), (75, .int .i64 k), (13, slV ya 0 F.nodes.length ycap)]) (fun z j => H8) (fun z j => True) (by omega) rfl rfl rfl (fun _ _ => ⟨rfl, rfl, rfl, rfl⟩) () trivial ⟨rfl, rfl, rfl, rfl, rfl, rfl, rfl, trivial⟩ (by repeat (first | exact Le.refl _ | assumption | apply Le.drop)) (fun j z hltj hpj => ?_) (fun z ac wc hpj hS hM => ?_)
    · skip
      obtain ⟨b6, rfl, -, h6⟩ := nats_at hrx' (i := j) (by omega)
      obtain ⟨b8, rfl, -, h8⟩ := RdS.at hry (i := j) (by simp; omega)
      have q4 := F.tnodeVals_getD Y N j
      have q5 := F.nodeVals_getD s j
      rw [List.getD_eq_getElem?_getD, List.getElem?_eq_getElem (show j < (F.tnodeVals Y N).length by omega), Option.getD_some] at q4
      rw [List.getD_eq_getElem?_getD, List.getElem?_eq_getElem (show j < (F.nodeVals s).length by omega), Option.getD_some] at q5
      rw [List.getElem_map, q5, Nat.zero_add] at h8
      rw [q4, Nat.zero_add] at h6
      have hlk := hsnd.1 (F.vars.toNat + j) (by omega)
      generalize F.tval Y N (F.vars.toNat + j) = t1 at *
      generalize F.val s (F.vars.toNat + j) = t2 at *
      refine Tri.seq (Tri.region ?_)
      refine TOps.move rfl rfl ?_
      refine TOps.assign rfl rfl ?_
      refine TOps.next ?_
      refine Tri.seq ?_
      rcases (show decide ((t1 : Int) ≠ 2) = false ∨ decide ((t1 : Int) ≠ 2) = true from by cases decide ((t1 : Int) ≠ 2) <;> simp) with qq | qq
      · skip
        refine Tri.drawC rfl [(3, .pointer (some ⟨b3, 0, none⟩)), (8, .int .i64 ((2 ^ F.vars.toNat - 1 : Nat) : Int)), (73, slV (some b73) 0 3 3), (74, .int .i64 3), (75, .int .i64 k), (9, slV (some b6) 0 F.nodes.length xcap), (13, slV (some b8) 0 F.nodes.length ycap), (17, .int .i64 j), (113, .int .i64 F.nodes.length), (114, .int .i64 j)] [] [_, _, _, _, _, _, _, _, _, _, _, _, _, _, _, _, _] (H8) [16] rfl ⟨rfl, rfl, rfl, rfl, rfl, rfl, rfl, rfl, rfl, rfl, trivial⟩ trivial (by repeat (first | exact Le.refl _ | assumption | apply Le.drop)) (by
          refine ⟨?_, ?_, ?_, ?_, ?_, ?_, ?_, ?_, ?_, ?_, ?_, ?_, ?_, ?_, ?_, ?_, ?_, trivial⟩
          · refine ⟨fun x S c he hw hd hc hcu hm _ => ?_, trivial⟩
            refine TOps.move (he _ _ rfl) rfl ?_
            exact TOps.fin (Nrm.draw x (fun _ _ _ => rfl) rfl (by first | exact Le.refl _ | assumption | exact (by repeat (first | exact Le.refl _ | assumption | apply Le.drop))))
          · refine ⟨fun x S c he hw hd hc hcu hm _ => ?_, trivial⟩
            refine TOps.move (he _ _ rfl) rfl ?_
            exact TOps.fin (Nrm.draw x (fun _ _ _ => rfl) rfl (by first | exact Le.refl _ | assumption | exact (by repeat (first | exact Le.refl _ | assumption | apply Le.drop))))
          · refine ⟨fun x S c he hw hd hc hcu hm _ => ?_, trivial⟩
            obtain ⟨h0, h1, -⟩ := hd
            refine TOps.indexAddr (off' := j) h0 h1 Try.underlying34 ti3 (by omega) (by omega) (by simp) rfl ?_
            exact TOps.fin (Nrm.draw x (fun _ _ _ => rfl) rfl (by first | exact Le.refl _ | assumption | exact (by repeat (first | exact Le.refl _ | assumption | apply Le.drop))))
          · refine ⟨fun x S c he hw hd hc hcu hm _ => ?_, trivial⟩
            obtain ⟨h2, -⟩ := hd
            refine TOps.load1 h2 ti3 (by first | exact Rd.lit (by repeat (first | exact List.Mem.head _ | apply List.Mem.tail)) rfl | (repeat (first | assumption | apply Rd.up))) rfl ?_
            exact TOps.fin (Nrm.draw x (fun _ _ _ => rfl) rfl (by first | exact Le.refl _ | assumption | exact (by repeat (first | exact Le.refl _ | assumption | apply Le.drop))))
          · refine ⟨fun x S c he hw hd hc hcu hm _ => ?_, trivial⟩
            obtain ⟨h3, -⟩ := hd
            refine TOps.neqIr h3 rfl qq rfl ?_
            exact TOps.fin (Nrm.draw x (fun _ _ _ => rfl) rfl (by first | exact Le.refl _ | assumption | exact (by repeat (first | exact Le.refl _ | assumption | apply Le.drop))))
          · refine ⟨fun x S c he hw hd hc hcu hm _ => ?_, trivial⟩
            obtain ⟨h4, -⟩ := hd
            refine TOps.move h4 rfl ?_
            exact TOps.fin (Nrm.draw x (fun _ _ _ => rfl) rfl (by first | exact Le.refl _ | assumption | exact (by repeat (first | exact Le.refl _ | assumption | apply Le.drop))))
          · refine ⟨fun x S c he hw hd hc hcu hm hgd => ?_, ⟨_, rfl⟩, .inl ⟨rfl, fun x => .inr ⟨.inl rfl, rfl⟩⟩⟩
            exact absurd hgd (by first | (intro h; cases h; done) | simp_all)
          · refine ⟨fun x S c he hw hd hc hcu hm hgd => ?_, ⟨_, rfl⟩, .inl ⟨rfl, fun x => .inr ⟨.inl rfl, rfl⟩⟩⟩
            exact absurd hgd (by first | (intro h; cases h; done) | simp_all)
          · refine ⟨fun x S c he hw hd hc hcu hm hgd => ?_, ⟨_, rfl⟩, .inl ⟨rfl, fun x => .inr ⟨.inl rfl, rfl⟩⟩⟩
            exact absurd hgd (by first | (intro h; cases h; done) | simp_all)
          · refine ⟨fun x S c he hw hd hc hcu hm hgd => ?_, ⟨_, rfl⟩, .inl ⟨rfl, fun x => .inr ⟨.inl rfl, rfl⟩⟩⟩
            exact absurd hgd (by first | (intro h; cases h; done) | simp_all)
          · refine ⟨fun x S c he hw hd hc hcu hm hgd => ?_, ⟨_, rfl⟩, .inl ⟨rfl, fun x => .inr ⟨.inl rfl, rfl⟩⟩⟩
            exact absurd hgd (by first | (intro h; cases h; done) | simp_all)
          · refine ⟨fun x S c he hw hd hc hcu hm hgd => ?_, ⟨_, rfl⟩, .inl ⟨rfl, fun x => .inr ⟨.inl rfl, rfl⟩⟩⟩
            exact absurd hgd (by first | (intro h; cases h; done) | simp_all)
          · refine ⟨fun x S c he hw hd hc hcu hm hgd => ?_, ⟨_, rfl⟩, .inl ⟨rfl, fun x => .inr ⟨.inl rfl, rfl⟩⟩⟩
            exact absurd hgd (by first | (intro h; cases h; done) | simp_all)
          · refine ⟨fun x S c he hw hd hc hcu hm hgd => ?_, ⟨_, rfl⟩, .inl ⟨rfl, fun x => .inr ⟨.inl rfl, rfl⟩⟩⟩
            exact absurd hgd (by first | (intro h; cases h; done) | simp_all)
          · refine ⟨fun x S c he hw hd hc hcu hm hgd => ?_, ⟨_, rfl⟩, .inl ⟨rfl, fun x => .inr ⟨.inl rfl, rfl⟩⟩⟩
            exact absurd hgd (by first | (intro h; cases h; done) | simp_all)
          · refine ⟨fun x S c he hw hd hc hcu hm hgd => ?_, ⟨_, rfl⟩, .inl ⟨rfl, fun x => .inr ⟨.inl rfl, rfl⟩⟩⟩
            exact absurd hgd (by first | (intro h; cases h; done) | simp_all)
          · refine ⟨fun x S c he hw hd hc hcu hm _ => ?_, trivial⟩
            obtain ⟨h5, h15, -⟩ := hd
            refine TOps.pickr (r := .bool false) h5 h15 rfl rfl rfl ?_
            exact TOps.fin (Nrm.draw x (fun _ _ _ => rfl) rfl (by first | exact Le.refl _ | assumption | exact (by repeat (first | exact Le.refl _ | assumption | apply Le.drop))))
          ) ?_
        refine Nrm.next ?_
        refine Tri.cond rfl (fun hc4 => ?_) (fun hc4 => ?_)
        · try simp only [decide_eq_true_eq, decide_eq_false_iff_not, Bool.and_eq_true, Bool.or_eq_true, Bool.not_eq_true', Bool.and_eq_false_iff, Bool.or_eq_false_iff, Bool.not_eq_false', Int.not_lt, Int.not_le, ne_eq, Decidable.not_not, Option.isSome_iff_ne_none, Option.isNone_iff_eq_none] at hc4
          have hfalse : False := by simp at hc4
          refine Tri.seq (Tri.region ?_)
          refine TOps.assign rfl rfl ?_
          refine TOps.next ?_
          exact hfalse.elim
        try simp only [decide_eq_true_eq, decide_eq_false_iff_not, Bool.and_eq_true, Bool.or_eq_true, Bool.not_eq_true', Bool.and_eq_false_iff, Bool.or_eq_false_iff, Bool.not_eq_false', Int.not_lt, Int.not_le, ne_eq, Decidable.not_not, Option.isSome_iff_ne_none, Option.isNone_iff_eq_none] at hc4
        refine Tri.fin ?_
        refine Nrm.body () trivial ⟨rfl, rfl, rfl, rfl, rfl, rfl, rfl, rfl, rfl, trivial⟩ (by repeat (first | exact Le.refl _ | assumption | apply Le.drop))
      · skip
        refine Tri.drawC rfl [(3, .pointer (some ⟨b3, 0, none⟩)), (8, .int .i64 ((2 ^ F.vars.toNat - 1 : Nat) : Int)), (73, slV (some b73) 0 3 3), (74, .int .i64 3), (75, .int .i64 k), (9, slV (some b6) 0 F.nodes.length xcap), (13, slV (some b8) 0 F.nodes.length ycap), (17, .int .i64 j), (113, .int .i64 F.nodes.length), (114, .int .i64 j)] [] [_, _, _, _, _, _, _, _, _, _, _, _, _, _, _, _, _] (H8) [16] rfl ⟨rfl, rfl, rfl, rfl, rfl, rfl, rfl, rfl, rfl, rfl, trivial⟩ trivial (by repeat (first | exact Le.refl _ | assumption | apply Le.drop)) (by
          refine ⟨?_, ?_, ?_, ?_, ?_, ?_, ?_, ?_, ?_, ?_, ?_, ?_, ?_, ?_, ?_, ?_, ?_, trivial⟩
          · refine ⟨fun x S c he hw hd hc hcu hm _ => ?_, trivial⟩
            refine TOps.move (he _ _ rfl) rfl ?_
            exact TOps.fin (Nrm.draw x (fun _ _ _ => rfl) rfl (by first | exact Le.refl _ | assumption | exact (by repeat (first | exact Le.refl _ | assumption | apply Le.drop))))
          · refine ⟨fun x S c he hw hd hc hcu hm _ => ?_, trivial⟩
            refine TOps.move (he _ _ rfl) rfl ?_
            exact TOps.fin (Nrm.draw x (fun _ _ _ => rfl) rfl (by first | exact Le.refl _ | assumption | exact (by repeat (first | exact Le.refl _ | assumption | apply Le.drop))))
          · refine ⟨fun x S c he hw hd hc hcu hm _ => ?_, trivial⟩
            obtain ⟨h0, h1, -⟩ := hd
            refine TOps.indexAddr (off' := j) h0 h1 Try.underlying34 ti3 (by omega) (by omega) (by simp) rfl ?_
            exact TOps.fin (Nrm.draw x (fun _ _ _ => rfl) rfl (by first | exact Le.refl _ | assumption | exact (by repeat (first | exact Le.refl _ | assumption | apply Le.drop))))
          · refine ⟨fun x S c he hw hd hc hcu hm _ => ?_, trivial⟩
            obtain ⟨h2, -⟩ := hd
            refine TOps.load1 h2 ti3 (by first | exact Rd.lit (by repeat (first | exact List.Mem.head _ | apply List.Mem.tail)) rfl | (repeat (first | assumption | apply Rd.up))) rfl ?_
            exact TOps.fin (Nrm.draw x (fun _ _ _ => rfl) rfl (by first | exact Le.refl _ | assumption | exact (by repeat (first | exact Le.refl _ | assumption | apply Le.drop))))
          · refine ⟨fun x S c he hw hd hc hcu hm _ => ?_, trivial⟩
            obtain ⟨h3, -⟩ := hd
            refine TOps.neqIr h3 rfl qq rfl ?_
            exact TOps.fin (Nrm.draw x (fun _ _ _ => rfl) rfl (by first | exact Le.refl _ | assumption | exact (by repeat (first | exact Le.refl _ | assumption | apply Le.drop))))
          · refine ⟨fun x S c he hw hd hc hcu hm _ => ?_, trivial⟩
            obtain ⟨h4, -⟩ := hd
            refine TOps.move h4 rfl ?_
            exact TOps.fin (Nrm.draw x (fun _ _ _ => rfl) rfl (by first | exact Le.refl _ | assumption | exact (by repeat (first | exact Le.refl _ | assumption | apply Le.drop))))
          · refine ⟨fun x S c he hw hd hc hcu hm hgd => ?_, ⟨_, rfl⟩, .inl ⟨rfl, fun x => .inl rfl⟩⟩
            obtain ⟨h5, -⟩ := hd
            refine TOps.move (he _ _ rfl) rfl ?_
            exact TOps.fin (Nrm.draw x (fun _ _ _ => rfl) rfl (by first | exact Le.refl _ | assumption | exact (by repeat (first | exact Le.refl _ | assumption | apply Le.drop))))
          · refine ⟨fun x S c he hw hd hc hcu hm hgd => ?_, ⟨_, rfl⟩, .inl ⟨rfl, fun x => .inl rfl⟩⟩
            obtain ⟨h5, -⟩ := hd
            refine TOps.move (he _ _ rfl) rfl ?_
            exact TOps.fin (Nrm.draw x (fun _ _ _ => rfl) rfl (by first | exact Le.refl _ | assumption | exact (by repeat (first | exact Le.refl _ | assumption | apply Le.drop))))
          · refine ⟨fun x S c he hw hd hc hcu hm hgd => ?_, ⟨_, rfl⟩, .inl ⟨rfl, fun x => .inl rfl⟩⟩
            obtain ⟨h6, h7, h5, -⟩ := hd
            refine TOps.indexAddr (off' := j) h6 h7 Try.underlying34 ti3 (by omega) (by omega) (by simp) rfl ?_
            exact TOps.fin (Nrm.draw x (fun _ _ _ => rfl) rfl (by first | exact Le.refl _ | assumption | exact (by repeat (first | exact Le.refl _ | assumption | apply Le.drop))))
          · refine ⟨fun x S c he hw hd hc hcu hm hgd => ?_, ⟨_, rfl⟩, .inl ⟨rfl, fun x => .inl rfl⟩⟩
            obtain ⟨h8, h5, -⟩ := hd
            refine TOps.load1 h8 ti3 (by first | exact Rd.lit (by repeat (first | exact List.Mem.head _ | apply List.Mem.tail)) rfl | (repeat (first | assumption | apply Rd.up))) rfl ?_
            exact TOps.fin (Nrm.draw x (fun _ _ _ => rfl) rfl (by first | exact Le.refl _ | assumption | exact (by repeat (first | exact Le.refl _ | assumption | apply Le.drop))))
          · refine ⟨fun x S c he hw hd hc hcu hm hgd => ?_, ⟨_, rfl⟩, .inl ⟨rfl, fun x => .inl rfl⟩⟩
            obtain ⟨h9, h5, -⟩ := hd
            refine TOps.eqlI h9 rfl rfl ?_
            exact TOps.fin (Nrm.draw x (fun _ _ _ => rfl) rfl (by first | exact Le.refl _ | assumption | exact (by repeat (first | exact Le.refl _ | assumption | apply Le.drop))))
          · refine ⟨fun x S c he hw hd hc hcu hm hgd => ?_, ⟨_, rfl⟩, .inl ⟨rfl, fun x => .inl rfl⟩⟩
            obtain ⟨h5, -⟩ := hd
            refine TOps.move (he _ _ rfl) rfl ?_
            exact TOps.fin (Nrm.draw x (fun _ _ _ => rfl) rfl (by first | exact Le.refl _ | assumption | exact (by repeat (first | exact Le.refl _ | assumption | apply Le.drop))))
          · refine ⟨fun x S c he hw hd hc hcu hm hgd => ?_, ⟨_, rfl⟩, .inl ⟨rfl, fun x => .inl rfl⟩⟩
            obtain ⟨h5, -⟩ := hd
            refine TOps.move (he _ _ rfl) rfl ?_
            exact TOps.fin (Nrm.draw x (fun _ _ _ => rfl) rfl (by first | exact Le.refl _ | assumption | exact (by repeat (first | exact Le.refl _ | assumption | apply Le.drop))))
          · refine ⟨fun x S c he hw hd hc hcu hm hgd => ?_, ⟨_, rfl⟩, .inl ⟨rfl, fun x => .inl rfl⟩⟩
            obtain ⟨h11, h12, h5, -⟩ := hd
            refine TOps.indexAddr (off' := j) h11 h12 Try.underlying55 ti4 (by omega) (by omega) (by simp) rfl ?_
            exact TOps.fin (Nrm.draw x (fun _ _ _ => rfl) rfl (by first | exact Le.refl _ | assumption | exact (by repeat (first | exact Le.refl _ | assumption | apply Le.drop))))
          · refine ⟨fun x S c he hw hd hc hcu hm hgd => ?_, ⟨_, rfl⟩, .inl ⟨rfl, fun x => .inl rfl⟩⟩
            obtain ⟨h13, h5, -⟩ := hd
            refine TOps.load1 h13 ti4 (by first | exact Rd.lit (by repeat (first | exact List.Mem.head _ | apply List.Mem.tail)) rfl | (repeat (first | assumption | apply Rd.up))) rfl ?_
            exact TOps.fin (Nrm.draw x (fun _ _ _ => rfl) rfl (by first | exact Le.refl _ | assumption | exact (by repeat (first | exact Le.refl _ | assumption | apply Le.drop))))
          · refine ⟨fun x S c he hw hd hc hcu hm hgd => ?_, ⟨_, rfl⟩, .inl ⟨rfl, fun x => .inl rfl⟩⟩
            obtain ⟨h10, h14, h5, -⟩ := hd
            refine TOps.neqBr (r := false) h10 h14 (by have h9' := hlk (by have := of_decide_eq_true qq; omega); rw [← h9', show decide ((t1 : Int) = 1) = decide (t1 = 1) from decide_eq_decide.2 (by omega)]; simp) Try.underlying4 rfl ?_
            exact TOps.fin (Nrm.draw x (fun _ _ _ => rfl) rfl (by first | exact Le.refl _ | assumption | exact (by repeat (first | exact Le.refl _ | assumption | apply Le.drop))))
          · refine ⟨fun x S c he hw hd hc hcu hm _ => ?_, trivial⟩
            obtain ⟨h5, h15, -⟩ := hd
            refine TOps.pickr (r := .bool false) h5 h15 rfl rfl rfl ?_
            exact TOps.fin (Nrm.draw x (fun _ _ _ => rfl) rfl (by first | exact Le.refl _ | assumption | exact (by repeat (first | exact Le.refl _ | assumption | apply Le.drop))))
          ) ?_
        refine Nrm.next ?_
        refine Tri.cond rfl (fun hc4 => ?_) (fun hc4 => ?_)
        · try simp only [decide_eq_true_eq, decide_eq_false_iff_not, Bool.and_eq_true, Bool.or_eq_true, Bool.not_eq_true', Bool.and_eq_false_iff, Bool.or_eq_false_iff, Bool.not_eq_false', Int.not_lt, Int.not_le, ne_eq, Decidable.not_not, Option.isSome_iff_ne_none, Option.isNone_iff_eq_none] at hc4
          have hfalse : False := by simp at hc4
          refine Tri.seq (Tri.region ?_)
          refine TOps.assign rfl rfl ?_
          refine TOps.next ?_
          exact hfalse.elim
        try simp only [decide_eq_true_eq, decide_eq_false_iff_not, Bool.and_eq_true, Bool.or_eq_true, Bool.not_eq_true', Bool.and_eq_false_iff, Bool.or_eq_false_iff, Bool.not_eq_false', Int.not_lt, Int.not_le, ne_eq, Decidable.not_not, Option.isSome_iff_ne_none, Option.isNone_iff_eq_none] at hc4
        refine Tri.fin ?_
        refine Nrm.body () trivial ⟨rfl, rfl, rfl, rfl, rfl, rfl, rfl, rfl, rfl, trivial⟩ (by repeat (first | exact Le.refl _ | assumption | apply Le.drop))
    refine Nrm.of hS hM ?_
    refine Nrm.body () trivial ⟨rfl, rfl, rfl, rfl, rfl, rfl, trivial⟩ l10
  refine Nrm.of hS hM ?_
  refine Nrm.next ?_
  refine Tri.seq (Tri.region ?_)
  refine TOps.assign rfl rfl ?_
  refine TOps.next ?_
  refine Tri.ret1 (H' := H) Try.results7 (fun _ _ h => h) (.tmp rfl) l9 ⟨rfl, rfl⟩
end Go.Proofs
