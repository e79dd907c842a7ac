import Derived.Test.YthbmgpkocbabeaaQ29
import Derived.Test.YthbmgpkocbabeaaGL37
namespace Go.Proofs
open Go.GL
set_option linter.unusedVariables false
set_option linter.unusedSimpArgs false
theorem moduleMore_g {H : List Ent} {fv : Value} {F : Fm} (hF : RF H fv F) (hk : F.ok) (pk : Int) :
    Gives Try.prog 8 [fv, .int .u8 pk] H (R1 (.bool true) H) := by
  have hF0 := hF
  obtain ⟨na, off, ncap, nsp, rfl, hN⟩ := hF
  refine Gives.enter Try.func8 rfl (by exact Try.ntmps8) rfl ?_
  refine Tri.seq (Tri.region ?_)
  refine TOps.boxN rfl ti24 rfl rfl (fun b2 => ?_)
  refine TOps.hide (fun H1 l1 s1 r1 => ?_)
  replace hF0 := hF0.le l1; replace hN := hN.le l1
  refine TOps.assign rfl rfl ?_
  refine TOps.next ?_
  refine Tri.seq ?_
  refine Tri.seq (Tri.region ?_)
  refine TOps.call (vs := []) Try.call9 trivial (awake29_g) rfl ?_
  rintro _ _ ⟨rfl, rfl⟩
  refine TOps.not rfl rfl ?_
  refine TOps.move rfl rfl ?_
  refine' TOps.orB 2 rfl rfl rfl rfl (fun hg1_2 => ?_) ?_; rotate_left
  · have hg1_2' := hg1_2
    try simp only [decide_eq_true_eq, decide_eq_false_iff_not, Bool.and_eq_true, Bool.or_eq_true, Bool.not_eq_true', Bool.and_eq_false_iff, Bool.or_eq_false_iff, Bool.not_eq_false', Int.not_lt, Int.not_le, ne_eq, Decidable.not_not] at hg1_2'
    refine TOps.strip 2 false rfl rfl hg1_2 rfl ?_
    refine TOps.loadN rfl ti24 (by first | exact Rd.all (by repeat (first | exact List.Mem.head _ | apply List.Mem.tail)) | (repeat (first | assumption | apply Rd.up))) rfl rfl ?_
    refine TOps.call (vs := [_]) Try.call10 ⟨rfl, trivial⟩ (heavy_g hF0 hk) rfl ?_
    rintro _ _ ⟨rfl, rfl⟩
    refine TOps.blk rfl (by repeat (first | exact Ext.refl _ | refine Ext.cons rfl ?_)) (by repeat (first | exact Le.refl _ | apply Le.drop))
  refine TOps.move rfl rfl ?_
  refine' TOps.orB 3 rfl rfl rfl rfl (fun hg1_6 => ?_) ?_; rotate_left
  · have hg1_6' := hg1_6
    try simp only [decide_eq_true_eq, decide_eq_false_iff_not, Bool.and_eq_true, Bool.or_eq_true, Bool.not_eq_true', Bool.and_eq_false_iff, Bool.or_eq_false_iff, Bool.not_eq_false', Int.not_lt, Int.not_le, ne_eq, Decidable.not_not] at hg1_6'
    refine TOps.strip 6 false rfl rfl hg1_6 rfl ?_
    refine TOps.loadN rfl ti24 (by first | exact Rd.all (by repeat (first | exact List.Mem.head _ | apply List.Mem.tail)) | (repeat (first | assumption | apply Rd.up))) rfl rfl ?_
    refine TOps.call (vs := [_]) Try.call11 ⟨rfl, trivial⟩ (check_g hF0 hk) rfl ?_
    rintro _ _ ⟨rfl, rfl⟩
    refine TOps.neqNil rfl Try.underlying28 rfl ?_
    refine TOps.blk rfl (by repeat (first | exact Ext.refl _ | refine Ext.cons rfl ?_)) (by repeat (first | exact Le.refl _ | apply Le.drop))
  refine TOps.move rfl rfl ?_
  refine' TOps.orB 4 rfl rfl rfl rfl (fun hg1_11 => ?_) ?_; rotate_left
  · have hg1_11' := hg1_11
    try simp only [decide_eq_true_eq, decide_eq_false_iff_not, Bool.and_eq_true, Bool.or_eq_true, Bool.not_eq_true', Bool.and_eq_false_iff, Bool.or_eq_false_iff, Bool.not_eq_false', Int.not_lt, Int.not_le, ne_eq, Decidable.not_not] at hg1_11'
    refine TOps.strip 11 false rfl rfl hg1_11 rfl ?_
    first | refine TOps.fieldB 1 rfl Try.underlying24 rfl rfl ti22 rfl rfl rfl ?_ | refine TOps.fieldN 1 rfl Try.underlying24 rfl rfl ti22 rfl rfl rfl ?_
    refine TOps.load1 rfl ti22 (by first | exact Rd.lit (by repeat (first | exact List.Mem.head _ | apply List.Mem.tail)) rfl | (repeat (first | assumption | exact Rd.fld (by assumption) 1 rfl | apply Rd.up))) rfl ?_
    refine TOps.len rfl Try.underlying22 rfl ?_
    refine TOps.gtr rfl rfl rfl ?_
    refine TOps.blk rfl (by repeat (first | exact Ext.refl _ | refine Ext.cons rfl ?_)) (by repeat (first | exact Le.refl _ | apply Le.drop))
  refine TOps.next ?_
  refine Tri.cond rfl (fun hc1 => ?_) (fun hc1 => ?_)
  · try simp only [decide_eq_true_eq, decide_eq_false_iff_not, Bool.and_eq_true, Bool.or_eq_true, Bool.not_eq_true', Bool.and_eq_false_iff, Bool.or_eq_false_iff, Bool.not_eq_false', Int.not_lt, Int.not_le, ne_eq, Decidable.not_not, Option.isSome_iff_ne_none, Option.isNone_iff_eq_none] at hc1
    refine Tri.seq (Tri.region ?_)
    refine TOps.call (vs := []) Try.call9 trivial (awake29_g) rfl ?_
    rintro _ _ ⟨rfl, rfl⟩
    refine TOps.assign rfl rfl ?_
    refine TOps.next ?_
    refine Tri.ret1 (H' := H) Try.results8 (fun _ _ h => h) (.tmp rfl) l1 ⟨rfl, rfl⟩
  try simp only [decide_eq_true_eq, decide_eq_false_iff_not, Bool.and_eq_true, Bool.or_eq_true, Bool.not_eq_true', Bool.and_eq_false_iff, Bool.or_eq_false_iff, Bool.not_eq_false', Int.not_lt, Int.not_le, ne_eq, Decidable.not_not, Option.isSome_iff_ne_none, Option.isNone_iff_eq_none] at hc1
  have he : F.err = none := by simpa using hc1.1.2
  have hg := (Fm.good_iff F).1 he
  have g0 := hg.v0; have g1 := hg.v1; have g2 := hg.n1; have gt := hg.topLt
  have hlen : F.nodes.length ≤ 100 := by omega
  have hv24 : F.vars.toNat ≤ 24 := by omega
  have hfl := F.find_len
  have hpfl : F.proper.length ≤ F.find.length := List.length_filter_le _ _
  refine Tri.fin ?_
  refine Nrm.next ?_
  refine Tri.seq (Tri.region ?_)
  refine TOps.loadN rfl ti24 (by first | exact Rd.all (by repeat (first | exact List.Mem.head _ | apply List.Mem.tail)) | (repeat (first | assumption | apply Rd.up))) rfl rfl ?_
  refine TOps.call (vs := [_]) Try.call12 ⟨rfl, trivial⟩ (find_g hF0 hk) rfl ?_
  rintro _ _ ⟨xs, la, lcap, hxs, rfl, hla, rfl⟩
  obtain rfl : xs = F.find := by rw [hxs, he]; rfl
  rw [he]
  have hlr : RdS (row la 3 1 lcap (nats F.find) :: H1) la 0 (nats F.find) := RdS.ofRowA (List.Mem.head _) hla
  replace hF0 := hF0.le (Le.drop (e := row la 3 1 lcap (nats F.find)) (Le.refl _)); replace hN := hN.le (Le.drop (e := row la 3 1 lcap (nats F.find)) (Le.refl _)); replace r1 := r1.up (e := row la 3 1 lcap (nats F.find))
  have l2 : Le (row la 3 1 lcap (nats F.find) :: H1) H := Le.drop l1
  generalize row la 3 1 lcap (nats F.find) :: H1 = H2 at *
  refine TOps.move rfl rfl ?_
  refine TOps.extract rfl rfl rfl ?_
  refine TOps.extract rfl rfl rfl ?_
  refine TOps.assign rfl rfl ?_
  refine TOps.assign rfl rfl ?_
  refine TOps.next ?_
  refine Tri.seq (Tri.region ?_)
  refine TOps.loadN rfl ti24 (by first | exact Rd.all (by repeat (first | exact List.Mem.head _ | apply List.Mem.tail)) | (repeat (first | assumption | apply Rd.up))) rfl rfl ?_
  refine TOps.call (vs := [_]) Try.call22 ⟨rfl, trivial⟩ (proper_g hF0 hk) rfl ?_
  rintro _ _ ⟨ys, ma, mcap, hys, rfl, hma, rfl⟩
  obtain rfl : ys = F.proper := by rw [hys, he]; rfl
  rw [he]
  have hmr : RdS (row ma 3 1 mcap (nats F.proper) :: H2) ma 0 (nats F.proper) := RdS.ofRowA (List.Mem.head _) hma
  replace hF0 := hF0.le (Le.drop (e := row ma 3 1 mcap (nats F.proper)) (Le.refl _)); replace hN := hN.le (Le.drop (e := row ma 3 1 mcap (nats F.proper)) (Le.refl _)); replace r1 := r1.up (e := row ma 3 1 mcap (nats F.proper)); replace hlr := RdS.up (e := row ma 3 1 mcap (nats F.proper)) hlr
  have l3 : Le (row ma 3 1 mcap (nats F.proper) :: H2) H := Le.drop l2
  generalize row ma 3 1 mcap (nats F.proper) :: H2 = H3 at *
  refine TOps.move rfl rfl ?_
  refine TOps.extract rfl rfl rfl ?_
  refine TOps.extract rfl rfl rfl ?_
  refine TOps.assign rfl rfl ?_
  refine TOps.assign rfl rfl ?_
  refine TOps.next ?_
  refine Tri.seq ?_
  refine Tri.seq (Tri.region ?_)
  refine TOps.move rfl rfl ?_
  refine TOps.neqNil (T := 43) (o := none) rfl Try.underlying28 rfl ?_
  refine TOps.move rfl rfl ?_
  refine' TOps.orB 2 rfl rfl rfl rfl (fun hg5_2 => ?_) ?_; rotate_left
  · have hg5_2' := hg5_2
    try simp only [decide_eq_true_eq, decide_eq_false_iff_not, Bool.and_eq_true, Bool.or_eq_true, Bool.not_eq_true', Bool.and_eq_false_iff, Bool.or_eq_false_iff, Bool.not_eq_false', Int.not_lt, Int.not_le, ne_eq, Decidable.not_not] at hg5_2'
    refine TOps.strip 2 false rfl rfl hg5_2 rfl ?_
    refine TOps.move rfl rfl ?_
    refine TOps.neqNil (T := 43) (o := none) rfl Try.underlying28 rfl ?_
    refine TOps.blk rfl (by repeat (first | exact Ext.refl _ | refine Ext.cons rfl ?_)) (by repeat (first | exact Le.refl _ | apply Le.drop))
  refine TOps.next ?_
  refine Tri.cond rfl (fun hc2 => ?_) (fun hc2 => ?_)
  · try simp only [decide_eq_true_eq, decide_eq_false_iff_not, Bool.and_eq_true, Bool.or_eq_true, Bool.not_eq_true', Bool.and_eq_false_iff, Bool.or_eq_false_iff, Bool.not_eq_false', Int.not_lt, Int.not_le, ne_eq, Decidable.not_not, Option.isSome_iff_ne_none, Option.isNone_iff_eq_none] at hc2
    have hfalse : False := by simp at hc2
    refine Tri.seq (Tri.region ?_)
    refine TOps.assign rfl rfl ?_
    refine TOps.next ?_
    exact hfalse.elim
  try simp only [decide_eq_true_eq, decide_eq_false_iff_not, Bool.and_eq_true, Bool.or_eq_true, Bool.not_eq_true', Bool.and_eq_false_iff, Bool.or_eq_false_iff, Bool.not_eq_false', Int.not_lt, Int.not_le, ne_eq, Decidable.not_not, Option.isSome_iff_ne_none, Option.isNone_iff_eq_none] at hc2
  refine Tri.fin ?_
  refine Nrm.next ?_
  refine Tri.seq (Tri.region ?_)
  refine TOps.assign rfl rfl ?_
  refine TOps.next ?_
  refine Tri.seq ?_
  refine Tri.seq (Tri.region ?_)
  refine TOps.move rfl rfl ?_
  refine TOps.len rfl Try.underlying30 rfl ?_
  refine TOps.move rfl rfl ?_
  refine TOps.next ?_
  refine Tri.range (X := Unit) (fun z j => [(2, .pointer (some ⟨b2, 0, none⟩)), (7, slV ma 0 F.proper.length mcap), (9, .int .i64 ((F.properTo j).length : Nat)), (51, slV la 0 F.find.length lcap)]) (fun z j => H3) (fun z j => True) (by omega) rfl rfl rfl (fun _ _ => ⟨rfl, rfl, rfl, rfl⟩) () trivial ⟨rfl, rfl, rfl, rfl, trivial⟩ (by repeat (first | exact Le.refl _ | assumption | apply Le.drop)) (fun j z hltj hpj => ?_) (fun z ac wc hpj hS hM => ?_)
  · skip
    have hps := F.properTo_succ hltj
    have hpl := F.properTo_le j
    have hsplit := fun h => F.proper_split hltj h
    obtain ⟨lb, rfl, -, hl⟩ := nats_at hlr hltj
    rw [Nat.zero_add] at hl
    obtain ⟨i, hi, hbi, hmi, hxi⟩ := Fm.mem_find.1 (List.getElem_mem hltj)
    have hlk := Fm.find_lt hltj
    generalize F.find[j] = m at *
    have hev := Nat.lt_of_lt_of_le (Fm.evs_lt (F := F) m) (Nat.pow_le_pow_right (by decide) hv24)
    have hip := iand_pred0 hev
    have e24 : (2 : Nat) ^ 24 = 16777216 := by decide
    refine Tri.seq (Tri.region ?_)
    refine TOps.indexAddr (off' := j) rfl rfl Try.underlying30 ti3 (by omega) (by omega) (by simp) rfl ?_
    refine TOps.load1 rfl ti3 hl rfl ?_
    refine TOps.assign rfl rfl ?_
    refine TOps.next ?_
    refine Tri.seq (Tri.region ?_)
    refine TOps.loadN rfl ti24 (by first | exact Rd.all (by repeat (first | exact List.Mem.head _ | apply List.Mem.tail)) | (repeat (first | assumption | apply Rd.up))) rfl rfl ?_
    refine TOps.move rfl rfl ?_
    refine TOps.call (vs := [_, _]) Try.call13 ⟨rfl, rfl, trivial⟩ (mBelowOk_g hF0 hg m hlk) rfl ?_
    rintro _ _ ⟨rfl, rfl⟩
    refine TOps.move rfl rfl ?_
    refine TOps.extract rfl rfl rfl ?_
    refine TOps.extract rfl rfl rfl ?_
    refine TOps.assign rfl rfl ?_
    refine TOps.assign rfl rfl ?_
    refine TOps.next ?_
    refine Tri.seq ?_
    refine Tri.seq (Tri.region ?_)
    refine TOps.move rfl rfl ?_
    refine TOps.neqNil (T := 43) (o := none) rfl Try.underlying28 rfl ?_
    refine TOps.next ?_
    refine Tri.cond rfl (fun hc3 => ?_) (fun hc3 => ?_)
    · try simp only [decide_eq_true_eq, decide_eq_false_iff_not, Bool.and_eq_true, Bool.or_eq_true, Bool.not_eq_true', Bool.and_eq_false_iff, Bool.or_eq_false_iff, Bool.not_eq_false', Int.not_lt, Int.not_le, ne_eq, Decidable.not_not, Option.isSome_iff_ne_none, Option.isNone_iff_eq_none] at hc3
      have hfalse : False := by simp at hc3
      refine Tri.seq (Tri.region ?_)
      refine TOps.assign rfl rfl ?_
      refine TOps.next ?_
      exact hfalse.elim
    try simp only [decide_eq_true_eq, decide_eq_false_iff_not, Bool.and_eq_true, Bool.or_eq_true, Bool.not_eq_true', Bool.and_eq_false_iff, Bool.or_eq_false_iff, Bool.not_eq_false', Int.not_lt, Int.not_le, ne_eq, Decidable.not_not, Option.isSome_iff_ne_none, Option.isNone_iff_eq_none] at hc3
    refine Tri.fin ?_
    refine Nrm.next ?_
    refine Tri.seq ?_
    refine Tri.seq (Tri.region ?_)
    refine TOps.move rfl rfl ?_
    first | refine TOps.fieldB 2 rfl Try.underlying24 rfl rfl ti3 rfl rfl rfl ?_ | refine TOps.fieldN 2 rfl Try.underlying24 rfl rfl ti3 rfl rfl rfl ?_
    refine TOps.load1 rfl ti3 (by first | exact Rd.lit (by repeat (first | exact List.Mem.head _ | apply List.Mem.tail)) rfl | (repeat (first | assumption | exact Rd.fld (by assumption) 2 rfl | apply Rd.up))) rfl ?_
    refine TOps.eqlI rfl rfl rfl ?_
    refine TOps.move rfl rfl ?_
    refine' TOps.orB 5 rfl rfl rfl rfl (fun hg14_4 => ?_) ?_; rotate_left
    · have hg14_4' := hg14_4
      try simp only [decide_eq_true_eq, decide_eq_false_iff_not, Bool.and_eq_true, Bool.or_eq_true, Bool.not_eq_true', Bool.and_eq_false_iff, Bool.or_eq_false_iff, Bool.not_eq_false', Int.not_lt, Int.not_le, ne_eq, Decidable.not_not] at hg14_4'
      refine TOps.strip 4 false rfl rfl hg14_4 rfl ?_
      refine TOps.move rfl rfl ?_
      refine TOps.move rfl rfl ?_
      refine TOps.sub rfl rfl (wrapI (by omega) (by omega)) rfl ?_
      refine TOps.and rfl rfl rfl rfl ?_
      refine TOps.eqlIr rfl rfl hip rfl ?_
      refine TOps.blk rfl (by repeat (first | exact Ext.refl _ | refine Ext.cons rfl ?_)) (by repeat (first | exact Le.refl _ | apply Le.drop))
    refine TOps.next ?_
    refine Tri.cond rfl (fun hc4 => ?_) (fun hc4 => ?_)
    · try simp only [decide_eq_true_eq, decide_eq_false_iff_not, Bool.and_eq_true, Bool.or_eq_true, Bool.not_eq_true', Bool.and_eq_false_iff, Bool.or_eq_false_iff, Bool.not_eq_false', Int.not_lt, Int.not_le, ne_eq, Decidable.not_not, Option.isSome_iff_ne_none, Option.isNone_iff_eq_none] at hc4
      have hps' : F.properTo (j + 1) = F.properTo j := by
        rw [hps, show F.proper1 m = false from by unfold Fm.proper1; rcases hc4 with h | h; (rw [decide_eq_false (show ¬ (m : Int) ≠ F.top from fun g => g h), Bool.false_and]); (rw [decide_eq_false (show ¬ 2 ≤ pp 24 (F.evs m) by omega), Bool.and_false])]; simp
      refine Tri.exitTo ?_
      repeat (with_reducible first | refine ExitTo.blk ?_ | refine ExitTo.blkNe rfl ?_ | refine ExitTo.body ?_ | refine ExitTo.brk rfl ?_ | refine ExitTo.bodyNe rfl rfl ?_ | refine ExitTo.seq ?_ | refine ExitTo.loop ?_)
      refine Nrm.body () trivial ⟨rfl, rfl, rfl, rfl, (by rw [hps']; rfl), rfl, trivial⟩ (by repeat (first | exact Le.refl _ | assumption | apply Le.drop))
    try simp only [decide_eq_true_eq, decide_eq_false_iff_not, Bool.and_eq_true, Bool.or_eq_true, Bool.not_eq_true', Bool.and_eq_false_iff, Bool.or_eq_false_iff, Bool.not_eq_false', Int.not_lt, Int.not_le, ne_eq, Decidable.not_not, Option.isSome_iff_ne_none, Option.isNone_iff_eq_none] at hc4
    have hpr : F.proper1 m = true := by unfold Fm.proper1; rw [decide_eq_true (show (m : Int) ≠ F.top from hc4.1), decide_eq_true (by omega)]; rfl
    have hps' : F.properTo (j + 1) = F.properTo j ++ [m] := by rw [hps, hpr]; rfl
    obtain ⟨rr, hrr⟩ := hsplit hpr
    have hpl1 : (F.properTo j).length < F.proper.length := by rw [hrr]; simp
    have hpg : F.proper[(F.properTo j).length] = m := (List.getElem_of_eq hrr hpl1).trans (by simp)
    obtain ⟨pb, rfl, -, hpv⟩ := nats_at hmr hpl1
    rw [hpg, Nat.zero_add] at hpv
    have hb0 : F.evs m ≠ 0 := pp_pos (by omega)
    generalize hKe : (F.properTo j).length = K at *
    refine Tri.fin ?_
    refine Nrm.next ?_
    refine Tri.seq ?_
    refine Tri.seq (Tri.region ?_)
    refine TOps.move rfl rfl ?_
    refine TOps.move rfl rfl ?_
    refine TOps.len rfl Try.underlying30 rfl ?_
    refine TOps.geqr (r := false) rfl rfl (decide_eq_false (by omega)) rfl ?_
    refine TOps.move rfl rfl ?_
    refine' TOps.orB 6 rfl rfl rfl rfl (fun hg15_4 => ?_) ?_; rotate_left
    · have hg15_4' := hg15_4
      try simp only [decide_eq_true_eq, decide_eq_false_iff_not, Bool.and_eq_true, Bool.or_eq_true, Bool.not_eq_true', Bool.and_eq_false_iff, Bool.or_eq_false_iff, Bool.not_eq_false', Int.not_lt, Int.not_le, ne_eq, Decidable.not_not] at hg15_4'
      refine TOps.strip 4 false rfl rfl hg15_4 rfl ?_
      refine TOps.move rfl rfl ?_
      refine TOps.move rfl rfl ?_
      refine TOps.indexAddr (off' := K) rfl rfl Try.underlying30 ti3 (by omega) (by omega) (by simp) rfl ?_
      refine TOps.load1 rfl ti3 hpv rfl ?_
      refine TOps.move rfl rfl ?_
      refine TOps.neqIr (r := false) rfl rfl (by simp) rfl ?_
      refine TOps.blk rfl (by repeat (first | exact Ext.refl _ | refine Ext.cons rfl ?_)) (by repeat (first | exact Le.refl _ | apply Le.drop))
    refine TOps.next ?_
    refine Tri.cond rfl (fun hc5 => ?_) (fun hc5 => ?_)
    · try simp only [decide_eq_true_eq, decide_eq_false_iff_not, Bool.and_eq_true, Bool.or_eq_true, Bool.not_eq_true', Bool.and_eq_false_iff, Bool.or_eq_false_iff, Bool.not_eq_false', Int.not_lt, Int.not_le, ne_eq, Decidable.not_not, Option.isSome_iff_ne_none, Option.isNone_iff_eq_none] at hc5
      have hfalse : False := by simp at hc5
      refine Tri.seq (Tri.region ?_)
      refine TOps.assign rfl rfl ?_
      refine TOps.next ?_
      exact hfalse.elim
    try simp only [decide_eq_true_eq, decide_eq_false_iff_not, Bool.and_eq_true, Bool.or_eq_true, Bool.not_eq_true', Bool.and_eq_false_iff, Bool.or_eq_false_iff, Bool.not_eq_false', Int.not_lt, Int.not_le, ne_eq, Decidable.not_not, Option.isSome_iff_ne_none, Option.isNone_iff_eq_none] at hc5
    refine Tri.fin ?_
    refine Nrm.next ?_
    refine Tri.seq (Tri.region ?_)
    refine TOps.move rfl rfl ?_
    refine TOps.add rfl rfl (wrapI (by omega) (by omega)) rfl ?_
    refine TOps.assign rfl rfl ?_
    refine TOps.next ?_
    refine Tri.seq (Tri.region ?_)
    refine TOps.assign rfl rfl ?_
    refine TOps.next ?_
    refine Tri.seq ?_
    refine Tri.block ?_
    refine Tri.loop (X := Nat) (fun x => [(2, .pointer (some ⟨b2, 0, none⟩)), (7, slV (some pb) 0 F.proper.length mcap), (9, .int .i64 ((K : Nat) + 1)), (51, slV (some lb) 0 F.find.length lcap), (11, .int .i64 (m : Nat)), (12, .int .i64 (F.evs m : Nat)), (14, .int .i64 (x : Nat)), (52, .int .i64 F.find.length), (53, .int .i64 j)]) (fun x => H3) (fun x => x < 24 ∧ ∀ i, i < x → (F.evs m).testBit i = false) (fun x => 24 - x) 0 ⟨by omega, fun i h => by omega⟩ ⟨rfl, rfl, rfl, rfl, rfl, rfl, rfl, rfl, rfl, trivial⟩ (by repeat (first | exact Le.refl _ | assumption | apply Le.drop)) (fun x hp => ?_)
    obtain ⟨p1, p2⟩ := hp
    have hbz := bit_zero (b := F.evs m) (x := x) hev (by omega)
    refine Tri.seq ?_
    refine Tri.seq (Tri.region ?_)
    refine TOps.move rfl rfl ?_
    refine TOps.move rfl rfl ?_
    refine TOps.shr (r := ishr ((F.evs m : Nat) : Int) x) rfl rfl (by omega) rfl rfl ?_
    refine TOps.and rfl rfl rfl rfl ?_
    refine TOps.eqlIr rfl rfl hbz rfl ?_
    refine TOps.next ?_
    refine Tri.cond rfl (fun hc6 => ?_) (fun hc6 => ?_)
    · try simp only [decide_eq_true_eq, decide_eq_false_iff_not, Bool.and_eq_true, Bool.or_eq_true, Bool.not_eq_true', Bool.and_eq_false_iff, Bool.or_eq_false_iff, Bool.not_eq_false', Int.not_lt, Int.not_le, ne_eq, Decidable.not_not, Option.isSome_iff_ne_none, Option.isNone_iff_eq_none] at hc6
      have p3 : ∀ i, i < x + 1 → (F.evs m).testBit i = false := by
        intro i hi
        rcases Nat.lt_succ_iff_lt_or_eq.1 hi with h | rfl
        · exact p2 i h
        · exact hc6
      have p4 : x + 1 < 24 := by
        rcases Nat.lt_or_ge (x + 1) 24 with h | h
        · exact h
        · exact absurd (bits_zero hev (fun i hi => p3 i (by omega))) hb0
      refine Tri.fin ?_
      refine Nrm.next ?_
      refine Tri.block ?_
      refine Tri.region ?_
      refine TOps.move rfl rfl ?_
      refine TOps.add rfl rfl (wrapI (by omega) (by omega)) rfl ?_
      refine TOps.assign rfl rfl ?_
      refine TOps.fin ?_
      refine Nrm.unB ?_
      refine Nrm.loop (x + 1) ⟨p4, p3⟩ (by omega) ⟨rfl, rfl, rfl, rfl, rfl, rfl, rfl, rfl, rfl, trivial⟩ (Le.refl _)
    try simp only [decide_eq_true_eq, decide_eq_false_iff_not, Bool.and_eq_true, Bool.or_eq_true, Bool.not_eq_true', Bool.and_eq_false_iff, Bool.or_eq_false_iff, Bool.not_eq_false', Int.not_lt, Int.not_le, ne_eq, Decidable.not_not, Option.isSome_iff_ne_none, Option.isNone_iff_eq_none] at hc6
    have hbit : (F.evs m).testBit x = true := by simpa using hc6
    have hxu : x < F.vars.toNat ∧ (F.under (F.vars.toNat + i)).getD x false = true := by
      unfold Fm.evs at hbit
      rw [if_neg (by omega), setOf_testBit, hxi] at hbit
      simpa using hbit
    obtain ⟨G, hG⟩ : ∃ G, G = F.plus [⟨3, 0, [F.top, (x : Int)]⟩] (F.vars + F.nodes.length) := ⟨_, rfl⟩
    obtain ⟨gg, gb, gm⟩ := law_more hg hi hbi hxu.2 hxu.1 (by omega) hG
    rw [← hxi] at gb gm
    have gv : G.vars = F.vars := by rw [hG]; rfl
    have gnl : G.nodes.length = F.nodes.length + 1 := by rw [hG]; simp [Fm.plus]
    refine Tri.exitW ?_
    refine Nrm.next ?_
    refine Tri.seq (Tri.region ?_)
    refine TOps.loadN rfl ti24 (by first | exact Rd.all (by repeat (first | exact List.Mem.head _ | apply List.Mem.tail)) | (repeat (first | assumption | apply Rd.up))) rfl rfl ?_
    refine TOps.alloc ti24 rfl (fun b15 => ?_)
    refine TOps.storeN rfl rfl ti24 rfl rfl (by repeat (first | exact Upd.here | apply Upd.there)) (by first | decide | (simp; done) | (simp; omega)) ?_
    refine TOps.le (H' := row (some b15) 24 3 1 [.int .i64 F.vars, slV na off F.nodes.length ncap nsp, .int .i64 F.top] :: H3) (Le.rowEq rfl) ?_
    refine TOps.next ?_
    refine Tri.seq ?_
    obtain ⟨qs, hqs, hys2⟩ := hN.cells
    have hcl := nsCells_length F.nodes qs hqs.1
    have hc1' := nsCells_one' F.nodes qs
    obtain ⟨CELLS, hCE⟩ : ∃ CELLS, CELLS = nsCells F.nodes qs := ⟨_, rfl⟩
    rw [← hCE] at hcl hc1' hys2
    have hll : ∀ (x' : MX) (D : List Nat), Le (on D [0] [3] [row (some x'.b0) 34 3 0 []] ++ (on D [3] [10] [row x'.a3 34 3 x'.c3 CELLS] ++ (on D [10] [] [row (some x'.a10) 34 3 x'.c10 (CELLS ++ x'.three)] ++ (on D [7] [] [row (some x'.b7) 3 1 2 [.int .i64 F.top, .int .i64 x]] ++ (on D [9] [] [row (some x'.b9) 34 3 1 x'.three] ++ (on D [] [12] [row (some b15) 24 3 1 [.int .i64 F.vars, slV na off F.nodes.length ncap nsp, .int .i64 F.top]] ++ (on D [12] [] [row (some b15) 24 3 1 [.int .i64 F.vars, slV (some x'.a10) 0 (0 + F.nodes.length + 1) x'.c10, .int .i64 F.top]] ++ H3))))))) H3 := fun x' D => Le.sub (by repeat (first | exact List.Sublist.refl _ | apply sub_on))
    obtain ⟨e, hxe⟩ : ∃ e, e = x := ⟨_, rfl⟩
    rw [← hxe] at hll hG ⊢
    refine Tri.drawM (X := MX) rfl [(2, .pointer (some ⟨b2, 0, none⟩)), (7, slV (some pb) 0 F.proper.length mcap), (9, .int .i64 ((K : Nat) + 1)), (51, slV (some lb) 0 F.find.length lcap), (11, .int .i64 (m : Nat)), (14, .int .i64 (e : Nat)), (15, .pointer (some ⟨b15, 0, none⟩)), (52, .int .i64 F.find.length), (53, .int .i64 j)] [] (fun x => [slV (some x.b0) 0 0 0, _, _, slV x.a3 0 (0 + F.nodes.length) x.c3, _, _, _, slV (some x.b7) 0 2 2, .agg (List.toArray [.int .i64 3, .int .i64 0, slV (some x.b7) 0 2 2]), slV (some x.b9) 0 1 1, slV (some x.a10) 0 (0 + F.nodes.length + 1) x.c10, _, undef]) (fun x D => on D [0] [3] [row (some x.b0) 34 3 0 []] ++ (on D [3] [10] [row x.a3 34 3 x.c3 CELLS] ++ (on D [10] [] [row (some x.a10) 34 3 x.c10 (CELLS ++ x.three)] ++ (on D [7] [] [row (some x.b7) 3 1 2 [.int .i64 F.top, .int .i64 e]] ++ (on D [9] [] [row (some x.b9) 34 3 1 x.three] ++ (on D [] [12] [row (some b15) 24 3 1 [.int .i64 F.vars, slV na off F.nodes.length ncap nsp, .int .i64 F.top]] ++ (on D [12] [] [row (some b15) 24 3 1 [.int .i64 F.vars, slV (some x.a10) 0 (0 + F.nodes.length + 1) x.c10, .int .i64 F.top]] ++ H3))))))) [0, 3, 7, 9, 10, 12] [0, 0, 2, 7, 0, 16, 0, 112, 240, 496, 1023, 2047, 4095] [[], [7], [7, 9], [0], [0, 7], [0, 7, 9], [0, 3], [0, 3, 7], [0, 3, 7, 9], [0, 3, 7, 9, 10], [0, 3, 7, 9, 10, 12]] ⟨0, none, 0, 0, 0, 0, 0⟩ [] rfl rfl (by kernel_rfl) (by kernel_rfl) ⟨rfl, rfl, rfl, rfl, rfl, rfl, rfl, rfl, rfl, trivial⟩ trivial (by repeat (first | exact Le.refl _ | assumption | apply Le.drop)) (by
      refine ⟨?_, ?_, ?_, ?_, ?_, ?_, ?_, ?_, ?_, ?_, ?_, ?_, ?_, trivial⟩
      · refine ⟨fun x S D he hw hd hD _ => ?_, trivial⟩
        replace hD := mem_of_eq (L' := [[], [7], [7, 9]]) hD (by kernel_rfl)
        simp only [List.mem_cons, List.not_mem_nil, or_false] at hD
        rcases hD with rfl | rfl | rfl
        all_goals refine TOps.buildSlice0 Try.underlying22 ti34 rfl (fun b52 => ?_)
        all_goals refine TOps.fin (Nrm.drawM {x with b0 := b52} ?_ rfl (Sp.le (by repeat (first | exact Sp.refl _ | exact Sp.sub (by assumption) | refine Sp.cons (by repeat (first | exact Pick.here | apply Pick.there)) ?_ | exact Sp.nil | apply Sp.skip))))
        all_goals (intro j hj hcj; rcases j with _|_|_|_|_|_|_|_|_|_|_|_|_|j <;> first | rfl | exact absurd rfl hj | exact absurd hcj (by decide))
      · refine ⟨fun x S D he hw hd hD _ => ?_, trivial⟩
        first | refine TOps.fieldB 1 (he _ _ rfl) Try.underlying24 rfl rfl ti22 rfl rfl rfl ?_ | refine TOps.fieldN 1 (he _ _ rfl) Try.underlying24 rfl rfl ti22 rfl rfl rfl ?_
        exact TOps.fin (Nrm.drawM x (fun _ _ _ => rfl) rfl (by first | exact Le.refl _ | assumption | exact (by repeat (first | exact Le.refl _ | assumption | apply Le.drop))))
      · refine ⟨fun x S D he hw hd hD _ => ?_, trivial⟩
        obtain ⟨h1, -⟩ := hd
        refine TOps.load1 h1 ti22 (Rd.le (by first | exact Rd.lit (by repeat (first | exact List.Mem.head _ | apply List.Mem.tail)) rfl | (repeat (first | assumption | exact Rd.fld (by assumption) 1 rfl | apply Rd.up))) (hll x D)) rfl ?_
        exact TOps.fin (Nrm.drawM x (fun _ _ _ => rfl) rfl (by first | exact Le.refl _ | assumption | exact (by repeat (first | exact Le.refl _ | assumption | apply Le.drop))))
      · refine ⟨fun x S D he hw hd hD _ => ?_, trivial⟩
        obtain ⟨h0, h2, -⟩ := hd
        replace hD := mem_of_eq (L' := [[0], [0, 7], [0, 7, 9]]) hD (by kernel_rfl)
        simp only [List.mem_cons, List.not_mem_nil, or_false] at hD
        rcases hD with rfl | rfl | rfl
        all_goals refine TOps.append (ys := CELLS) h0 h2 Try.underlying22 ti34 rfl (fun _ _ => (by repeat (first | exact Upd.here | apply Upd.there))) (RdS.le hys2 (hll x _)) hcl rfl hc1' (by omega) (by omega) rfl (fun a' c' ha' => ?_)
        all_goals refine TOps.fin (Nrm.drawM {x with a3 := a', c3 := c'} ?_ rfl (Sp.le (by repeat (first | exact Sp.refl _ | exact Sp.sub (by assumption) | refine Sp.cons (by repeat (first | exact Pick.here | apply Pick.there)) ?_ | exact Sp.nil | apply Sp.skip))))
        all_goals (intro j hj hcj; rcases j with _|_|_|_|_|_|_|_|_|_|_|_|_|j <;> first | rfl | exact absurd rfl hj | exact absurd hcj (by decide))
      · refine ⟨fun x S D he hw hd hD _ => ?_, trivial⟩
        first | refine TOps.fieldB 2 (he _ _ rfl) Try.underlying24 rfl rfl ti3 rfl rfl rfl ?_ | refine TOps.fieldN 2 (he _ _ rfl) Try.underlying24 rfl rfl ti3 rfl rfl rfl ?_
        exact TOps.fin (Nrm.drawM x (fun _ _ _ => rfl) rfl (by first | exact Le.refl _ | assumption | exact (by repeat (first | exact Le.refl _ | assumption | apply Le.drop))))
      · refine ⟨fun x S D he hw hd hD _ => ?_, trivial⟩
        obtain ⟨h4, -⟩ := hd
        refine TOps.load1 h4 ti3 (Rd.le (by first | exact Rd.lit (by repeat (first | exact List.Mem.head _ | apply List.Mem.tail)) rfl | (repeat (first | assumption | exact Rd.fld (by assumption) 2 rfl | apply Rd.up))) (hll x D)) rfl ?_
        exact TOps.fin (Nrm.drawM x (fun _ _ _ => rfl) rfl (by first | exact Le.refl _ | assumption | exact (by repeat (first | exact Le.refl _ | assumption | apply Le.drop))))
      · refine ⟨fun x S D he hw hd hD _ => ?_, trivial⟩
        refine TOps.move (he _ _ rfl) rfl ?_
        exact TOps.fin (Nrm.drawM x (fun _ _ _ => rfl) rfl (by first | exact Le.refl _ | assumption | exact (by repeat (first | exact Le.refl _ | assumption | apply Le.drop))))
      · refine ⟨fun x S D he hw hd hD _ => ?_, trivial⟩
        obtain ⟨h5, h6, -⟩ := hd
        replace hD := mem_of_eq (L' := [[], [0], [0, 3]]) hD (by kernel_rfl)
        simp only [List.mem_cons, List.not_mem_nil, or_false] at hD
        rcases hD with rfl | rfl | rfl
        all_goals refine TOps.buildSlice (vs := [_, _]) (xs := [_, _]) Try.underlying30 ti3 ⟨rfl, h5, rfl, h6, trivial⟩ rfl rfl rfl rfl rfl rfl (by decide) rfl (fun b58 => ?_)
        all_goals refine TOps.fin (Nrm.drawM {x with b7 := b58} ?_ rfl (Sp.le (by repeat (first | exact Sp.refl _ | exact Sp.sub (by assumption) | refine Sp.cons (by repeat (first | exact Pick.here | apply Pick.there)) ?_ | exact Sp.nil | apply Sp.skip))))
        all_goals (intro j hj hcj; rcases j with _|_|_|_|_|_|_|_|_|_|_|_|_|j <;> first | rfl | exact absurd rfl hj | exact absurd hcj (by decide))
      · refine ⟨fun x S D he hw hd hD _ => ?_, trivial⟩
        obtain ⟨h7, -⟩ := hd
        refine TOps.buildStruct (vs := [(0, _), (2, _)]) (xs := [_, _, _]) [(0, 1), (1, 1), (2, 1)] Try.underlying34 ti34 (fun w => by simp) ⟨rfl, rfl, rfl, h7, trivial⟩ rfl rfl ?_
        exact TOps.fin (Nrm.drawM x (fun _ _ _ => rfl) rfl (by first | exact Le.refl _ | assumption | exact (by repeat (first | exact Le.refl _ | assumption | apply Le.drop))))
      · refine ⟨fun x S D he hw hd hD _ => ?_, trivial⟩
        obtain ⟨h8, -⟩ := hd
        replace hD := mem_of_eq (L' := [[7], [0, 7], [0, 3, 7]]) hD (by kernel_rfl)
        simp only [List.mem_cons, List.not_mem_nil, or_false] at hD
        rcases hD with rfl | rfl | rfl
        all_goals refine TOps.buildSlice (vs := [_]) (xs := [_, _, _]) Try.underlying22 ti34 ⟨rfl, h8, trivial⟩ rfl rfl rfl rfl rfl rfl (by decide) rfl (fun b61 => ?_)
        all_goals refine TOps.fin (Nrm.drawM {x with b9 := b61} ?_ rfl (Sp.le (by repeat (first | exact Sp.refl _ | exact Sp.sub (by assumption) | refine Sp.cons (by repeat (first | exact Pick.here | apply Pick.there)) ?_ | exact Sp.nil | apply Sp.skip))))
        all_goals (intro j hj hcj; rcases j with _|_|_|_|_|_|_|_|_|_|_|_|_|j <;> first | rfl | exact absurd rfl hj | exact absurd hcj (by decide))
      · refine ⟨fun x S D he hw hd hD _ => ?_, trivial⟩
        obtain ⟨h3, h9, _, -⟩ := hd
        replace hD := mem_of_eq (L' := [[0, 3, 7, 9]]) hD (by kernel_rfl)
        simp only [List.mem_cons, List.not_mem_nil, or_false] at hD
        rcases hD with rfl
        all_goals refine TOps.append (ys := x.three) h3 h9 Try.underlying22 ti34 rfl (fun _ _ => (by repeat (first | exact Upd.here | apply Upd.there))) (RdS.ofRowS (by repeat (first | exact List.Mem.head _ | apply List.Mem.tail))) rfl (by rw [hcl]; omega) (by intro u hu; simp at hu; rcases hu with rfl | rfl | rfl <;> rfl) (by omega) (by omega) rfl (fun a' c' ha' => ?_)
        all_goals obtain ⟨b', rfl⟩ := ha' (by simp)
        all_goals refine TOps.fin (Nrm.drawM {x with a10 := b', c10 := c'} ?_ rfl (Sp.le (by repeat (first | exact Sp.refl _ | exact Sp.sub (by assumption) | refine Sp.cons (by repeat (first | exact Pick.here | apply Pick.there)) ?_ | exact Sp.nil | apply Sp.skip))))
        all_goals (intro j hj hcj; rcases j with _|_|_|_|_|_|_|_|_|_|_|_|_|j <;> first | rfl | exact absurd rfl hj | exact absurd hcj (by decide))
      · refine ⟨fun x S D he hw hd hD _ => ?_, trivial⟩
        obtain ⟨h0, h1, h2, h3, h4, h5, h6, h7, h8, h9, h10, -⟩ := hd
        first | refine TOps.fieldB 1 (he _ _ rfl) Try.underlying24 rfl rfl ti22 rfl rfl rfl ?_ | refine TOps.fieldN 1 (he _ _ rfl) Try.underlying24 rfl rfl ti22 rfl rfl rfl ?_
        exact TOps.fin (Nrm.drawM x (fun _ _ _ => rfl) rfl (by first | exact Le.refl _ | assumption | exact (by repeat (first | exact Le.refl _ | assumption | apply Le.drop))))
      · refine ⟨fun x S D he hw hd hD _ => ?_, trivial⟩
        obtain ⟨h11, h10, _, h0, h1, h2, h3, h4, h5, h6, h7, h8, h9, _, -⟩ := hd
        replace hD := mem_of_eq (L' := [[0, 3, 7, 9, 10]]) hD (by kernel_rfl)
        simp only [List.mem_cons, List.not_mem_nil, or_false] at hD
        rcases hD with rfl
        all_goals refine TOps.store1 h11 h10 ti22 rfl rfl (by repeat (first | exact Upd.here | apply Upd.there)) (by simp) ?_
        all_goals exact TOps.fin (Nrm.drawM x (fun _ _ _ => rfl) rfl (Sp.le (by repeat (first | exact Sp.refl _ | exact Sp.sub (by assumption) | refine Sp.cons (by repeat (first | exact Pick.here | apply Pick.there)) ?_ | exact Sp.nil | apply Sp.skip))))
      ) (fun z2 => ?_)
    obtain ⟨H5, hH5⟩ : ∃ H5, H5 = row (some z2.a10) 34 3 z2.c10 (CELLS ++ z2.three) :: row (some z2.b7) 3 1 2 [.int .i64 F.top, .int .i64 e] :: H3 := ⟨_, rfl⟩
    refine Nrm.le (H' := row (some b15) 24 3 1 [.int .i64 F.vars, slV (some z2.a10) 0 (0 + F.nodes.length + 1) z2.c10, .int .i64 F.top] :: H5) (by subst hH5; exact (Sp.le (by repeat (first | exact Sp.refl _ | exact Sp.sub (by assumption) | refine Sp.cons (by repeat (first | exact Pick.here | apply Pick.there)) ?_ | exact Sp.nil | apply Sp.skip)))) ?_
    have l5 : Le H5 H3 := by rw [hH5]; exact Le.drop (Le.drop (Le.refl _))
    have hA : ArgsIn H5 (F.nodes ++ [⟨3, 0, [F.top, (e : Int)]⟩]) (qs ++ [(some z2.b7, 0, 2, none)]) := (hqs.le l5).snoc (by rw [hH5]; exact RInts.ofRow (xs := [F.top, (e : Int)]) (by repeat (first | exact List.Mem.head _ | apply List.Mem.tail)))
    have hRN : RNodes H5 (some z2.a10) 0 (F.nodes ++ [⟨3, 0, [F.top, (e : Int)]⟩]) := RNodes.ofA (E := 34) (sz := 3) (cap := z2.c10) (by rw [hH5, nsCells_snoc _ _ _ _ hqs.1, ← hCE]; exact List.Mem.head _) hA (fun _ => ⟨_, rfl⟩)
    have hRF : ∀ (e : Ent), RF (e :: H5) (.agg (List.toArray [.int .i64 F.vars, slV (some z2.a10) 0 (F.nodes.length + 1) z2.c10, .int .i64 (F.vars + F.nodes.length)])) G := fun e => ⟨some z2.a10, 0, z2.c10, none, by rw [hG]; simp [Fm.plus], (by rw [hG]; exact hRN.le (Le.drop (Le.refl _)))⟩
    have r1' := r1.le l5
    clear hH5 hll hRN hA
    rw [show 0 + F.nodes.length + 1 = F.nodes.length + 1 by omega]
    generalize z2.a10 = na2 at *
    generalize z2.c10 = nc2 at *
    refine Nrm.next ?_
    refine Tri.seq (Tri.region ?_)
    refine TOps.field0 rfl Try.underlying24 rfl rfl ti3 rfl rfl rfl ?_
    refine TOps.load1 rfl ti3 (by first | exact Rd.lit (by repeat (first | exact List.Mem.head _ | apply List.Mem.tail)) rfl | (repeat (first | assumption | exact Rd.fld (by assumption) 0 rfl | apply Rd.up))) rfl ?_
    first | refine TOps.fieldB 1 rfl Try.underlying24 rfl rfl ti22 rfl rfl rfl ?_ | refine TOps.fieldN 1 rfl Try.underlying24 rfl rfl ti22 rfl rfl rfl ?_
    refine TOps.load1 rfl ti22 (by first | exact Rd.lit (by repeat (first | exact List.Mem.head _ | apply List.Mem.tail)) rfl | (repeat (first | assumption | exact Rd.fld (by assumption) 1 rfl | apply Rd.up))) rfl ?_
    refine TOps.len rfl Try.underlying22 rfl ?_
    refine TOps.add (r := F.vars + F.nodes.length + 1) rfl rfl (by rw [wrapI (by omega) (by omega)]; omega) rfl ?_
    refine TOps.sub (r := F.vars + F.nodes.length) rfl rfl (by rw [wrapI (by omega) (by omega)]; omega) rfl ?_
    first | refine TOps.fieldB 2 rfl Try.underlying24 rfl rfl ti3 rfl rfl rfl ?_ | refine TOps.fieldN 2 rfl Try.underlying24 rfl rfl ti3 rfl rfl rfl ?_
    refine TOps.store1 rfl rfl ti3 rfl rfl (by repeat (first | exact Upd.here | apply Upd.there)) (by first | decide | (simp; done) | (simp; omega) | exact (show (2 : Nat) < 3 by decide)) ?_
    refine TOps.next ?_
    refine Tri.seq (Tri.region ?_)
    refine TOps.loadN rfl ti24 (by first | exact Rd.all (by repeat (first | exact List.Mem.head _ | apply List.Mem.tail)) | (repeat (first | assumption | apply Rd.up))) rfl rfl ?_
    refine TOps.move rfl rfl ?_
    refine TOps.call (vs := [_, _]) Try.call14 ⟨rfl, rfl, trivial⟩ (mis_g (hRF _) gg.ok (m : Int) ⟨by omega, by omega⟩) rfl ?_
    rintro _ _ ⟨rfl, rfl⟩
    rw [(Fm.good_iff G).2 gg, gv, gnl, Int.toNat_natCast, gb, gm, show decide (F.vars ≤ (m : Int)) = true from decide_eq_true (by omega), show decide ((m : Int) < F.vars + ((F.nodes.length + 1 : Nat) : Int)) = true from decide_eq_true (by omega)]
    refine TOps.move rfl rfl ?_
    refine TOps.extract rfl rfl rfl ?_
    refine TOps.extract rfl rfl rfl ?_
    refine TOps.assign rfl rfl ?_
    refine TOps.assign rfl rfl ?_
    refine TOps.next ?_
    refine Tri.seq (Tri.region ?_)
    refine TOps.move rfl rfl ?_
    refine TOps.neqNil (T := 43) (o := none) rfl Try.underlying28 rfl ?_
    refine TOps.move rfl rfl ?_
    refine' TOps.orB 1 rfl rfl rfl rfl (fun hg25_2 => ?_) ?_; rotate_left
    · have hg25_2' := hg25_2
      try simp only [decide_eq_true_eq, decide_eq_false_iff_not, Bool.and_eq_true, Bool.or_eq_true, Bool.not_eq_true', Bool.and_eq_false_iff, Bool.or_eq_false_iff, Bool.not_eq_false', Int.not_lt, Int.not_le, ne_eq, Decidable.not_not] at hg25_2'
      refine TOps.strip 2 false rfl rfl hg25_2 rfl ?_
      refine TOps.move rfl rfl ?_
      refine TOps.blk rfl (by repeat (first | exact Ext.refl _ | refine Ext.cons rfl ?_)) (by repeat (first | exact Le.refl _ | apply Le.drop))
    refine TOps.next ?_
    refine Tri.cond rfl (fun hc7 => ?_) (fun hc7 => ?_)
    · try simp only [decide_eq_true_eq, decide_eq_false_iff_not, Bool.and_eq_true, Bool.or_eq_true, Bool.not_eq_true', Bool.and_eq_false_iff, Bool.or_eq_false_iff, Bool.not_eq_false', Int.not_lt, Int.not_le, ne_eq, Decidable.not_not, Option.isSome_iff_ne_none, Option.isNone_iff_eq_none] at hc7
      have hfalse : False := by simp at hc7
      refine Tri.seq (Tri.region ?_)
      refine TOps.assign rfl rfl ?_
      refine TOps.next ?_
      exact hfalse.elim
    try simp only [decide_eq_true_eq, decide_eq_false_iff_not, Bool.and_eq_true, Bool.or_eq_true, Bool.not_eq_true', Bool.and_eq_false_iff, Bool.or_eq_false_iff, Bool.not_eq_false', Int.not_lt, Int.not_le, ne_eq, Decidable.not_not, Option.isSome_iff_ne_none, Option.isNone_iff_eq_none] at hc7
    refine Tri.fin ?_
    refine Nrm.body () trivial ⟨rfl, rfl, rfl, rfl, (by rw [hps', List.length_append, hKe]; rfl), rfl, trivial⟩ (by repeat (first | exact Le.refl _ | assumption | apply Le.drop))
  have hpa := F.properTo_all
  rw [hpa] at hS
  refine Nrm.of hS hM ?_
  refine Nrm.next ?_
  refine Tri.seq (Tri.region ?_)
  refine TOps.move rfl rfl ?_
  refine TOps.move rfl rfl ?_
  refine TOps.len rfl Try.underlying30 rfl ?_
  refine TOps.eqlI rfl rfl rfl ?_
  refine TOps.assign rfl rfl ?_
  refine TOps.next ?_
  refine Tri.ret1 (H' := H) Try.results8 (fun _ _ h => h) (.tmp rfl) l3 ⟨by simp, rfl⟩
end Go.Proofs
