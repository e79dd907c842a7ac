import Derived.Test.YtbpjjepiblomaaaB29
import Derived.Test.YtbpjjepiblomaaaNU
namespace Go.Proofs
open Go.GL
set_option linter.unusedVariables false
set_option linter.unusedSimpArgs false
theorem mis_g {H : List Ent} {fv : Value} {F : Fm} (hF : RF H fv F) (hk : F.ok) (arg : Int) (ha : I64 arg) :
    Gives Try.prog 34 [fv, .int .i64 arg] H (R1 (.tuple (List.toArray [.bool (F.err.isNone && (decide (F.vars ≤ arg) && decide (arg < F.vars + F.nodes.length) && F.below.getD arg.toNat false) && F.isMod arg.toNat), errV 45 (match F.err with | some e => some e | none => bif (decide (F.vars ≤ arg) && decide (arg < F.vars + F.nodes.length) && F.below.getD arg.toNat false) then none else some 10)])) H) := by
  have hF0 := hF
  obtain ⟨na, off, ncap, nsp, rfl, hN⟩ := hF
  unfold I64 at ha
  refine Gives.enter Try.func34 rfl (by exact Try.ntmps34) rfl ?_
  refine Tri.seq (Tri.region ?_)
  refine TOps.boxN rfl ti24 rfl rfl (fun b2 => ?_)
  refine TOps.hide (fun H1 l1 s1 r1 => ?_)
  replace hF0 := hF0.le l1
  refine TOps.assign rfl rfl ?_
  refine TOps.assign rfl rfl ?_
  refine TOps.next ?_
  refine Tri.seq ?_
  refine Tri.seq (Tri.region ?_)
  refine TOps.loadN rfl ti24 (by first | exact Rd.all (by repeat (first | exact List.Mem.head _ | apply List.Mem.tail)) | (repeat (first | assumption | apply Rd.up))) rfl rfl ?_
  refine TOps.call (vs := [_]) Try.call22 ⟨rfl, trivial⟩ (check_g hF0 hk) rfl ?_
  rintro _ _ ⟨rfl, rfl⟩
  refine TOps.assign rfl rfl ?_
  refine TOps.next ?_
  refine Tri.seq (Tri.region ?_)
  refine TOps.move rfl rfl ?_
  refine TOps.neqNil rfl Try.underlying28 rfl ?_
  refine TOps.next ?_
  refine Tri.cond rfl (fun hc1 => ?_) (fun hc1 => ?_)
  · try simp only [decide_eq_true_eq, decide_eq_false_iff_not, Bool.and_eq_true, Bool.or_eq_true, Bool.not_eq_true', Bool.and_eq_false_iff, Bool.or_eq_false_iff, Bool.not_eq_false', Int.not_lt, Int.not_le, ne_eq, Decidable.not_not, Option.isSome_iff_ne_none, Option.isNone_iff_eq_none] at hc1
    obtain ⟨e, he⟩ := Option.ne_none_iff_exists'.1 hc1
    refine Tri.seq (Tri.region ?_)
    refine TOps.move rfl rfl ?_
    refine TOps.assign rfl rfl ?_
    refine TOps.assign rfl rfl ?_
    refine TOps.next ?_
    refine Tri.ret2 (H' := H) Try.results34 (fun _ _ h => h) (.tmp rfl) (.tmp rfl) l1 ⟨by rw [he]; rfl, rfl⟩
  try simp only [decide_eq_true_eq, decide_eq_false_iff_not, Bool.and_eq_true, Bool.or_eq_true, Bool.not_eq_true', Bool.and_eq_false_iff, Bool.or_eq_false_iff, Bool.not_eq_false', Int.not_lt, Int.not_le, ne_eq, Decidable.not_not, Option.isSome_iff_ne_none, Option.isNone_iff_eq_none] at hc1
  have he : F.err = none := by simpa using hc1
  have hg := (Fm.good_iff F).1 he
  have g0 := hg.v0; have g1 := hg.v1; have g2 := hg.n1
  have hbl := F.below_length
  refine Tri.fin ?_
  refine Nrm.next ?_
  refine Tri.seq (Tri.region ?_)
  refine TOps.loadN rfl ti24 (by first | exact Rd.all (by repeat (first | exact List.Mem.head _ | apply List.Mem.tail)) | (repeat (first | assumption | apply Rd.up))) rfl rfl ?_
  refine TOps.call (vs := [_]) Try.call49 ⟨rfl, trivial⟩ (needed_g hF0 hg) rfl ?_
  rintro _ _ ⟨b, cp, rfl, rfl⟩
  refine TOps.hide (fun H2 l2 s2 ru => ?_)
  replace hF0 := hF0.le l2; replace r1 := r1.le l2; have l3 := l2.trans l1
  refine TOps.assign rfl rfl ?_
  refine TOps.next ?_
  refine Tri.seq ?_
  refine Tri.seq (Tri.region ?_)
  refine TOps.move rfl rfl ?_
  refine TOps.field0 rfl Try.underlying24 rfl rfl ti3 rfl rfl rfl ?_
  refine TOps.load1 rfl ti3 (by first | exact Rd.lit (by repeat (first | exact List.Mem.head _ | apply List.Mem.tail)) rfl | (repeat (first | assumption | exact Rd.fld (by assumption) 0 rfl | apply Rd.up))) rfl ?_
  refine TOps.lss rfl rfl rfl ?_
  refine TOps.move rfl rfl ?_
  refine' TOps.orB 4 rfl rfl rfl rfl (fun hg5_4 => ?_) ?_; rotate_left
  · have hg5_4' := hg5_4
    try simp only [decide_eq_true_eq, decide_eq_false_iff_not, Bool.and_eq_true, Bool.or_eq_true, Bool.not_eq_true', Bool.and_eq_false_iff, Bool.or_eq_false_iff, Bool.not_eq_false', Int.not_lt, Int.not_le, ne_eq, Decidable.not_not] at hg5_4'
    refine TOps.strip 4 false rfl rfl hg5_4 rfl ?_
    refine TOps.move rfl rfl ?_
    refine TOps.move rfl rfl ?_
    refine TOps.len rfl Try.underlying68 rfl ?_
    refine TOps.geq rfl rfl rfl ?_
    refine TOps.blk rfl (by repeat (first | exact Ext.refl _ | refine Ext.cons rfl ?_)) (by repeat (first | exact Le.refl _ | apply Le.drop))
  refine TOps.move rfl rfl ?_
  refine' TOps.orB 5 rfl rfl rfl rfl (fun hg5_10 => ?_) ?_; rotate_left
  · have hg5_10' := hg5_10
    try simp only [decide_eq_true_eq, decide_eq_false_iff_not, Bool.and_eq_true, Bool.or_eq_true, Bool.not_eq_true', Bool.and_eq_false_iff, Bool.or_eq_false_iff, Bool.not_eq_false', Int.not_lt, Int.not_le, ne_eq, Decidable.not_not] at hg5_10'
    refine TOps.strip 10 false rfl rfl hg5_10 rfl ?_
    refine TOps.move rfl rfl ?_
    refine TOps.move rfl rfl ?_
    refine TOps.indexAddr (off' := arg.toNat) rfl rfl Try.underlying68 ti4 (by omega) (by omega) (by simp) rfl ?_
    refine TOps.load1 (v := .bool (F.below.getD arg.toNat false)) rfl ti4 (by have := ru.part arg.toNat (bools_get (by omega)); rwa [Nat.zero_add] at this) rfl ?_
    refine TOps.not rfl rfl ?_
    refine TOps.blk rfl (by repeat (first | exact Ext.refl _ | refine Ext.cons rfl ?_)) (by repeat (first | exact Le.refl _ | apply Le.drop))
  refine TOps.next ?_
  refine Tri.cond rfl (fun hc2 => ?_) (fun hc2 => ?_)
  · try simp only [decide_eq_true_eq, decide_eq_false_iff_not, Bool.and_eq_true, Bool.or_eq_true, Bool.not_eq_true', Bool.and_eq_false_iff, Bool.or_eq_false_iff, Bool.not_eq_false', Int.not_lt, Int.not_le, ne_eq, Decidable.not_not, Option.isSome_iff_ne_none, Option.isNone_iff_eq_none] at hc2
    have hno : (decide (F.vars ≤ arg) && decide (arg < F.vars + F.nodes.length) && F.below.getD arg.toNat false) = false := by
      rcases hc2 with (h | h) | h
      · rw [decide_eq_false (by omega)]; rfl
      · rw [decide_eq_false (show ¬ (arg < F.vars + F.nodes.length) by omega)]; simp
      · rw [h, Bool.and_false]
    refine Tri.seq (Tri.region ?_)
    refine TOps.makeInterface rfl Try.underlying45 rfl rfl ?_
    refine TOps.assign rfl rfl ?_
    refine TOps.assign rfl rfl ?_
    refine TOps.next ?_
    refine Tri.ret2 (H' := H) Try.results34 (fun _ _ h => h) (.tmp rfl) (.tmp rfl) l3 ⟨by rw [he, hno]; simp only [Bool.and_false, Bool.false_and]; rfl, rfl⟩
  try simp only [decide_eq_true_eq, decide_eq_false_iff_not, Bool.and_eq_true, Bool.or_eq_true, Bool.not_eq_true', Bool.and_eq_false_iff, Bool.or_eq_false_iff, Bool.not_eq_false', Int.not_lt, Int.not_le, ne_eq, Decidable.not_not, Option.isSome_iff_ne_none, Option.isNone_iff_eq_none] at hc2
  have hyes : (decide (F.vars ≤ arg) && decide (arg < F.vars + F.nodes.length) && F.below.getD arg.toNat false) = true := by
    rw [decide_eq_true (by omega), decide_eq_true (by omega), hc2.2]; rfl
  obtain ⟨t, ht⟩ : ∃ t : Nat, arg = ((F.vars.toNat + t : Nat) : Int) := ⟨(arg - F.vars).toNat, by omega⟩
  subst ht
  refine Tri.fin ?_
  refine Nrm.next ?_
  refine Tri.seq (Tri.region ?_)
  refine TOps.loadN rfl ti24 (by first | exact Rd.all (by repeat (first | exact List.Mem.head _ | apply List.Mem.tail)) | (repeat (first | assumption | apply Rd.up))) rfl rfl ?_
  refine TOps.move rfl rfl ?_
  refine TOps.move rfl rfl ?_
  refine TOps.call (vs := [_, _, _]) Try.call50 ⟨rfl, rfl, rfl, trivial⟩ (module_g hF0 hg ru t (by omega) rfl) rfl ?_
  rintro _ _ ⟨rfl, rfl⟩
  refine TOps.assign rfl rfl ?_
  refine TOps.assign rfl rfl ?_
  refine TOps.next ?_
  refine Tri.ret2 (H' := H) Try.results34 (fun _ _ h => h) (.tmp rfl) (.tmp rfl) l3 ⟨by rw [he, hyes]; rfl, rfl⟩
theorem runder_g {H : List Ent} {fv : Value} {F : Fm} (hF : RF H fv F) (hg : F.Good) (arg : Nat) (ha : arg < F.vars.toNat + F.nodes.length) :
    Gives Try.prog 42 [fv, .int .i64 arg] H (fun u H' => ∃ b cap, u = slV (some b) 0 (F.vars.toNat + F.nodes.length) cap ∧ row (some b) 4 1 cap (bools (F.under arg)) :: H = H') := by
  obtain ⟨na, noff, ncap, nsp, rfl, hN⟩ := hF
  have g0 := hg.v0; have g1 := hg.v1; have g2 := hg.n1; have gt := hg.topLt
  obtain ⟨v, hv⟩ := Int.eq_ofNat_of_zero_le g0
  have hvn : F.vars.toNat = v := by omega
  rw [hvn] at ha ⊢
  rw [hv]
  obtain ⟨U, hU⟩ : ∃ U, U = F.under arg := ⟨_, rfl⟩
  rw [← hU]
  refine Gives.enter Try.func42 rfl (by exact Try.ntmps42) rfl ?_
  refine Tri.seq (Tri.region ?_)
  refine TOps.boxN rfl ti24 rfl rfl (fun b2 => ?_)
  refine TOps.hide (fun H1 l1 s1 r1 => ?_)
  replace hN := hN.le l1
  refine TOps.assign rfl rfl ?_
  refine TOps.next ?_
  refine Tri.seq (Tri.region ?_)
  refine TOps.field0 rfl Try.underlying24 rfl rfl ti3 rfl rfl rfl ?_
  refine TOps.load1 rfl ti3 (by first | exact Rd.lit (by repeat (first | exact List.Mem.head _ | apply List.Mem.tail)) rfl | (repeat (first | assumption | exact Rd.fld (by assumption) 0 rfl | apply Rd.up))) rfl ?_
  first | refine TOps.fieldB 1 rfl Try.underlying24 rfl rfl ti22 rfl rfl rfl ?_ | refine TOps.fieldN 1 rfl Try.underlying24 rfl rfl ti22 rfl rfl rfl ?_
  refine TOps.load1 rfl ti22 (by first | exact Rd.lit (by repeat (first | exact List.Mem.head _ | apply List.Mem.tail)) rfl | (repeat (first | assumption | exact Rd.fld (by assumption) 1 rfl | apply Rd.up))) rfl ?_
  refine TOps.len rfl Try.underlying22 rfl ?_
  refine TOps.add (r := ((v + F.nodes.length : Nat) : Int)) rfl rfl (by rw [wrapI (by omega) (by omega)]; omega) rfl ?_
  refine TOps.make1 rfl rfl Try.underlying68 ti4 (by omega) (by omega) (by omega) rfl (fun b15 => ?_)
  refine TOps.assign rfl rfl ?_
  refine TOps.next ?_
  refine Tri.seq ?_
  refine Tri.seq (Tri.region ?_)
  refine TOps.move rfl rfl ?_
  refine TOps.field0 rfl Try.underlying24 rfl rfl ti3 rfl rfl rfl ?_
  refine TOps.load1 rfl ti3 (by first | exact Rd.lit (by repeat (first | exact List.Mem.head _ | apply List.Mem.tail)) rfl | (repeat (first | assumption | exact Rd.fld (by assumption) 0 rfl | apply Rd.up))) rfl ?_
  refine TOps.lss rfl rfl rfl ?_
  refine TOps.next ?_
  refine Tri.cond rfl (fun hc1 => ?_) (fun hc1 => ?_)
  · try simp only [decide_eq_true_eq, decide_eq_false_iff_not, Bool.and_eq_true, Bool.or_eq_true, Bool.not_eq_true', Bool.and_eq_false_iff, Bool.or_eq_false_iff, Bool.not_eq_false', Int.not_lt, Int.not_le, ne_eq, Decidable.not_not, Option.isSome_iff_ne_none, Option.isNone_iff_eq_none] at hc1
    refine Tri.seq (Tri.region ?_)
    refine TOps.move rfl rfl ?_
    refine TOps.assign rfl rfl ?_
    refine TOps.next ?_
    have hU' : List.replicate (v + F.nodes.length) (Value.bool false) = bools U := by rw [hU]; unfold Fm.under; rw [hvn, if_pos (by omega)]; simp
    refine Tri.ret1 (H' := _) Try.results42 (fun _ _ h => h) (.tmp rfl) (Le.trans (Le.consOf s1) (Le.rowEq hU')) ⟨b15, v + F.nodes.length, rfl, rfl⟩
  try simp only [decide_eq_true_eq, decide_eq_false_iff_not, Bool.and_eq_true, Bool.or_eq_true, Bool.not_eq_true', Bool.and_eq_false_iff, Bool.or_eq_false_iff, Bool.not_eq_false', Int.not_lt, Int.not_le, ne_eq, Decidable.not_not, Option.isSome_iff_ne_none, Option.isNone_iff_eq_none] at hc1
  obtain ⟨t, rfl⟩ : ∃ t, arg = v + t := ⟨arg - v, by omega⟩
  have htn : t < F.nodes.length := by omega
  have hres : belowL v F.nodes t (markArgs (List.replicate (v + F.nodes.length) false) (F.nodes.getD t ⟨0, 0, []⟩).args) = U := by rw [hU]; unfold Fm.under; rw [hvn, if_neg (by omega), Nat.add_sub_cancel_left]
  refine Tri.fin ?_
  refine Nrm.next ?_
  refine Tri.seq ?_
  refine Tri.seq (Tri.region ?_)
  first | refine TOps.fieldB 1 rfl Try.underlying24 rfl rfl ti22 rfl rfl rfl ?_ | refine TOps.fieldN 1 rfl Try.underlying24 rfl rfl ti22 rfl rfl rfl ?_
  refine TOps.load1 rfl ti22 (by first | exact Rd.lit (by repeat (first | exact List.Mem.head _ | apply List.Mem.tail)) rfl | (repeat (first | assumption | exact Rd.fld (by assumption) 1 rfl | apply Rd.up))) rfl ?_
  refine TOps.len rfl Try.underlying22 rfl ?_
  refine TOps.sub rfl rfl (wrapI (by omega) (by omega)) rfl ?_
  refine TOps.assign rfl rfl ?_
  refine TOps.next ?_
  refine Tri.block ?_
  refine Tri.loop (X := Nat × List Bool) (fun x => [(1, .int .i64 ((v + t : Nat) : Int)), (2, .pointer (some ⟨b2, 0, none⟩)), (5, slV (some b15) 0 (v + F.nodes.length) (v + F.nodes.length)), (6, .int .i64 ((x.1 : Int) - 1))]) (fun x => row (some b15) 4 1 (v + F.nodes.length) (bools x.2) :: H1) (fun x => x.1 ≤ F.nodes.length ∧ x.2.length = v + F.nodes.length ∧ (t < x.1 → x.2 = List.replicate (v + F.nodes.length) false) ∧ (x.1 ≤ t → belowL v F.nodes x.1 x.2 = U)) (fun x => x.1) (F.nodes.length, List.replicate (v + F.nodes.length) false) ⟨Nat.le_refl _, by simp, fun _ => rfl, fun h => absurd h (by simp only; omega)⟩ ⟨rfl, rfl, rfl, rfl, trivial⟩ (Le.rowEq (by simp)) (fun x hp => ?_)
  obtain ⟨i, m⟩ := x
  obtain ⟨hp1, hp2, hp3, hp4⟩ := hp
  dsimp only at hp1 hp2 hp3 hp4 ⊢
  refine Tri.seq ?_
  refine Tri.seq (Tri.region ?_)
  refine TOps.move rfl rfl ?_
  refine TOps.geq rfl rfl rfl ?_
  refine TOps.next ?_
  refine Tri.cond rfl (fun hc2 => ?_) (fun hc2 => ?_)
  · try simp only [decide_eq_true_eq, decide_eq_false_iff_not, Bool.and_eq_true, Bool.or_eq_true, Bool.not_eq_true', Bool.and_eq_false_iff, Bool.or_eq_false_iff, Bool.not_eq_false', Int.not_lt, Int.not_le, ne_eq, Decidable.not_not, Option.isSome_iff_ne_none, Option.isNone_iff_eq_none] at hc2
    obtain ⟨i, rfl⟩ : ∃ j, i = j + 1 := ⟨i - 1, by omega⟩
    have hi : i < F.nodes.length := by omega
    have e1 : ((i + 1 : Nat) : Int) - 1 = i := by omega
    refine Tri.fin ?_
    refine Nrm.next ?_
    refine Tri.seq ?_
    refine Tri.block ?_
    refine Tri.seq (Tri.region ?_)
    refine TOps.field0 rfl Try.underlying24 rfl rfl ti3 rfl rfl rfl ?_
    refine TOps.load1 rfl ti3 (by first | exact Rd.lit (by repeat (first | exact List.Mem.head _ | apply List.Mem.tail)) rfl | (repeat (first | assumption | exact Rd.fld (by assumption) 0 rfl | apply Rd.up))) rfl ?_
    refine TOps.move rfl rfl ?_
    refine TOps.add (r := ((v + i : Nat) : Int)) rfl rfl (by rw [wrapI (by omega) (by omega)]; omega) rfl ?_
    refine TOps.move rfl rfl ?_
    refine TOps.eqlI rfl rfl rfl ?_
    refine TOps.move rfl rfl ?_
    refine' TOps.orB 7 rfl rfl rfl rfl (fun hg7_6 => ?_) ?_; rotate_left
    · have hg7_6' := hg7_6
      try simp only [decide_eq_true_eq, decide_eq_false_iff_not, Bool.and_eq_true, Bool.or_eq_true, Bool.not_eq_true', Bool.and_eq_false_iff, Bool.or_eq_false_iff, Bool.not_eq_false', Int.not_lt, Int.not_le, ne_eq, Decidable.not_not] at hg7_6'
      refine TOps.strip 6 false rfl rfl hg7_6 rfl ?_
      refine TOps.move rfl rfl ?_
      refine TOps.field0 rfl Try.underlying24 rfl rfl ti3 rfl rfl rfl ?_
      refine TOps.load1 rfl ti3 (by first | exact Rd.lit (by repeat (first | exact List.Mem.head _ | apply List.Mem.tail)) rfl | (repeat (first | assumption | exact Rd.fld (by assumption) 0 rfl | apply Rd.up))) rfl ?_
      refine TOps.move rfl rfl ?_
      refine TOps.add (r := ((v + i : Nat) : Int)) rfl rfl (by rw [wrapI (by omega) (by omega)]; omega) rfl ?_
      refine TOps.indexAddr (off' := v + i) rfl rfl Try.underlying68 ti4 (by omega) (by omega) (by omega) rfl ?_
      refine TOps.load1 (v := .bool (m.getD (v + i) false)) rfl ti4 (Rd.lit (List.Mem.head _) (bools_get (by omega))) rfl ?_
      refine TOps.blk rfl (by repeat (first | exact Ext.refl _ | refine Ext.cons rfl ?_)) (by repeat (first | exact Le.refl _ | apply Le.drop))
    refine TOps.next ?_
    refine Tri.cond rfl (fun hc3 => ?_) (fun hc3 => ?_)
    · try simp only [decide_eq_true_eq, decide_eq_false_iff_not, Bool.and_eq_true, Bool.or_eq_true, Bool.not_eq_true', Bool.and_eq_false_iff, Bool.or_eq_false_iff, Bool.not_eq_false', Int.not_lt, Int.not_le, ne_eq, Decidable.not_not, Option.isSome_iff_ne_none, Option.isNone_iff_eq_none] at hc3
      have hcb : (decide (i = t) || m.getD (v + i) false) = true := by
        rcases hc3 with h | h
        · rw [decide_eq_true (by omega), Bool.true_or]
        · rw [h, Bool.or_true]
      refine Tri.seq (Tri.region ?_)
      obtain ⟨nb, aa, ao, acap, asp, rfl, rfl, hn⟩ := hN.at hi
      have hfi := hg.fits i hi
      have hcells := hn.cells
      have hal := hfi.len
      first | refine TOps.fieldB 1 rfl Try.underlying24 rfl rfl ti22 rfl rfl rfl ?_ | refine TOps.fieldN 1 rfl Try.underlying24 rfl rfl ti22 rfl rfl rfl ?_
      refine TOps.load1 rfl ti22 (by first | exact Rd.lit (by repeat (first | exact List.Mem.head _ | apply List.Mem.tail)) rfl | (repeat (first | assumption | exact Rd.fld (by assumption) 1 rfl | apply Rd.up))) rfl ?_
      refine TOps.move rfl rfl ?_
      refine TOps.indexAddr (off' := noff + i * 3) rfl rfl Try.underlying22 ti66 (by omega) (by omega) (by rw [e1]; simp) rfl ?_
      refine TOps.fieldN 2 rfl Try.underlying66 rfl rfl ti50 rfl rfl rfl ?_
      refine TOps.load1 rfl ti50 (Rd.up (hcells.part 2 rfl)) rfl ?_
      refine TOps.len rfl Try.underlying50 rfl ?_
      refine TOps.move rfl rfl ?_
      refine TOps.next ?_
      refine Tri.range (X := Unit) (fun y j => [(1, .int .i64 ((v + t : Nat) : Int)), (2, .pointer (some ⟨b2, 0, none⟩)), (5, slV (some b15) 0 (v + F.nodes.length) (v + F.nodes.length)), (6, .int .i64 (((i + 1 : Nat) : Int) - 1)), (49, slV aa ao F.nodes[i].args.length acap asp)]) (fun y j => row (some b15) 4 1 (v + F.nodes.length) (bools (markArgs m (F.nodes[i].args.take j))) :: H1) (fun y j => True) (by omega) rfl rfl rfl (fun _ _ => ⟨rfl, rfl, rfl, rfl⟩) () trivial ⟨rfl, rfl, rfl, rfl, rfl, trivial⟩ (by repeat (first | exact Le.refl _ | assumption | apply Le.drop)) (fun j y hltj hpj => ?_) (fun y ac wc hpj hS hM => ?_)
      · skip
        obtain ⟨ab, rfl, rfl, ha⟩ := hn.args.at hltj
        have hb := hfi.args _ (List.getElem_mem hltj)
        have hml := markArgs_length (F.nodes[i].args.take j) m
        refine Tri.seq (Tri.region ?_)
        refine TOps.indexAddr (off' := ao + j) rfl rfl Try.underlying50 ti3 (by omega) (by omega) (by simp) rfl ?_
        refine TOps.load1 rfl ti3 (by first | exact Rd.lit (by repeat (first | exact List.Mem.head _ | apply List.Mem.tail)) rfl | (repeat (first | assumption | apply Rd.up))) rfl ?_
        refine TOps.assign rfl rfl ?_
        refine TOps.next ?_
        refine Tri.region ?_
        refine TOps.move rfl rfl ?_
        refine TOps.move rfl rfl ?_
        refine TOps.indexAddr (off' := F.nodes[i].args[j].toNat) rfl rfl Try.underlying68 ti4 (by omega) (by omega) (by simp) rfl ?_
        refine TOps.store1 rfl rfl ti4 rfl rfl Upd.here (by simp; omega) ?_
        refine TOps.fin ?_
        refine Nrm.body () trivial ⟨rfl, rfl, rfl, rfl, rfl, rfl, rfl, trivial⟩ (Le.rowEq (by rw [markArgs_take_succ hltj]; simp [bools]))
      rw [List.take_length] at hM
      refine Nrm.of hS hM ?_
      refine Nrm.unB ?_
      refine Nrm.next ?_
      refine Tri.region ?_
      refine TOps.move rfl rfl ?_
      refine TOps.sub rfl rfl (wrapI (by omega) (by omega)) rfl ?_
      refine TOps.assign rfl rfl ?_
      refine TOps.fin ?_
      refine Nrm.loop (i, bif (decide (i = t) || m.getD (v + i) false) then markArgs m (F.nodes.getD i ⟨0, 0, []⟩).args else m) ⟨by simp only; omega, by cases (decide (i = t) || m.getD (v + i) false) <;> simp [markArgs_length, hp2], by
        simp only
        intro h
        have hm := hp3 (by omega)
        rw [decide_eq_false (by omega), hm, show (List.replicate (v + F.nodes.length) false).getD (v + i) false = false from by rw [List.getD_eq_getElem?_getD, List.getElem?_replicate]; split <;> rfl]; rfl, by
        simp only
        intro h
        by_cases e : i = t
        · subst e; rw [decide_eq_true rfl, hp3 (by omega)]; exact hres
        · rw [decide_eq_false e, Bool.false_or]; exact hp4 (by omega)⟩ (by simp) ⟨rfl, rfl, rfl, (by refine congrArg (fun z : Int => some (Value.int .i64 z)) ?_; simp), trivial⟩ (by rw [show F.nodes.getD i ⟨0, 0, []⟩ = F.nodes[i] from by simp [hi], hcb]; exact Le.refl _)
    try simp only [decide_eq_true_eq, decide_eq_false_iff_not, Bool.and_eq_true, Bool.or_eq_true, Bool.not_eq_true', Bool.and_eq_false_iff, Bool.or_eq_false_iff, Bool.not_eq_false', Int.not_lt, Int.not_le, ne_eq, Decidable.not_not, Option.isSome_iff_ne_none, Option.isNone_iff_eq_none] at hc3
    have hcb : (decide (i = t) || m.getD (v + i) false) = false := by rw [decide_eq_false (by omega), hc3.2]; rfl
    refine Tri.fin ?_
    refine Nrm.unB ?_
    refine Nrm.next ?_
    refine Tri.region ?_
    refine TOps.move rfl rfl ?_
    refine TOps.sub rfl rfl (wrapI (by omega) (by omega)) rfl ?_
    refine TOps.assign rfl rfl ?_
    refine TOps.fin ?_
    refine Nrm.loop (i, bif (decide (i = t) || m.getD (v + i) false) then markArgs m (F.nodes.getD i ⟨0, 0, []⟩).args else m) ⟨by simp only; omega, by cases (decide (i = t) || m.getD (v + i) false) <;> simp [markArgs_length, hp2], by
      simp only
      intro h
      have hm := hp3 (by omega)
      rw [decide_eq_false (by omega), hm, show (List.replicate (v + F.nodes.length) false).getD (v + i) false = false from by rw [List.getD_eq_getElem?_getD, List.getElem?_replicate]; split <;> rfl]; rfl, by
      simp only
      intro h
      by_cases e : i = t
      · subst e; rw [decide_eq_true rfl, hp3 (by omega)]; exact hres
      · rw [decide_eq_false e, Bool.false_or]; exact hp4 (by omega)⟩ (by simp) ⟨rfl, rfl, rfl, (by refine congrArg (fun z : Int => some (Value.int .i64 z)) ?_; simp), trivial⟩ (by rw [show F.nodes.getD i ⟨0, 0, []⟩ = F.nodes[i] from by simp [hi], hcb]; exact Le.refl _)
  try simp only [decide_eq_true_eq, decide_eq_false_iff_not, Bool.and_eq_true, Bool.or_eq_true, Bool.not_eq_true', Bool.and_eq_false_iff, Bool.or_eq_false_iff, Bool.not_eq_false', Int.not_lt, Int.not_le, ne_eq, Decidable.not_not, Option.isSome_iff_ne_none, Option.isNone_iff_eq_none] at hc2
  obtain rfl : i = 0 := by omega
  have hp3' : m = U := hp4 (by omega)
  subst hp3'
  first | refine Tri.exitW ?_ | (refine Tri.exitTo ?_; repeat (with_reducible first | refine ExitTo.blk ?_ | refine ExitTo.blkNe rfl ?_ | refine ExitTo.body ?_ | refine ExitTo.brk rfl ?_ | refine ExitTo.bodyNe rfl rfl ?_ | refine ExitTo.seq ?_ | refine ExitTo.loop ?_))
  refine Nrm.next ?_
  refine Tri.seq (Tri.region ?_)
  refine TOps.move rfl rfl ?_
  refine TOps.assign rfl rfl ?_
  refine TOps.next ?_
  refine Tri.ret1 (H' := _) Try.results42 (fun _ _ h => h) (.tmp rfl) (Le.consOf s1) ⟨b15, v + F.nodes.length, rfl, rfl⟩
theorem rneeded_g {H : List Ent} {fv : Value} {F : Fm} (hF : RF H fv F) (hk : F.ok) (hg : F.Good) (arg : Int) (ha : I64 arg) :
    Gives Try.prog 39 [fv, .int .i64 arg] H (R1 (.bool (decide (F.vars ≤ arg) && decide (arg < F.vars + F.nodes.length) && F.below.getD arg.toNat false)) H) := by
  have hF0 := hF
  obtain ⟨na, off, ncap, nsp, rfl, hN⟩ := hF
  unfold I64 at ha
  have g0 := hg.v0; have g1 := hg.v1; have g2 := hg.n1
  have hbl := F.below_length
  refine Gives.enter Try.func39 rfl (by exact Try.ntmps39) rfl ?_
  refine Tri.seq (Tri.region ?_)
  refine TOps.boxN rfl ti24 rfl rfl (fun b2 => ?_)
  refine TOps.hide (fun H1 l1 s1 r1 => ?_)
  replace hF0 := hF0.le l1
  refine TOps.assign rfl rfl ?_
  refine TOps.next ?_
  refine Tri.seq (Tri.region ?_)
  refine TOps.move rfl rfl ?_
  refine TOps.field0 rfl Try.underlying24 rfl rfl ti3 rfl rfl rfl ?_
  refine TOps.load1 rfl ti3 (by first | exact Rd.lit (by repeat (first | exact List.Mem.head _ | apply List.Mem.tail)) rfl | (repeat (first | assumption | exact Rd.fld (by assumption) 0 rfl | apply Rd.up))) rfl ?_
  refine TOps.geq rfl rfl rfl ?_
  refine TOps.move rfl rfl ?_
  refine' TOps.andB 8 rfl rfl rfl rfl (fun hg1_4 => ?_) ?_; rotate_left
  · have hg1_4' := hg1_4
    try simp only [decide_eq_true_eq, decide_eq_false_iff_not, Bool.and_eq_true, Bool.or_eq_true, Bool.not_eq_true', Bool.and_eq_false_iff, Bool.or_eq_false_iff, Bool.not_eq_false', Int.not_lt, Int.not_le, ne_eq, Decidable.not_not] at hg1_4'
    refine TOps.strip 4 true rfl rfl hg1_4 rfl ?_
    refine TOps.move rfl rfl ?_
    refine TOps.field0 rfl Try.underlying24 rfl rfl ti3 rfl rfl rfl ?_
    refine TOps.load1 rfl ti3 (by first | exact Rd.lit (by repeat (first | exact List.Mem.head _ | apply List.Mem.tail)) rfl | (repeat (first | assumption | exact Rd.fld (by assumption) 0 rfl | apply Rd.up))) rfl ?_
    first | refine TOps.fieldB 1 rfl Try.underlying24 rfl rfl ti22 rfl rfl rfl ?_ | refine TOps.fieldN 1 rfl Try.underlying24 rfl rfl ti22 rfl rfl rfl ?_
    refine TOps.load1 rfl ti22 (by first | exact Rd.lit (by repeat (first | exact List.Mem.head _ | apply List.Mem.tail)) rfl | (repeat (first | assumption | exact Rd.fld (by assumption) 1 rfl | apply Rd.up))) rfl ?_
    refine TOps.len rfl Try.underlying22 rfl ?_
    refine TOps.add (r := F.vars + F.nodes.length) rfl rfl (by rw [wrapI (by omega) (by omega)]) rfl ?_
    refine TOps.lss rfl rfl rfl ?_
    refine TOps.blk rfl (by repeat (first | exact Ext.refl _ | refine Ext.cons rfl ?_)) (by repeat (first | exact Le.refl _ | apply Le.drop))
  refine TOps.move rfl rfl ?_
  refine' TOps.andB 5 rfl rfl rfl rfl (fun hg1_14 => ?_) ?_; rotate_left
  · have hg1_14' := hg1_14
    try simp only [decide_eq_true_eq, decide_eq_false_iff_not, Bool.and_eq_true, Bool.or_eq_true, Bool.not_eq_true', Bool.and_eq_false_iff, Bool.or_eq_false_iff, Bool.not_eq_false', Int.not_lt, Int.not_le, ne_eq, Decidable.not_not] at hg1_14'
    refine TOps.strip 14 true rfl rfl hg1_14 rfl ?_
    refine TOps.loadN rfl ti24 (by first | exact Rd.all (by repeat (first | exact List.Mem.head _ | apply List.Mem.tail)) | (repeat (first | assumption | apply Rd.up))) rfl rfl ?_
    refine TOps.call (vs := [_]) Try.call41 ⟨rfl, trivial⟩ (rbelow_g hF0 hk hg) rfl ?_
    rintro _ _ ⟨b, cp, rfl, rfl⟩
    refine TOps.move rfl rfl ?_
    refine TOps.indexAddr (off' := arg.toNat) rfl rfl Try.underlying68 ti4 (by omega) (by omega) (by simp) rfl ?_
    refine TOps.load1 (v := .bool (F.below.getD arg.toNat false)) rfl ti4 (Rd.lit (List.Mem.head _) (bools_get (by omega))) rfl ?_
    refine TOps.blk rfl (by repeat (first | exact Ext.refl _ | refine Ext.cons rfl ?_)) (by repeat (first | exact Le.refl _ | apply Le.drop))
  refine TOps.assign rfl rfl ?_
  refine TOps.next ?_
  refine Tri.ret1 (H' := H) Try.results39 (fun _ _ h => h) (.tmp rfl) l1 ⟨rfl, rfl⟩
theorem rneededN_g {H : List Ent} {fv : Value} {F : Fm} (hF : RF H fv F) (hk : F.ok) (hg : F.Good) (k : Nat) (hkn : k < F.nodes.length) {q : Nat} (hq : F.vars.toNat = q) :
    Gives Try.prog 39 [fv, .int .i64 ((q + k : Nat) : Int)] H (R1 (.bool (F.below.getD (q + k) false)) H) := by
  have g0 := hg.v0; have g1 := hg.v1; have g2 := hg.n1
  have h := rneeded_g hF hk hg ((q + k : Nat) : Int) ⟨by omega, by omega⟩
  rw [decide_eq_true (by omega), decide_eq_true (by omega), Int.toNat_natCast] at h
  exact h
theorem ris_g {H : List Ent} {fv : Value} {F : Fm} (hF : RF H fv F) (hg : F.Good) (hk : F.ok) (t : Nat) (ht : t < F.nodes.length) {q : Nat} (hq : F.vars.toNat = q) :
    Gives Try.prog 40 [fv, .int .i64 ((q + t : Nat) : Int)] H (R1 (.bool (F.isMod (q + t))) H) := by
  subst hq
  have hF0 := hF
  obtain ⟨na, noff, ncap, nsp, rfl, hN⟩ := hF
  have g0 := hg.v0; have g1 := hg.v1; have g2 := hg.n1; have gt := hg.topLt
  obtain ⟨v, hv⟩ := Int.eq_ofNat_of_zero_le g0
  have hvn : F.vars.toNat = v := by omega
  have hbl := F.below_length
  have hul := F.under_length (v + t)
  have hmod : F.isMod (v + t) = ((F.under (v + t)).any id && !(F.under (v + t)).getD F.top.toNat false && (List.range F.nodes.length).all (F.modAt (v + t))) := rfl
  have hmat : ∀ i, F.modAt (v + t) i = (!F.below.getD (v + i) false || Nat.beq (v + i) (v + t) || (F.under (v + t)).getD (v + i) false || (F.nodes.getD i ⟨0, 0, []⟩).args.all (fun a => !(F.under (v + t)).getD a.toNat false)) := fun i => by unfold Fm.modAt; rw [hvn]
  rw [hvn] at hul hbl ⊢
  rw [hv] at hF0 ⊢
  refine Gives.enter Try.func40 rfl (by exact Try.ntmps40) rfl ?_
  refine Tri.seq (Tri.region ?_)
  refine TOps.boxN rfl ti24 rfl rfl (fun b2 => ?_)
  refine TOps.hide (fun H1 l1 s1 r1 => ?_)
  replace hF0 := hF0.le l1; replace hN := hN.le l1
  refine TOps.assign rfl rfl ?_
  refine TOps.next ?_
  refine Tri.seq (Tri.region ?_)
  refine TOps.loadN rfl ti24 (by first | exact Rd.all (by repeat (first | exact List.Mem.head _ | apply List.Mem.tail)) | (repeat (first | assumption | apply Rd.up))) rfl rfl ?_
  refine TOps.move rfl rfl ?_
  refine TOps.call (vs := [_, _]) Try.call42 ⟨rfl, rfl, trivial⟩ (runder_g hF0 hg (v + t) (by omega)) rfl ?_
  rintro _ _ ⟨b, cpu, rfl, rfl⟩
  rw [hvn]
  refine TOps.hide (fun H2 l2 s2 ru => ?_)
  replace hF0 := hF0.le l2; replace hN := hN.le l2; replace r1 := r1.le l2; have l3 := l2.trans l1
  have hld : ∀ j, j < v + F.nodes.length → Rd H2 b j [.bool ((F.under (v + t)).getD j false)] := fun j hj => by have := ru.part j (bools_get (by omega)); rwa [Nat.zero_add] at this
  refine TOps.assign rfl rfl ?_
  refine TOps.next ?_
  refine Tri.seq (Tri.region ?_)
  refine TOps.assign rfl rfl ?_
  refine TOps.next ?_
  refine Tri.seq ?_
  refine Tri.seq (Tri.region ?_)
  refine TOps.move rfl rfl ?_
  refine TOps.len rfl Try.underlying68 rfl ?_
  refine TOps.move rfl rfl ?_
  refine TOps.next ?_
  refine Tri.range (X := Unit) (fun x k => [(1, .int .i64 ((v + t : Nat) : Int)), (2, .pointer (some ⟨b2, 0, none⟩)), (5, slV (some b) 0 (v + F.nodes.length) cpu), (6, .bool (((F.under (v + t)).take k).any id)), (16, slV (some b) 0 (v + F.nodes.length) cpu)]) (fun x k => H2) (fun x k => True) (by omega) rfl rfl rfl (fun _ _ => ⟨rfl, rfl, rfl, rfl⟩) () trivial ⟨rfl, rfl, rfl, rfl, rfl, trivial⟩ (by repeat (first | exact Le.refl _ | assumption | apply Le.drop)) (fun k x hlt hp => ?_) (fun x ac wc hp hS hM => ?_)
  · skip
    refine Tri.seq (Tri.region ?_)
    refine TOps.indexAddr (off' := k) rfl rfl Try.underlying68 ti4 (by omega) (by omega) (by simp) rfl ?_
    refine TOps.load1 rfl ti4 (hld k hlt) rfl ?_
    refine TOps.assign rfl rfl ?_
    refine TOps.next ?_
    refine Tri.region ?_
    refine TOps.move rfl rfl ?_
    refine TOps.move rfl rfl ?_
    refine' TOps.orB 1 rfl rfl rfl rfl (fun hg6_1 => ?_) ?_; rotate_left
    · have hg6_1' := hg6_1
      try simp only [decide_eq_true_eq, decide_eq_false_iff_not, Bool.and_eq_true, Bool.or_eq_true, Bool.not_eq_true', Bool.and_eq_false_iff, Bool.or_eq_false_iff, Bool.not_eq_false', Int.not_lt, Int.not_le, ne_eq, Decidable.not_not] at hg6_1'
      refine TOps.strip 1 false rfl rfl hg6_1 rfl ?_
      refine TOps.move rfl rfl ?_
      refine TOps.blk rfl (by repeat (first | exact Ext.refl _ | refine Ext.cons rfl ?_)) (by repeat (first | exact Le.refl _ | apply Le.drop))
    refine TOps.assign rfl rfl ?_
    refine TOps.fin ?_
    refine Nrm.body () trivial ⟨rfl, rfl, rfl, rfl, rfl, (by refine congrArg (fun z : Bool => some (Value.bool z)) ?_; rw [any_take_succ (by omega)]), rfl, trivial⟩ (by repeat (first | exact Le.refl _ | assumption | apply Le.drop))
  rw [show v + F.nodes.length = (F.under (v + t)).length by omega, List.take_length] at hS
  rw [← show v + F.nodes.length = (F.under (v + t)).length by omega] at hS
  refine Nrm.of hS hM ?_
  refine Nrm.next ?_
  refine Tri.seq ?_
  refine Tri.seq (Tri.region ?_)
  refine TOps.move rfl rfl ?_
  refine TOps.not rfl rfl ?_
  refine TOps.move rfl rfl ?_
  refine' TOps.orB 5 rfl rfl rfl rfl (fun hg8_2 => ?_) ?_; rotate_left
  · have hg8_2' := hg8_2
    try simp only [decide_eq_true_eq, decide_eq_false_iff_not, Bool.and_eq_true, Bool.or_eq_true, Bool.not_eq_true', Bool.and_eq_false_iff, Bool.or_eq_false_iff, Bool.not_eq_false', Int.not_lt, Int.not_le, ne_eq, Decidable.not_not] at hg8_2'
    refine TOps.strip 2 false rfl rfl hg8_2 rfl ?_
    refine TOps.move rfl rfl ?_
    first | refine TOps.fieldB 2 rfl Try.underlying24 rfl rfl ti3 rfl rfl rfl ?_ | refine TOps.fieldN 2 rfl Try.underlying24 rfl rfl ti3 rfl rfl rfl ?_
    refine TOps.load1 rfl ti3 (by first | exact Rd.lit (by repeat (first | exact List.Mem.head _ | apply List.Mem.tail)) rfl | (repeat (first | assumption | exact Rd.fld (by assumption) 2 rfl | apply Rd.up))) rfl ?_
    refine TOps.indexAddr (off' := F.top.toNat) rfl rfl Try.underlying68 ti4 (by omega) (by omega) (by simp) rfl ?_
    refine TOps.load1 rfl ti4 (hld F.top.toNat (by omega)) rfl ?_
    refine TOps.blk rfl (by repeat (first | exact Ext.refl _ | refine Ext.cons rfl ?_)) (by repeat (first | exact Le.refl _ | apply Le.drop))
  refine TOps.next ?_
  refine Tri.cond rfl (fun hc1 => ?_) (fun hc1 => ?_)
  · try simp only [decide_eq_true_eq, decide_eq_false_iff_not, Bool.and_eq_true, Bool.or_eq_true, Bool.not_eq_true', Bool.and_eq_false_iff, Bool.or_eq_false_iff, Bool.not_eq_false', Int.not_lt, Int.not_le, ne_eq, Decidable.not_not, Option.isSome_iff_ne_none, Option.isNone_iff_eq_none] at hc1
    refine Tri.seq (Tri.region ?_)
    refine TOps.assign rfl rfl ?_
    refine TOps.next ?_
    refine Tri.ret1 (H' := H) Try.results40 (fun _ _ h => h) (.tmp rfl) l3 ⟨by rw [hmod]; rcases hc1 with h | h; (rw [h]; rfl); (rw [h]; simp), rfl⟩
  try simp only [decide_eq_true_eq, decide_eq_false_iff_not, Bool.and_eq_true, Bool.or_eq_true, Bool.not_eq_true', Bool.and_eq_false_iff, Bool.or_eq_false_iff, Bool.not_eq_false', Int.not_lt, Int.not_le, ne_eq, Decidable.not_not, Option.isSome_iff_ne_none, Option.isNone_iff_eq_none] at hc1
  refine Tri.fin ?_
  refine Nrm.next ?_
  refine Tri.seq ?_
  refine Tri.seq (Tri.region ?_)
  first | refine TOps.fieldB 1 rfl Try.underlying24 rfl rfl ti22 rfl rfl rfl ?_ | refine TOps.fieldN 1 rfl Try.underlying24 rfl rfl ti22 rfl rfl rfl ?_
  refine TOps.load1 rfl ti22 (by first | exact Rd.lit (by repeat (first | exact List.Mem.head _ | apply List.Mem.tail)) rfl | (repeat (first | assumption | exact Rd.fld (by assumption) 1 rfl | apply Rd.up))) rfl ?_
  refine TOps.len rfl Try.underlying22 rfl ?_
  refine TOps.move rfl rfl ?_
  refine TOps.next ?_
  refine Tri.range (X := Unit) (fun y k => [(1, .int .i64 ((v + t : Nat) : Int)), (2, .pointer (some ⟨b2, 0, none⟩)), (5, slV (some b) 0 (v + F.nodes.length) cpu), (37, slV na noff F.nodes.length ncap nsp)]) (fun y k => H2) (fun y k => ∀ i, i < k → F.modAt (v + t) i = true) (by omega) rfl rfl rfl (fun _ _ => ⟨rfl, rfl, rfl, rfl⟩) () (by intro i h; omega) ⟨rfl, rfl, rfl, rfl, trivial⟩ (by repeat (first | exact Le.refl _ | assumption | apply Le.drop)) (fun k y hlt hp => ?_) (fun y ac wc hp hS hM => ?_)
  · skip
    obtain ⟨nb2, aa, ao, acap, asp, rfl, rfl, hn⟩ := hN.at hlt
    have hfi := hg.fits k hlt
    have hcells := hn.cells
    have hal := hfi.len
    have hmk := hmat k
    rw [show F.nodes.getD k ⟨0, 0, []⟩ = F.nodes[k] from by simp [hlt]] at hmk
    refine Tri.seq (Tri.region ?_)
    refine TOps.move rfl rfl ?_
    refine TOps.indexAddr (off' := noff + k * 3) rfl rfl Try.underlying22 ti66 (by omega) (by omega) (by simp) rfl ?_
    refine TOps.loadN rfl ti66 (by first | exact Rd.all (by repeat (first | exact List.Mem.head _ | apply List.Mem.tail)) | (repeat (first | assumption | apply Rd.up))) rfl rfl ?_
    refine TOps.alloc ti66 rfl (fun b10 => ?_)
    refine TOps.assign rfl rfl ?_
    refine TOps.storeN rfl rfl ti66 rfl rfl (by repeat (first | exact Upd.here | apply Upd.there)) (by first | decide | (simp; done) | (simp; omega)) ?_
    refine TOps.next ?_
    refine Tri.seq ?_
    refine Tri.seq (Tri.region ?_)
    refine TOps.loadN rfl ti24 (by first | exact Rd.all (by repeat (first | exact List.Mem.head _ | apply List.Mem.tail)) | (repeat (first | assumption | apply Rd.up))) rfl rfl ?_
    refine TOps.field0 rfl Try.underlying24 rfl rfl ti3 rfl rfl rfl ?_
    refine TOps.load1 rfl ti3 (by first | exact Rd.lit (by repeat (first | exact List.Mem.head _ | apply List.Mem.tail)) rfl | (repeat (first | assumption | exact Rd.fld (by assumption) 0 rfl | apply Rd.up))) rfl ?_
    refine TOps.move rfl rfl ?_
    refine TOps.add (r := ((v + k : Nat) : Int)) rfl rfl (by rw [wrapI (by omega) (by omega)]; omega) rfl ?_
    refine TOps.call (vs := [_, _]) Try.call39 ⟨rfl, rfl, trivial⟩ (rneededN_g (hF0.le (Le.drop (Le.refl _))) hk hg k hlt hvn) rfl ?_
    rintro _ _ ⟨rfl, rfl⟩
    refine TOps.not rfl rfl ?_
    refine TOps.move rfl rfl ?_
    refine' TOps.orB 6 rfl rfl rfl rfl (fun hg13_7 => ?_) ?_; rotate_left
    · have hg13_7' := hg13_7
      try simp only [decide_eq_true_eq, decide_eq_false_iff_not, Bool.and_eq_true, Bool.or_eq_true, Bool.not_eq_true', Bool.and_eq_false_iff, Bool.or_eq_false_iff, Bool.not_eq_false', Int.not_lt, Int.not_le, ne_eq, Decidable.not_not] at hg13_7'
      refine TOps.strip 7 false rfl rfl hg13_7 rfl ?_
      refine TOps.field0 rfl Try.underlying24 rfl rfl ti3 rfl rfl rfl ?_
      refine TOps.load1 rfl ti3 (by first | exact Rd.lit (by repeat (first | exact List.Mem.head _ | apply List.Mem.tail)) rfl | (repeat (first | assumption | exact Rd.fld (by assumption) 0 rfl | apply Rd.up))) rfl ?_
      refine TOps.move rfl rfl ?_
      refine TOps.add (r := ((v + k : Nat) : Int)) rfl rfl (by rw [wrapI (by omega) (by omega)]; omega) rfl ?_
      refine TOps.move rfl rfl ?_
      refine TOps.eqlI rfl rfl rfl ?_
      refine TOps.blk rfl (by repeat (first | exact Ext.refl _ | refine Ext.cons rfl ?_)) (by repeat (first | exact Le.refl _ | apply Le.drop))
    refine TOps.move rfl rfl ?_
    refine' TOps.orB 7 rfl rfl rfl rfl (fun hg13_15 => ?_) ?_; rotate_left
    · have hg13_15' := hg13_15
      try simp only [decide_eq_true_eq, decide_eq_false_iff_not, Bool.and_eq_true, Bool.or_eq_true, Bool.not_eq_true', Bool.and_eq_false_iff, Bool.or_eq_false_iff, Bool.not_eq_false', Int.not_lt, Int.not_le, ne_eq, Decidable.not_not] at hg13_15'
      refine TOps.strip 15 false rfl rfl hg13_15 rfl ?_
      refine TOps.move rfl rfl ?_
      refine TOps.field0 rfl Try.underlying24 rfl rfl ti3 rfl rfl rfl ?_
      refine TOps.load1 rfl ti3 (by first | exact Rd.lit (by repeat (first | exact List.Mem.head _ | apply List.Mem.tail)) rfl | (repeat (first | assumption | exact Rd.fld (by assumption) 0 rfl | apply Rd.up))) rfl ?_
      refine TOps.move rfl rfl ?_
      refine TOps.add (r := ((v + k : Nat) : Int)) rfl rfl (by rw [wrapI (by omega) (by omega)]; omega) rfl ?_
      refine TOps.indexAddr (off' := v + k) rfl rfl Try.underlying68 ti4 (by omega) (by omega) (by omega) rfl ?_
      refine TOps.load1 rfl ti4 (Rd.up (hld (v + k) (by omega))) rfl ?_
      refine TOps.blk rfl (by repeat (first | exact Ext.refl _ | refine Ext.cons rfl ?_)) (by repeat (first | exact Le.refl _ | apply Le.drop))
    refine TOps.next ?_
    refine Tri.cond rfl (fun hc2 => ?_) (fun hc2 => ?_)
    · try simp only [decide_eq_true_eq, decide_eq_false_iff_not, Bool.and_eq_true, Bool.or_eq_true, Bool.not_eq_true', Bool.and_eq_false_iff, Bool.or_eq_false_iff, Bool.not_eq_false', Int.not_lt, Int.not_le, ne_eq, Decidable.not_not, Option.isSome_iff_ne_none, Option.isNone_iff_eq_none] at hc2
      refine Tri.exitTo ?_
      repeat (with_reducible first | refine ExitTo.blk ?_ | refine ExitTo.blkNe rfl ?_ | refine ExitTo.body ?_ | refine ExitTo.brk rfl ?_ | refine ExitTo.bodyNe rfl rfl ?_ | refine ExitTo.seq ?_ | refine ExitTo.loop ?_)
      have hok : F.modAt (v + t) k = true := by
        rw [hmk]
        rcases hc2 with (h | h) | h
        · rw [h]; rfl
        · rw [show v + k = v + t by omega]; simp
        · rw [h]; simp
      refine Nrm.body () (by intro i hi; rcases Nat.lt_succ_iff_lt_or_eq.1 hi with hi | rfl; exact hp i hi; exact hok) ⟨rfl, rfl, rfl, rfl, rfl, rfl, trivial⟩ (by repeat (first | exact Le.refl _ | assumption | apply Le.drop))
    try simp only [decide_eq_true_eq, decide_eq_false_iff_not, Bool.and_eq_true, Bool.or_eq_true, Bool.not_eq_true', Bool.and_eq_false_iff, Bool.or_eq_false_iff, Bool.not_eq_false', Int.not_lt, Int.not_le, ne_eq, Decidable.not_not, Option.isSome_iff_ne_none, Option.isNone_iff_eq_none] at hc2
    have hbq : Nat.beq (v + k) (v + t) = false := by
      cases h : Nat.beq (v + k) (v + t) with
      | false => rfl
      | true => exact absurd (by rw [Nat.eq_of_beq_eq_true h]) hc2.1.2
    rw [hc2.1.1, hbq, hc2.2, Bool.not_true, Bool.false_or, Bool.false_or, Bool.false_or] at hmk
    refine Tri.fin ?_
    refine Nrm.next ?_
    refine Tri.seq (Tri.region ?_)
    first | refine TOps.fieldB 2 rfl Try.underlying66 rfl rfl ti50 rfl rfl rfl ?_ | refine TOps.fieldN 2 rfl Try.underlying66 rfl rfl ti50 rfl rfl rfl ?_
    refine TOps.load1 rfl ti50 (by first | exact Rd.lit (by repeat (first | exact List.Mem.head _ | apply List.Mem.tail)) rfl | (repeat (first | assumption | exact Rd.fld (by assumption) 2 rfl | apply Rd.up))) rfl ?_
    refine TOps.len rfl Try.underlying50 rfl ?_
    refine TOps.move rfl rfl ?_
    refine TOps.next ?_
    refine Tri.range (X := Unit) (fun z j => [(1, .int .i64 ((v + t : Nat) : Int)), (2, .pointer (some ⟨b2, 0, none⟩)), (5, slV (some b) 0 (v + F.nodes.length) cpu), (37, slV (some nb2) noff F.nodes.length ncap), (38, .int .i64 F.nodes.length), (39, .int .i64 k), (69, slV aa ao F.nodes[k].args.length acap asp)]) (fun z j => H2) (fun z j => ∀ i (hi : i < F.nodes[k].args.length), i < j → (F.under (v + t)).getD (F.nodes[k].args[i]).toNat false = false) (by omega) rfl rfl rfl (fun _ _ => ⟨rfl, rfl, rfl, rfl⟩) () (by intro i _ h; omega) ⟨rfl, rfl, rfl, rfl, rfl, rfl, rfl, trivial⟩ (by repeat (first | exact Le.refl _ | assumption | apply Le.drop)) (fun j z hltj hpj => ?_) (fun z ac wc hpj hS hM => ?_)
    · skip
      obtain ⟨ab, rfl, rfl, ha⟩ := hn.args.at hltj
      have hb := hfi.args _ (List.getElem_mem hltj)
      refine Tri.seq (Tri.region ?_)
      refine TOps.indexAddr (off' := ao + j) rfl rfl Try.underlying50 ti3 (by omega) (by omega) (by simp) rfl ?_
      refine TOps.load1 rfl ti3 (by first | exact Rd.lit (by repeat (first | exact List.Mem.head _ | apply List.Mem.tail)) rfl | (repeat (first | assumption | apply Rd.up))) rfl ?_
      refine TOps.assign rfl rfl ?_
      refine TOps.next ?_
      refine Tri.seq (Tri.region ?_)
      refine TOps.move rfl rfl ?_
      refine TOps.move rfl rfl ?_
      refine TOps.indexAddr (off' := F.nodes[k].args[j].toNat) rfl rfl Try.underlying68 ti4 (by omega) (by omega) (by simp) rfl ?_
      refine TOps.load1 rfl ti4 (hld F.nodes[k].args[j].toNat (by omega)) rfl ?_
      refine TOps.next ?_
      refine Tri.cond rfl (fun hc3 => ?_) (fun hc3 => ?_)
      · try simp only [decide_eq_true_eq, decide_eq_false_iff_not, Bool.and_eq_true, Bool.or_eq_true, Bool.not_eq_true', Bool.and_eq_false_iff, Bool.or_eq_false_iff, Bool.not_eq_false', Int.not_lt, Int.not_le, ne_eq, Decidable.not_not, Option.isSome_iff_ne_none, Option.isNone_iff_eq_none] at hc3
        have hno : F.modAt (v + t) k = false := by
          rw [hmk, List.all_eq_false]
          exact ⟨F.nodes[k].args[j], List.getElem_mem hltj, by rw [hc3]; simp⟩
        refine Tri.seq (Tri.region ?_)
        refine TOps.assign rfl rfl ?_
        refine TOps.next ?_
        refine Tri.ret1 (H' := H) Try.results40 (fun _ _ h => h) (.tmp rfl) l3 ⟨by
          rw [hmod, show (List.range F.nodes.length).all (F.modAt (v + t)) = false from by rw [List.all_eq_false]; exact ⟨k, List.mem_range.2 hlt, by rw [hno]; simp⟩]; simp, rfl⟩
      try simp only [decide_eq_true_eq, decide_eq_false_iff_not, Bool.and_eq_true, Bool.or_eq_true, Bool.not_eq_true', Bool.and_eq_false_iff, Bool.or_eq_false_iff, Bool.not_eq_false', Int.not_lt, Int.not_le, ne_eq, Decidable.not_not, Option.isSome_iff_ne_none, Option.isNone_iff_eq_none] at hc3
      refine Tri.fin ?_
      refine Nrm.body () (by intro i hi hij; rcases Nat.lt_succ_iff_lt_or_eq.1 hij with hij | rfl; exact hpj i hi hij; exact hc3) ⟨rfl, rfl, rfl, rfl, rfl, rfl, rfl, rfl, rfl, trivial⟩ (by repeat (first | exact Le.refl _ | assumption | apply Le.drop))
    have hok : F.modAt (v + t) k = true := by
      rw [hmk, List.all_eq_true]
      intro a haa
      obtain ⟨i, hi, rfl⟩ := List.getElem_of_mem haa
      rw [hpj i hi hi]; rfl
    refine Nrm.of hS hM ?_
    refine Nrm.body () (by intro i hi; rcases Nat.lt_succ_iff_lt_or_eq.1 hi with hi | rfl; exact hp i hi; exact hok) ⟨rfl, rfl, rfl, rfl, rfl, rfl, trivial⟩ (by repeat (first | exact Le.refl _ | assumption | apply Le.drop))
  have hall : (List.range F.nodes.length).all (F.modAt (v + t)) = true := by rw [List.all_eq_true]; intro i hi; exact hp i (List.mem_range.1 hi)
  refine Nrm.of hS hM ?_
  refine Nrm.next ?_
  refine Tri.seq (Tri.region ?_)
  refine TOps.assign rfl rfl ?_
  refine TOps.next ?_
  refine Tri.ret1 (H' := H) Try.results40 (fun _ _ h => h) (.tmp rfl) l3 ⟨by rw [hmod, hall, hc1.1, hc1.2]; rfl, rfl⟩
theorem rBelow29_g {H : List Ent} {fv : Value} {F : Fm} (hF : RF H fv F) (hg : F.Good) (arg : Nat) (ha : arg < F.vars.toNat + F.nodes.length) :
    Gives Try.prog 60 [fv, .int .i64 arg] H (R1 (.int .i64 (F.evs arg : Nat)) H) := by
  have hF0 := hF
  obtain ⟨na, off, ncap, nsp, rfl, hN⟩ := hF
  have g0 := hg.v0; have g1 := hg.v1; have g2 := hg.n1
  obtain ⟨v, hv⟩ := Int.eq_ofNat_of_zero_le g0
  have hvn : F.vars.toNat = v := by omega
  have hul := F.under_length arg
  have hevs : F.evs arg = if arg < v then 2 ^ arg else setOf (F.under arg) v := by unfold Fm.evs; rw [hvn]
  rw [hv] at hF0 ⊢
  refine Gives.enter Try.func60 rfl (by exact Try.ntmps60) rfl ?_
  refine Tri.seq (Tri.region ?_)
  refine TOps.boxN rfl ti24 rfl rfl (fun b2 => ?_)
  refine TOps.hide (fun H1 l1 s1 r1 => ?_)
  replace hF0 := hF0.le l1
  refine TOps.assign rfl rfl ?_
  refine TOps.next ?_
  refine Tri.seq ?_
  refine Tri.seq (Tri.region ?_)
  refine TOps.move rfl rfl ?_
  refine TOps.field0 rfl Try.underlying24 rfl rfl ti3 rfl rfl rfl ?_
  refine TOps.load1 rfl ti3 (by first | exact Rd.lit (by repeat (first | exact List.Mem.head _ | apply List.Mem.tail)) rfl | (repeat (first | assumption | exact Rd.fld (by assumption) 0 rfl | apply Rd.up))) rfl ?_
  refine TOps.lss rfl rfl rfl ?_
  refine TOps.next ?_
  refine Tri.cond rfl (fun hc1 => ?_) (fun hc1 => ?_)
  · try simp only [decide_eq_true_eq, decide_eq_false_iff_not, Bool.and_eq_true, Bool.or_eq_true, Bool.not_eq_true', Bool.and_eq_false_iff, Bool.or_eq_false_iff, Bool.not_eq_false', Int.not_lt, Int.not_le, ne_eq, Decidable.not_not, Option.isSome_iff_ne_none, Option.isNone_iff_eq_none] at hc1
    refine Tri.seq (Tri.region ?_)
    refine TOps.move rfl rfl ?_
    refine TOps.shl (r := ((2 ^ arg : Nat) : Int)) rfl rfl (by omega) (by rw [Int.toNat_natCast]; exact ishl_one (by omega)) rfl ?_
    refine TOps.assign rfl rfl ?_
    refine TOps.next ?_
    refine Tri.ret1 (H' := H) Try.results60 (fun _ _ h => h) (.tmp rfl) l1 ⟨by rw [hevs, if_pos (by omega)], rfl⟩
  try simp only [decide_eq_true_eq, decide_eq_false_iff_not, Bool.and_eq_true, Bool.or_eq_true, Bool.not_eq_true', Bool.and_eq_false_iff, Bool.or_eq_false_iff, Bool.not_eq_false', Int.not_lt, Int.not_le, ne_eq, Decidable.not_not, Option.isSome_iff_ne_none, Option.isNone_iff_eq_none] at hc1
  refine Tri.fin ?_
  refine Nrm.next ?_
  refine Tri.seq (Tri.region ?_)
  refine TOps.assign rfl rfl ?_
  refine TOps.next ?_
  refine Tri.seq ?_
  refine Tri.seq (Tri.region ?_)
  refine TOps.loadN rfl ti24 (by first | exact Rd.all (by repeat (first | exact List.Mem.head _ | apply List.Mem.tail)) | (repeat (first | assumption | apply Rd.up))) rfl rfl ?_
  refine TOps.move rfl rfl ?_
  refine TOps.call (vs := [_, _]) Try.call42 ⟨rfl, rfl, trivial⟩ (runder_g hF0 hg arg ha) rfl ?_
  rintro _ _ ⟨b, cp, rfl, rfl⟩
  refine TOps.len (m := F.vars.toNat + F.nodes.length) rfl Try.underlying68 rfl ?_
  refine TOps.move rfl rfl ?_
  refine TOps.next ?_
  refine Tri.range (X := Unit) (fun x k => [(2, .pointer (some ⟨b2, 0, none⟩)), (5, .int .i64 (setOf (F.under arg) (min k v) : Nat)), (16, slV (some b) 0 (F.vars.toNat + F.nodes.length) cp)]) (fun x k => row (some b) 4 1 cp (bools (F.under arg)) :: H1) (fun x k => True) (by omega) rfl rfl rfl (fun _ _ => ⟨rfl, rfl, rfl, rfl⟩) () trivial ⟨rfl, (by rw [Nat.zero_min]; rfl), rfl, trivial⟩ (by repeat (first | exact Le.refl _ | assumption | apply Le.drop)) (fun k x hlt hp => ?_) (fun x ac wc hp hS hM => ?_)
  · skip
    have hsl := setOf_lt (F.under arg) (min k v)
    have h24 := pow24 (k := min k v) (by omega)
    refine Tri.seq (Tri.region ?_)
    refine TOps.move rfl rfl ?_
    refine TOps.indexAddr (off' := k) rfl rfl Try.underlying68 ti4 (by omega) (by omega) (by simp) rfl ?_
    refine TOps.load1 (v := .bool ((F.under arg).getD k false)) rfl ti4 (Rd.lit (List.Mem.head _) (bools_get (by omega))) rfl ?_
    refine TOps.assign rfl rfl ?_
    refine TOps.assign rfl rfl ?_
    refine TOps.next ?_
    refine Tri.seq (Tri.region ?_)
    refine TOps.move rfl rfl ?_
    refine TOps.move rfl rfl ?_
    refine' TOps.andB 4 rfl rfl rfl rfl (fun hg7_1 => ?_) ?_; rotate_left
    · have hg7_1' := hg7_1
      try simp only [decide_eq_true_eq, decide_eq_false_iff_not, Bool.and_eq_true, Bool.or_eq_true, Bool.not_eq_true', Bool.and_eq_false_iff, Bool.or_eq_false_iff, Bool.not_eq_false', Int.not_lt, Int.not_le, ne_eq, Decidable.not_not] at hg7_1'
      refine TOps.strip 1 true rfl rfl hg7_1 rfl ?_
      refine TOps.move rfl rfl ?_
      refine TOps.field0 rfl Try.underlying24 rfl rfl ti3 rfl rfl rfl ?_
      refine TOps.load1 rfl ti3 (by first | exact Rd.lit (by repeat (first | exact List.Mem.head _ | apply List.Mem.tail)) rfl | (repeat (first | assumption | exact Rd.fld (by assumption) 0 rfl | apply Rd.up))) rfl ?_
      refine TOps.lss rfl rfl rfl ?_
      refine TOps.blk rfl (by repeat (first | exact Ext.refl _ | refine Ext.cons rfl ?_)) (by repeat (first | exact Le.refl _ | apply Le.drop))
    refine TOps.next ?_
    refine Tri.cond rfl (fun hc2 => ?_) (fun hc2 => ?_)
    · try simp only [decide_eq_true_eq, decide_eq_false_iff_not, Bool.and_eq_true, Bool.or_eq_true, Bool.not_eq_true', Bool.and_eq_false_iff, Bool.or_eq_false_iff, Bool.not_eq_false', Int.not_lt, Int.not_le, ne_eq, Decidable.not_not, Option.isSome_iff_ne_none, Option.isNone_iff_eq_none] at hc2
      have hkv : k < v := by omega
      have h24' := pow24 (k := k) (by omega)
      have hx : ((F.under arg).getD k false && decide ((k : Int) < (v : Int))) = true := by rw [hc2.1, decide_eq_true hc2.2]; rfl
      have hst := setOf_min (F.under arg) v k
      rw [hx] at hst
      refine Tri.region ?_
      refine TOps.move rfl rfl ?_
      refine TOps.move rfl rfl ?_
      refine TOps.shl (r := ((2 ^ k : Nat) : Int)) rfl rfl (by omega) (by rw [Int.toNat_natCast]; exact ishl_one (by omega)) rfl ?_
      refine TOps.or rfl rfl (ior_nat (by omega) (by omega)) rfl ?_
      refine TOps.assign rfl rfl ?_
      refine TOps.fin ?_
      refine Nrm.body () trivial ⟨rfl, rfl, rfl, (by refine congrArg (fun z : Int => some (Value.int .i64 z)) ?_; rw [hst]; rfl), rfl, trivial⟩ (by repeat (first | exact Le.refl _ | assumption | apply Le.drop))
    try simp only [decide_eq_true_eq, decide_eq_false_iff_not, Bool.and_eq_true, Bool.or_eq_true, Bool.not_eq_true', Bool.and_eq_false_iff, Bool.or_eq_false_iff, Bool.not_eq_false', Int.not_lt, Int.not_le, ne_eq, Decidable.not_not, Option.isSome_iff_ne_none, Option.isNone_iff_eq_none] at hc2
    have hx : ((F.under arg).getD k false && decide ((k : Int) < (v : Int))) = false := by rcases hc2 with h | h; (rw [h]; rfl); (rw [decide_eq_false (by omega), Bool.and_false])
    have hst := setOf_min (F.under arg) v k
    rw [hx] at hst
    refine Tri.fin ?_
    refine Nrm.body () trivial ⟨rfl, rfl, rfl, (by refine congrArg (fun z : Int => some (Value.int .i64 z)) ?_; rw [hst]; rfl), rfl, trivial⟩ (by repeat (first | exact Le.refl _ | assumption | apply Le.drop))
  refine Nrm.of hS hM ?_
  refine Nrm.next ?_
  refine Tri.seq (Tri.region ?_)
  refine TOps.move rfl rfl ?_
  refine TOps.assign rfl rfl ?_
  refine TOps.next ?_
  refine Tri.ret1 (H' := H) Try.results60 (fun _ _ h => h) (.tmp rfl) (Le.drop l1) ⟨by rw [hevs, if_neg (by omega), hvn, show min (v + F.nodes.length) v = v by omega], rfl⟩
end Go.Proofs
