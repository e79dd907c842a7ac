import Derived.Test.YtbpjjepiblomaaaW08
import Derived.Test.YtbpjjepiblomaaaGL26
namespace Go.Proofs
open Go.GL
set_option linter.unusedVariables false
set_option linter.unusedSimpArgs false
theorem mbelow_g {H : List Ent} {fv : Value} {F : Fm} (hF : RF H fv F) (hg : F.Good) (arg : Nat) (ha : arg < F.vars.toNat + F.nodes.length) :
    Gives Try.prog 58 [fv, .int .i64 arg] H (fun u H' => ∃ b cap, u = slV (some b) 0 (F.vars.toNat + F.nodes.length) cap ∧ row (some b) 4 1 cap (bools (F.under arg)) :: H = H') := by
  obtain ⟨na, noff, ncap, nsp, rfl, hN⟩ := hF
  have g0 := hg.v0; have g1 := hg.v1; have g2 := hg.n1; have gt := hg.topLt
  obtain ⟨v, hv⟩ := Int.eq_ofNat_of_zero_le g0
  have hvn : F.vars.toNat = v := by omega
  rw [hvn] at ha ⊢
  rw [hv]
  obtain ⟨U, hU⟩ : ∃ U, U = F.under arg := ⟨_, rfl⟩
  rw [← hU]
  refine Gives.enter Try.func58 rfl (by exact Try.ntmps58) rfl ?_
  refine Tri.seq (Tri.region ?_)
  refine TOps.boxN rfl ti24 rfl rfl (fun b2 => ?_)
  refine TOps.hide (fun H1 l1 s1 r1 => ?_)
  replace hN := hN.le l1
  refine TOps.assign rfl rfl ?_
  refine TOps.next ?_
  refine Tri.seq (Tri.region ?_)
  refine TOps.field0 rfl Try.underlying24 rfl rfl ti3 rfl rfl rfl ?_
  refine TOps.load1 rfl ti3 (by first | exact Rd.lit (by repeat (first | exact List.Mem.head _ | apply List.Mem.tail)) rfl | (repeat (first | assumption | exact Rd.fld (by assumption) 0 rfl | apply Rd.up))) rfl ?_
  first | refine TOps.fieldB 1 rfl Try.underlying24 rfl rfl ti22 rfl rfl rfl ?_ | refine TOps.fieldN 1 rfl Try.underlying24 rfl rfl ti22 rfl rfl rfl ?_
  refine TOps.load1 rfl ti22 (by first | exact Rd.lit (by repeat (first | exact List.Mem.head _ | apply List.Mem.tail)) rfl | (repeat (first | assumption | exact Rd.fld (by assumption) 1 rfl | apply Rd.up))) rfl ?_
  refine TOps.len rfl Try.underlying22 rfl ?_
  refine TOps.add (r := ((v + F.nodes.length : Nat) : Int)) rfl rfl (by rw [wrapI (by omega) (by omega)]; omega) rfl ?_
  refine TOps.make1 rfl rfl Try.underlying68 ti4 (by omega) (by omega) (by omega) rfl (fun b15 => ?_)
  refine TOps.assign rfl rfl ?_
  refine TOps.next ?_
  refine Tri.seq ?_
  refine Tri.seq (Tri.region ?_)
  refine TOps.move rfl rfl ?_
  refine TOps.field0 rfl Try.underlying24 rfl rfl ti3 rfl rfl rfl ?_
  refine TOps.load1 rfl ti3 (by first | exact Rd.lit (by repeat (first | exact List.Mem.head _ | apply List.Mem.tail)) rfl | (repeat (first | assumption | exact Rd.fld (by assumption) 0 rfl | apply Rd.up))) rfl ?_
  refine TOps.lss rfl rfl rfl ?_
  refine TOps.next ?_
  refine Tri.cond rfl (fun hc1 => ?_) (fun hc1 => ?_)
  · try simp only [decide_eq_true_eq, decide_eq_false_iff_not, Bool.and_eq_true, Bool.or_eq_true, Bool.not_eq_true', Bool.and_eq_false_iff, Bool.or_eq_false_iff, Bool.not_eq_false', Int.not_lt, Int.not_le, ne_eq, Decidable.not_not, Option.isSome_iff_ne_none, Option.isNone_iff_eq_none] at hc1
    refine Tri.seq (Tri.region ?_)
    refine TOps.move rfl rfl ?_
    refine TOps.assign rfl rfl ?_
    refine TOps.next ?_
    have hU' : List.replicate (v + F.nodes.length) (Value.bool false) = bools U := by rw [hU]; unfold Fm.under; rw [hvn, if_pos (by omega)]; simp
    refine Tri.ret1 (H' := _) Try.results58 (fun _ _ h => h) (.tmp rfl) (Le.trans (Le.consOf s1) (Le.rowEq hU')) ⟨b15, v + F.nodes.length, rfl, rfl⟩
  try simp only [decide_eq_true_eq, decide_eq_false_iff_not, Bool.and_eq_true, Bool.or_eq_true, Bool.not_eq_true', Bool.and_eq_false_iff, Bool.or_eq_false_iff, Bool.not_eq_false', Int.not_lt, Int.not_le, ne_eq, Decidable.not_not, Option.isSome_iff_ne_none, Option.isNone_iff_eq_none] at hc1
  obtain ⟨t, rfl⟩ : ∃ t, arg = v + t := ⟨arg - v, by omega⟩
  have htn : t < F.nodes.length := by omega
  have hres : belowL v F.nodes t (markArgs (List.replicate (v + F.nodes.length) false) (F.nodes.getD t ⟨0, 0, []⟩).args) = U := by rw [hU]; unfold Fm.under; rw [hvn, if_neg (by omega), Nat.add_sub_cancel_left]
  refine Tri.fin ?_
  refine Nrm.next ?_
  refine Tri.seq ?_
  refine Tri.seq (Tri.region ?_)
  refine TOps.move rfl rfl ?_
  refine TOps.field0 rfl Try.underlying24 rfl rfl ti3 rfl rfl rfl ?_
  refine TOps.load1 rfl ti3 (by first | exact Rd.lit (by repeat (first | exact List.Mem.head _ | apply List.Mem.tail)) rfl | (repeat (first | assumption | exact Rd.fld (by assumption) 0 rfl | apply Rd.up))) rfl ?_
  refine TOps.sub (r := (t : Int)) rfl rfl (by rw [wrapI (by omega) (by omega)]; omega) rfl ?_
  refine TOps.assign rfl rfl ?_
  refine TOps.next ?_
  refine Tri.block ?_
  refine Tri.loop (X := Nat × List Bool) (fun x => [(1, .int .i64 ((v + t : Nat) : Int)), (2, .pointer (some ⟨b2, 0, none⟩)), (5, slV (some b15) 0 (v + F.nodes.length) (v + F.nodes.length)), (6, .int .i64 ((x.1 : Int) - 1))]) (fun x => row (some b15) 4 1 (v + F.nodes.length) (bools x.2) :: H1) (fun x => x.1 ≤ t + 1 ∧ x.2.length = v + F.nodes.length ∧ (if x.1 = t + 1 then belowL v F.nodes t (markArgs x.2 (F.nodes.getD t ⟨0, 0, []⟩).args) else belowL v F.nodes x.1 x.2) = U) (fun x => x.1) (t + 1, List.replicate (v + F.nodes.length) false) ⟨Nat.le_refl _, by simp, by rw [if_pos rfl]; exact hres⟩ ⟨rfl, rfl, rfl, (by refine congrArg (fun z : Int => some (Value.int .i64 z)) ?_; simp), trivial⟩ (Le.rowEq (by simp)) (fun x hp => ?_)
  obtain ⟨i, m⟩ := x
  obtain ⟨hp1, hp2, hp3⟩ := hp
  dsimp only at hp1 hp2 hp3 ⊢
  refine Tri.seq ?_
  refine Tri.seq (Tri.region ?_)
  refine TOps.move rfl rfl ?_
  refine TOps.geq rfl rfl rfl ?_
  refine TOps.next ?_
  refine Tri.cond rfl (fun hc2 => ?_) (fun hc2 => ?_)
  · try simp only [decide_eq_true_eq, decide_eq_false_iff_not, Bool.and_eq_true, Bool.or_eq_true, Bool.not_eq_true', Bool.and_eq_false_iff, Bool.or_eq_false_iff, Bool.not_eq_false', Int.not_lt, Int.not_le, ne_eq, Decidable.not_not, Option.isSome_iff_ne_none, Option.isNone_iff_eq_none] at hc2
    obtain ⟨i, rfl⟩ : ∃ j, i = j + 1 := ⟨i - 1, by omega⟩
    have hi : i < F.nodes.length := by omega
    have e1 : ((i + 1 : Nat) : Int) - 1 = i := by omega
    refine Tri.fin ?_
    refine Nrm.next ?_
    refine Tri.seq ?_
    refine Tri.block ?_
    refine Tri.seq (Tri.region ?_)
    refine TOps.move rfl rfl ?_
    refine TOps.move rfl rfl ?_
    refine TOps.field0 rfl Try.underlying24 rfl rfl ti3 rfl rfl rfl ?_
    refine TOps.load1 rfl ti3 (by first | exact Rd.lit (by repeat (first | exact List.Mem.head _ | apply List.Mem.tail)) rfl | (repeat (first | assumption | exact Rd.fld (by assumption) 0 rfl | apply Rd.up))) rfl ?_
    refine TOps.sub (r := (t : Int)) rfl rfl (by rw [wrapI (by omega) (by omega)]; omega) rfl ?_
    refine TOps.eqlI rfl rfl rfl ?_
    refine TOps.move rfl rfl ?_
    refine' TOps.orB 7 rfl rfl rfl rfl (fun hg7_6 => ?_) ?_; rotate_left
    · have hg7_6' := hg7_6
      try simp only [decide_eq_true_eq, decide_eq_false_iff_not, Bool.and_eq_true, Bool.or_eq_true, Bool.not_eq_true', Bool.and_eq_false_iff, Bool.or_eq_false_iff, Bool.not_eq_false', Int.not_lt, Int.not_le, ne_eq, Decidable.not_not] at hg7_6'
      refine TOps.strip 6 false rfl rfl hg7_6 rfl ?_
      refine TOps.move rfl rfl ?_
      refine TOps.field0 rfl Try.underlying24 rfl rfl ti3 rfl rfl rfl ?_
      refine TOps.load1 rfl ti3 (by first | exact Rd.lit (by repeat (first | exact List.Mem.head _ | apply List.Mem.tail)) rfl | (repeat (first | assumption | exact Rd.fld (by assumption) 0 rfl | apply Rd.up))) rfl ?_
      refine TOps.move rfl rfl ?_
      refine TOps.add (r := ((v + i : Nat) : Int)) rfl rfl (by rw [wrapI (by omega) (by omega)]; omega) rfl ?_
      refine TOps.indexAddr (off' := v + i) rfl rfl Try.underlying68 ti4 (by omega) (by omega) (by omega) rfl ?_
      refine TOps.load1 (v := .bool (m.getD (v + i) false)) rfl ti4 (Rd.lit (List.Mem.head _) (bools_get (by omega))) rfl ?_
      refine TOps.blk rfl (by repeat (first | exact Ext.refl _ | refine Ext.cons rfl ?_)) (by repeat (first | exact Le.refl _ | apply Le.drop))
    refine TOps.next ?_
    refine Tri.cond rfl (fun hc3 => ?_) (fun hc3 => ?_)
    · try simp only [decide_eq_true_eq, decide_eq_false_iff_not, Bool.and_eq_true, Bool.or_eq_true, Bool.not_eq_true', Bool.and_eq_false_iff, Bool.or_eq_false_iff, Bool.not_eq_false', Int.not_lt, Int.not_le, ne_eq, Decidable.not_not, Option.isSome_iff_ne_none, Option.isNone_iff_eq_none] at hc3
      have hcb : (decide (i = t) || m.getD (v + i) false) = true := by
        rcases hc3 with h | h
        · rw [decide_eq_true (by omega), Bool.true_or]
        · rw [h, Bool.or_true]
      refine Tri.seq (Tri.region ?_)
      obtain ⟨nb, aa, ao, acap, asp, rfl, rfl, hn⟩ := hN.at hi
      have hfi := hg.fits i hi
      have hcells := hn.cells
      have hal := hfi.len
      first | refine TOps.fieldB 1 rfl Try.underlying24 rfl rfl ti22 rfl rfl rfl ?_ | refine TOps.fieldN 1 rfl Try.underlying24 rfl rfl ti22 rfl rfl rfl ?_
      refine TOps.load1 rfl ti22 (by first | exact Rd.lit (by repeat (first | exact List.Mem.head _ | apply List.Mem.tail)) rfl | (repeat (first | assumption | exact Rd.fld (by assumption) 1 rfl | apply Rd.up))) rfl ?_
      refine TOps.move rfl rfl ?_
      refine TOps.indexAddr (off' := noff + i * 3) rfl rfl Try.underlying22 ti66 (by omega) (by omega) (by rw [e1]; simp) rfl ?_
      refine TOps.fieldN 2 rfl Try.underlying66 rfl rfl ti50 rfl rfl rfl ?_
      refine TOps.load1 rfl ti50 (Rd.up (hcells.part 2 rfl)) rfl ?_
      refine TOps.len rfl Try.underlying50 rfl ?_
      refine TOps.move rfl rfl ?_
      refine TOps.next ?_
      refine Tri.range (X := Unit) (fun y j => [(1, .int .i64 ((v + t : Nat) : Int)), (2, .pointer (some ⟨b2, 0, none⟩)), (5, slV (some b15) 0 (v + F.nodes.length) (v + F.nodes.length)), (6, .int .i64 (((i + 1 : Nat) : Int) - 1)), (49, slV aa ao F.nodes[i].args.length acap asp)]) (fun y j => row (some b15) 4 1 (v + F.nodes.length) (bools (markArgs m (F.nodes[i].args.take j))) :: H1) (fun y j => True) (by omega) rfl rfl rfl (fun _ _ => ⟨rfl, rfl, rfl, rfl⟩) () trivial ⟨rfl, rfl, rfl, rfl, rfl, trivial⟩ (by repeat (first | exact Le.refl _ | assumption | apply Le.drop)) (fun j y hltj hpj => ?_) (fun y ac wc hpj hS hM => ?_)
      · skip
        obtain ⟨ab, rfl, rfl, ha⟩ := hn.args.at hltj
        have hb := hfi.args _ (List.getElem_mem hltj)
        have hml := markArgs_length (F.nodes[i].args.take j) m
        refine Tri.seq (Tri.region ?_)
        refine TOps.indexAddr (off' := ao + j) rfl rfl Try.underlying50 ti3 (by omega) (by omega) (by simp) rfl ?_
        refine TOps.load1 rfl ti3 (by first | exact Rd.lit (by repeat (first | exact List.Mem.head _ | apply List.Mem.tail)) rfl | (repeat (first | assumption | apply Rd.up))) rfl ?_
        refine TOps.assign rfl rfl ?_
        refine TOps.next ?_
        refine Tri.region ?_
        refine TOps.move rfl rfl ?_
        refine TOps.move rfl rfl ?_
        refine TOps.indexAddr (off' := F.nodes[i].args[j].toNat) rfl rfl Try.underlying68 ti4 (by omega) (by omega) (by simp) rfl ?_
        refine TOps.store1 rfl rfl ti4 rfl rfl Upd.here (by simp; omega) ?_
        refine TOps.fin ?_
        refine Nrm.body () trivial ⟨rfl, rfl, rfl, rfl, rfl, rfl, rfl, trivial⟩ (Le.rowEq (by rw [markArgs_take_succ hltj]; simp [bools]))
      rw [List.take_length] at hM
      refine Nrm.of hS hM ?_
      refine Nrm.unB ?_
      refine Nrm.next ?_
      refine Tri.region ?_
      refine TOps.move rfl rfl ?_
      refine TOps.sub rfl rfl (wrapI (by omega) (by omega)) rfl ?_
      refine TOps.assign rfl rfl ?_
      refine TOps.fin ?_
      refine Nrm.loop (i, bif (decide (i = t) || m.getD (v + i) false) then markArgs m (F.nodes.getD i ⟨0, 0, []⟩).args else m) ⟨by simp only; omega, by cases (decide (i = t) || m.getD (v + i) false) <;> simp [markArgs_length, hp2], by
        simp only
        rw [if_neg (by omega), ← hp3]
        by_cases e : i = t
        · subst e; rw [if_pos rfl, decide_eq_true rfl]; rfl
        · rw [if_neg (by omega), decide_eq_false e, Bool.false_or]; rfl⟩ (by simp) ⟨rfl, rfl, rfl, (by refine congrArg (fun z : Int => some (Value.int .i64 z)) ?_; simp), trivial⟩ (by rw [show F.nodes.getD i ⟨0, 0, []⟩ = F.nodes[i] from by simp [hi], hcb]; exact Le.refl _)
    try simp only [decide_eq_true_eq, decide_eq_false_iff_not, Bool.and_eq_true, Bool.or_eq_true, Bool.not_eq_true', Bool.and_eq_false_iff, Bool.or_eq_false_iff, Bool.not_eq_false', Int.not_lt, Int.not_le, ne_eq, Decidable.not_not, Option.isSome_iff_ne_none, Option.isNone_iff_eq_none] at hc3
    have hcb : (decide (i = t) || m.getD (v + i) false) = false := by rw [decide_eq_false (by omega), hc3.2]; rfl
    refine Tri.fin ?_
    refine Nrm.unB ?_
    refine Nrm.next ?_
    refine Tri.region ?_
    refine TOps.move rfl rfl ?_
    refine TOps.sub rfl rfl (wrapI (by omega) (by omega)) rfl ?_
    refine TOps.assign rfl rfl ?_
    refine TOps.fin ?_
    refine Nrm.loop (i, bif (decide (i = t) || m.getD (v + i) false) then markArgs m (F.nodes.getD i ⟨0, 0, []⟩).args else m) ⟨by simp only; omega, by cases (decide (i = t) || m.getD (v + i) false) <;> simp [markArgs_length, hp2], by
      simp only
      rw [if_neg (by omega), ← hp3]
      by_cases e : i = t
      · subst e; rw [if_pos rfl, decide_eq_true rfl]; rfl
      · rw [if_neg (by omega), decide_eq_false e, Bool.false_or]; rfl⟩ (by simp) ⟨rfl, rfl, rfl, (by refine congrArg (fun z : Int => some (Value.int .i64 z)) ?_; simp), trivial⟩ (by rw [show F.nodes.getD i ⟨0, 0, []⟩ = F.nodes[i] from by simp [hi], hcb]; exact Le.refl _)
  try simp only [decide_eq_true_eq, decide_eq_false_iff_not, Bool.and_eq_true, Bool.or_eq_true, Bool.not_eq_true', Bool.and_eq_false_iff, Bool.or_eq_false_iff, Bool.not_eq_false', Int.not_lt, Int.not_le, ne_eq, Decidable.not_not, Option.isSome_iff_ne_none, Option.isNone_iff_eq_none] at hc2
  obtain rfl : i = 0 := by omega
  rw [if_neg (by omega)] at hp3
  have hp3' : m = U := hp3
  subst hp3'
  first | refine Tri.exitW ?_ | (refine Tri.exitTo ?_; repeat (with_reducible first | refine ExitTo.blk ?_ | refine ExitTo.blkNe rfl ?_ | refine ExitTo.body ?_ | refine ExitTo.brk rfl ?_ | refine ExitTo.bodyNe rfl rfl ?_ | refine ExitTo.seq ?_ | refine ExitTo.loop ?_))
  refine Nrm.next ?_
  refine Tri.seq (Tri.region ?_)
  refine TOps.move rfl rfl ?_
  refine TOps.assign rfl rfl ?_
  refine TOps.next ?_
  refine Tri.ret1 (H' := _) Try.results58 (fun _ _ h => h) (.tmp rfl) (Le.consOf s1) ⟨b15, v + F.nodes.length, rfl, rfl⟩
theorem needed_g {H : List Ent} {fv : Value} {F : Fm} (hF : RF H fv F) (hg : F.Good) :
    Gives Try.prog 49 [fv] H (fun u H' => ∃ b cap, u = slV (some b) 0 (F.vars.toNat + F.nodes.length) cap ∧ row (some b) 4 1 cap (bools F.below) :: H = H') := by
  have hF0 := hF
  obtain ⟨na, noff, ncap, nsp, rfl, hN⟩ := hF
  have g0 := hg.v0; have g1 := hg.v1; have g2 := hg.n1; have gt := hg.topLt
  obtain ⟨t, ht⟩ := Int.eq_ofNat_of_zero_le gt.1
  have hul := F.under_length t
  rw [← Fm.needed_eq hg, show F.top.toNat = t by omega]
  rw [ht] at hF0 ⊢
  refine Gives.enter Try.func49 rfl (by exact Try.ntmps49) rfl ?_
  refine Tri.seq (Tri.region ?_)
  refine TOps.boxN rfl ti24 rfl rfl (fun b1 => ?_)
  refine TOps.hide (fun H1 l1 s1 r1 => ?_)
  replace hF0 := hF0.le l1
  refine TOps.assign rfl rfl ?_
  refine TOps.next ?_
  refine Tri.seq (Tri.region ?_)
  refine TOps.loadN rfl ti24 (by first | exact Rd.all (by repeat (first | exact List.Mem.head _ | apply List.Mem.tail)) | (repeat (first | assumption | apply Rd.up))) rfl rfl ?_
  first | refine TOps.fieldB 2 rfl Try.underlying24 rfl rfl ti3 rfl rfl rfl ?_ | refine TOps.fieldN 2 rfl Try.underlying24 rfl rfl ti3 rfl rfl rfl ?_
  refine TOps.load1 rfl ti3 (by first | exact Rd.lit (by repeat (first | exact List.Mem.head _ | apply List.Mem.tail)) rfl | (repeat (first | assumption | exact Rd.fld (by assumption) 2 rfl | apply Rd.up))) rfl ?_
  refine TOps.call (vs := [_, _]) Try.call58 ⟨rfl, rfl, trivial⟩ (mbelow_g hF0 hg t (by omega)) rfl ?_
  rintro _ _ ⟨b, cp, rfl, rfl⟩
  refine TOps.assign rfl rfl ?_
  refine TOps.next ?_
  refine Tri.seq (Tri.region ?_)
  refine TOps.move rfl rfl ?_
  first | refine TOps.fieldB 2 rfl Try.underlying24 rfl rfl ti3 rfl rfl rfl ?_ | refine TOps.fieldN 2 rfl Try.underlying24 rfl rfl ti3 rfl rfl rfl ?_
  refine TOps.load1 rfl ti3 (by first | exact Rd.lit (by repeat (first | exact List.Mem.head _ | apply List.Mem.tail)) rfl | (repeat (first | assumption | exact Rd.fld (by assumption) 2 rfl | apply Rd.up))) rfl ?_
  refine TOps.indexAddr (off' := t) rfl rfl Try.underlying68 ti4 (by omega) (by omega) (by simp) rfl ?_
  refine TOps.store1 rfl rfl ti4 rfl rfl Upd.here (by simp; omega) ?_
  refine TOps.next ?_
  refine Tri.seq (Tri.region ?_)
  refine TOps.move rfl rfl ?_
  refine TOps.assign rfl rfl ?_
  refine TOps.next ?_
  refine Tri.ret1 (H' := _) Try.results49 (fun _ _ h => h) (.tmp rfl) (Le.trans (Le.consOf s1) (Le.rowEq (by simp [bools]))) ⟨b, cp, rfl, rfl⟩
theorem module_g {H : List Ent} {fv : Value} {F : Fm} (hF : RF H fv F) (hg : F.Good) {nb cp : Nat} (hr : Rd H nb 0 (bools F.below)) (t : Nat) (ht : t < F.nodes.length) {q : Nat} (hq : F.vars.toNat = q) :
    Gives Try.prog 50 [fv, slV (some nb) 0 (q + F.nodes.length) cp, .int .i64 ((q + t : Nat) : Int)] H (R1 (.bool (F.isMod (q + t))) H) := by
  subst hq
  have hF0 := hF
  obtain ⟨na, noff, ncap, nsp, rfl, hN⟩ := hF
  have g0 := hg.v0; have g1 := hg.v1; have g2 := hg.n1; have gt := hg.topLt
  obtain ⟨v, hv⟩ := Int.eq_ofNat_of_zero_le g0
  have hvn : F.vars.toNat = v := by omega
  have hbl := F.below_length
  have hul := F.under_length (v + t)
  have hmod : F.isMod (v + t) = ((F.under (v + t)).any id && !(F.under (v + t)).getD F.top.toNat false && (List.range F.nodes.length).all (F.modAt (v + t))) := rfl
  have hmat : ∀ i, F.modAt (v + t) i = (!F.below.getD (v + i) false || Nat.beq (v + i) (v + t) || (F.under (v + t)).getD (v + i) false || (F.nodes.getD i ⟨0, 0, []⟩).args.all (fun a => !(F.under (v + t)).getD a.toNat false)) := fun i => by unfold Fm.modAt; rw [hvn]
  rw [hvn] at hul hbl ⊢
  have hbe := @mbelow_g
  rw [hv] at hF0 ⊢
  refine Gives.enter Try.func50 rfl (by exact Try.ntmps50) rfl ?_
  refine Tri.seq (Tri.region ?_)
  refine TOps.boxN rfl ti24 rfl rfl (fun b3 => ?_)
  refine TOps.hide (fun H1 l1 s1 r1 => ?_)
  replace hF0 := hF0.le l1; replace hN := hN.le l1; replace hr := hr.le l1
  refine TOps.assign rfl rfl ?_
  refine TOps.next ?_
  refine Tri.seq (Tri.region ?_)
  refine TOps.loadN rfl ti24 (by first | exact Rd.all (by repeat (first | exact List.Mem.head _ | apply List.Mem.tail)) | (repeat (first | assumption | apply Rd.up))) rfl rfl ?_
  refine TOps.move rfl rfl ?_
  refine TOps.call (vs := [_, _]) Try.call58 ⟨rfl, rfl, trivial⟩ (mbelow_g hF0 hg (v + t) (by omega)) rfl ?_
  rintro _ _ ⟨b, cpu, rfl, rfl⟩
  rw [hvn]
  refine TOps.hide (fun H2 l2 s2 ru => ?_)
  replace hF0 := hF0.le l2; replace hN := hN.le l2; replace r1 := r1.le l2; replace hr := hr.le l2; have l3 := l2.trans l1
  have hld : ∀ j, j < v + F.nodes.length → Rd H2 b j [.bool ((F.under (v + t)).getD j false)] := fun j hj => by have := ru.part j (bools_get (by omega)); rwa [Nat.zero_add] at this
  have hln : ∀ j, j < v + F.nodes.length → Rd H2 nb j [.bool (F.below.getD j false)] := fun j hj => by have := hr.part j (bools_get (by omega)); rwa [Nat.zero_add] at this
  refine TOps.assign rfl rfl ?_
  refine TOps.next ?_
  refine Tri.seq (Tri.region ?_)
  refine TOps.assign rfl rfl ?_
  refine TOps.next ?_
  refine Tri.seq ?_
  refine Tri.seq (Tri.region ?_)
  refine TOps.move rfl rfl ?_
  refine TOps.len rfl Try.underlying68 rfl ?_
  refine TOps.move rfl rfl ?_
  refine TOps.next ?_
  refine Tri.range (X := Unit) (fun x k => [(1, slV (some nb) 0 (v + F.nodes.length) cp), (2, .int .i64 ((v + t : Nat) : Int)), (3, .pointer (some ⟨b3, 0, none⟩)), (7, slV (some b) 0 (v + F.nodes.length) cpu), (8, .bool (((F.under (v + t)).take k).any id)), (19, slV (some b) 0 (v + F.nodes.length) cpu)]) (fun x k => H2) (fun x k => True) (by omega) rfl rfl rfl (fun _ _ => ⟨rfl, rfl, rfl, rfl⟩) () trivial ⟨rfl, rfl, rfl, rfl, rfl, rfl, trivial⟩ (by repeat (first | exact Le.refl _ | assumption | apply Le.drop)) (fun k x hlt hp => ?_) (fun x ac wc hp hS hM => ?_)
  · skip
    refine Tri.seq (Tri.region ?_)
    refine TOps.indexAddr (off' := k) rfl rfl Try.underlying68 ti4 (by omega) (by omega) (by simp) rfl ?_
    refine TOps.load1 rfl ti4 (hld k hlt) rfl ?_
    refine TOps.assign rfl rfl ?_
    refine TOps.next ?_
    refine Tri.region ?_
    refine TOps.move rfl rfl ?_
    refine TOps.move rfl rfl ?_
    refine' TOps.orB 1 rfl rfl rfl rfl (fun hg6_1 => ?_) ?_; rotate_left
    · have hg6_1' := hg6_1
      try simp only [decide_eq_true_eq, decide_eq_false_iff_not, Bool.and_eq_true, Bool.or_eq_true, Bool.not_eq_true', Bool.and_eq_false_iff, Bool.or_eq_false_iff, Bool.not_eq_false', Int.not_lt, Int.not_le, ne_eq, Decidable.not_not] at hg6_1'
      refine TOps.strip 1 false rfl rfl hg6_1 rfl ?_
      refine TOps.move rfl rfl ?_
      refine TOps.blk rfl (by repeat (first | exact Ext.refl _ | refine Ext.cons rfl ?_)) (by repeat (first | exact Le.refl _ | apply Le.drop))
    refine TOps.assign rfl rfl ?_
    refine TOps.fin ?_
    refine Nrm.body () trivial ⟨rfl, rfl, rfl, rfl, rfl, rfl, (by refine congrArg (fun z : Bool => some (Value.bool z)) ?_; rw [any_take_succ (by omega)]), rfl, trivial⟩ (by repeat (first | exact Le.refl _ | assumption | apply Le.drop))
  rw [show v + F.nodes.length = (F.under (v + t)).length by omega, List.take_length] at hS
  rw [← show v + F.nodes.length = (F.under (v + t)).length by omega] at hS
  refine Nrm.of hS hM ?_
  refine Nrm.next ?_
  refine Tri.seq ?_
  refine Tri.seq (Tri.region ?_)
  refine TOps.move rfl rfl ?_
  refine TOps.not rfl rfl ?_
  refine TOps.move rfl rfl ?_
  refine' TOps.orB 5 rfl rfl rfl rfl (fun hg8_2 => ?_) ?_; rotate_left
  · have hg8_2' := hg8_2
    try simp only [decide_eq_true_eq, decide_eq_false_iff_not, Bool.and_eq_true, Bool.or_eq_true, Bool.not_eq_true', Bool.and_eq_false_iff, Bool.or_eq_false_iff, Bool.not_eq_false', Int.not_lt, Int.not_le, ne_eq, Decidable.not_not] at hg8_2'
    refine TOps.strip 2 false rfl rfl hg8_2 rfl ?_
    refine TOps.move rfl rfl ?_
    first | refine TOps.fieldB 2 rfl Try.underlying24 rfl rfl ti3 rfl rfl rfl ?_ | refine TOps.fieldN 2 rfl Try.underlying24 rfl rfl ti3 rfl rfl rfl ?_
    refine TOps.load1 rfl ti3 (by first | exact Rd.lit (by repeat (first | exact List.Mem.head _ | apply List.Mem.tail)) rfl | (repeat (first | assumption | exact Rd.fld (by assumption) 2 rfl | apply Rd.up))) rfl ?_
    refine TOps.indexAddr (off' := F.top.toNat) rfl rfl Try.underlying68 ti4 (by omega) (by omega) (by simp) rfl ?_
    refine TOps.load1 rfl ti4 (hld F.top.toNat (by omega)) rfl ?_
    refine TOps.blk rfl (by repeat (first | exact Ext.refl _ | refine Ext.cons rfl ?_)) (by repeat (first | exact Le.refl _ | apply Le.drop))
  refine TOps.next ?_
  refine Tri.cond rfl (fun hc1 => ?_) (fun hc1 => ?_)
  · try simp only [decide_eq_true_eq, decide_eq_false_iff_not, Bool.and_eq_true, Bool.or_eq_true, Bool.not_eq_true', Bool.and_eq_false_iff, Bool.or_eq_false_iff, Bool.not_eq_false', Int.not_lt, Int.not_le, ne_eq, Decidable.not_not, Option.isSome_iff_ne_none, Option.isNone_iff_eq_none] at hc1
    refine Tri.seq (Tri.region ?_)
    refine TOps.assign rfl rfl ?_
    refine TOps.next ?_
    refine Tri.ret1 (H' := H) Try.results50 (fun _ _ h => h) (.tmp rfl) l3 ⟨by rw [hmod]; rcases hc1 with h | h; (rw [h]; rfl); (rw [h]; simp), rfl⟩
  try simp only [decide_eq_true_eq, decide_eq_false_iff_not, Bool.and_eq_true, Bool.or_eq_true, Bool.not_eq_true', Bool.and_eq_false_iff, Bool.or_eq_false_iff, Bool.not_eq_false', Int.not_lt, Int.not_le, ne_eq, Decidable.not_not, Option.isSome_iff_ne_none, Option.isNone_iff_eq_none] at hc1
  refine Tri.fin ?_
  refine Nrm.next ?_
  refine Tri.seq ?_
  refine Tri.seq (Tri.region ?_)
  first | refine TOps.fieldB 1 rfl Try.underlying24 rfl rfl ti22 rfl rfl rfl ?_ | refine TOps.fieldN 1 rfl Try.underlying24 rfl rfl ti22 rfl rfl rfl ?_
  refine TOps.load1 rfl ti22 (by first | exact Rd.lit (by repeat (first | exact List.Mem.head _ | apply List.Mem.tail)) rfl | (repeat (first | assumption | exact Rd.fld (by assumption) 1 rfl | apply Rd.up))) rfl ?_
  refine TOps.len rfl Try.underlying22 rfl ?_
  refine TOps.move rfl rfl ?_
  refine TOps.next ?_
  refine Tri.range (X := Unit) (fun y k => [(1, slV (some nb) 0 (v + F.nodes.length) cp), (2, .int .i64 ((v + t : Nat) : Int)), (3, .pointer (some ⟨b3, 0, none⟩)), (7, slV (some b) 0 (v + F.nodes.length) cpu), (40, slV na noff F.nodes.length ncap nsp)]) (fun y k => H2) (fun y k => ∀ i, i < k → F.modAt (v + t) i = true) (by omega) rfl rfl rfl (fun _ _ => ⟨rfl, rfl, rfl, rfl⟩) () (by intro i h; omega) ⟨rfl, rfl, rfl, rfl, rfl, trivial⟩ (by repeat (first | exact Le.refl _ | assumption | apply Le.drop)) (fun k y hlt hp => ?_) (fun y ac wc hp hS hM => ?_)
  · skip
    obtain ⟨nb2, aa, ao, acap, asp, rfl, rfl, hn⟩ := hN.at hlt
    have hfi := hg.fits k hlt
    have hcells := hn.cells
    have hal := hfi.len
    have hmk := hmat k
    rw [show F.nodes.getD k ⟨0, 0, []⟩ = F.nodes[k] from by simp [hlt]] at hmk
    refine Tri.seq (Tri.region ?_)
    refine TOps.move rfl rfl ?_
    refine TOps.indexAddr (off' := noff + k * 3) rfl rfl Try.underlying22 ti66 (by omega) (by omega) (by simp) rfl ?_
    refine TOps.loadN rfl ti66 (by first | exact Rd.all (by repeat (first | exact List.Mem.head _ | apply List.Mem.tail)) | (repeat (first | assumption | apply Rd.up))) rfl rfl ?_
    refine TOps.alloc ti66 rfl (fun b12 => ?_)
    refine TOps.assign rfl rfl ?_
    refine TOps.storeN rfl rfl ti66 rfl rfl (by repeat (first | exact Upd.here | apply Upd.there)) (by first | decide | (simp; done) | (simp; omega)) ?_
    refine TOps.next ?_
    refine Tri.seq (Tri.region ?_)
    refine TOps.field0 rfl Try.underlying24 rfl rfl ti3 rfl rfl rfl ?_
    refine TOps.load1 rfl ti3 (by first | exact Rd.lit (by repeat (first | exact List.Mem.head _ | apply List.Mem.tail)) rfl | (repeat (first | assumption | exact Rd.fld (by assumption) 0 rfl | apply Rd.up))) rfl ?_
    refine TOps.move rfl rfl ?_
    refine TOps.add (r := ((v + k : Nat) : Int)) rfl rfl (by rw [wrapI (by omega) (by omega)]; omega) rfl ?_
    refine TOps.assign rfl rfl ?_
    refine TOps.next ?_
    refine Tri.seq ?_
    refine Tri.seq (Tri.region ?_)
    refine TOps.move rfl rfl ?_
    refine TOps.move rfl rfl ?_
    refine TOps.indexAddr (off' := v + k) rfl rfl Try.underlying68 ti4 (by omega) (by omega) (by omega) rfl ?_
    refine TOps.load1 rfl ti4 (Rd.up (hln (v + k) (by omega))) rfl ?_
    refine TOps.not rfl rfl ?_
    refine TOps.move rfl rfl ?_
    refine' TOps.orB 3 rfl rfl rfl rfl (fun hg14_5 => ?_) ?_; rotate_left
    · have hg14_5' := hg14_5
      try simp only [decide_eq_true_eq, decide_eq_false_iff_not, Bool.and_eq_true, Bool.or_eq_true, Bool.not_eq_true', Bool.and_eq_false_iff, Bool.or_eq_false_iff, Bool.not_eq_false', Int.not_lt, Int.not_le, ne_eq, Decidable.not_not] at hg14_5'
      refine TOps.strip 5 false rfl rfl hg14_5 rfl ?_
      refine TOps.move rfl rfl ?_
      refine TOps.move rfl rfl ?_
      refine TOps.eqlI rfl rfl rfl ?_
      refine TOps.blk rfl (by repeat (first | exact Ext.refl _ | refine Ext.cons rfl ?_)) (by repeat (first | exact Le.refl _ | apply Le.drop))
    refine TOps.move rfl rfl ?_
    refine' TOps.orB 4 rfl rfl rfl rfl (fun hg14_10 => ?_) ?_; rotate_left
    · have hg14_10' := hg14_10
      try simp only [decide_eq_true_eq, decide_eq_false_iff_not, Bool.and_eq_true, Bool.or_eq_true, Bool.not_eq_true', Bool.and_eq_false_iff, Bool.or_eq_false_iff, Bool.not_eq_false', Int.not_lt, Int.not_le, ne_eq, Decidable.not_not] at hg14_10'
      refine TOps.strip 10 false rfl rfl hg14_10 rfl ?_
      refine TOps.move rfl rfl ?_
      refine TOps.move rfl rfl ?_
      refine TOps.indexAddr (off' := v + k) rfl rfl Try.underlying68 ti4 (by omega) (by omega) (by omega) rfl ?_
      refine TOps.load1 rfl ti4 (Rd.up (hld (v + k) (by omega))) rfl ?_
      refine TOps.blk rfl (by repeat (first | exact Ext.refl _ | refine Ext.cons rfl ?_)) (by repeat (first | exact Le.refl _ | apply Le.drop))
    refine TOps.next ?_
    refine Tri.cond rfl (fun hc2 => ?_) (fun hc2 => ?_)
    · try simp only [decide_eq_true_eq, decide_eq_false_iff_not, Bool.and_eq_true, Bool.or_eq_true, Bool.not_eq_true', Bool.and_eq_false_iff, Bool.or_eq_false_iff, Bool.not_eq_false', Int.not_lt, Int.not_le, ne_eq, Decidable.not_not, Option.isSome_iff_ne_none, Option.isNone_iff_eq_none] at hc2
      refine Tri.exitTo ?_
      repeat (with_reducible first | refine ExitTo.blk ?_ | refine ExitTo.blkNe rfl ?_ | refine ExitTo.body ?_ | refine ExitTo.brk rfl ?_ | refine ExitTo.bodyNe rfl rfl ?_ | refine ExitTo.seq ?_ | refine ExitTo.loop ?_)
      have hok : F.modAt (v + t) k = true := by
        rw [hmk]
        rcases hc2 with (h | h) | h
        · rw [h]; rfl
        · rw [show v + k = v + t by omega]; simp
        · rw [h]; simp
      refine Nrm.body () (by intro i hi; rcases Nat.lt_succ_iff_lt_or_eq.1 hi with hi | rfl; exact hp i hi; exact hok) ⟨rfl, rfl, rfl, rfl, rfl, rfl, rfl, trivial⟩ (by repeat (first | exact Le.refl _ | assumption | apply Le.drop))
    try simp only [decide_eq_true_eq, decide_eq_false_iff_not, Bool.and_eq_true, Bool.or_eq_true, Bool.not_eq_true', Bool.and_eq_false_iff, Bool.or_eq_false_iff, Bool.not_eq_false', Int.not_lt, Int.not_le, ne_eq, Decidable.not_not, Option.isSome_iff_ne_none, Option.isNone_iff_eq_none] at hc2
    have hbq : Nat.beq (v + k) (v + t) = false := by
      cases h : Nat.beq (v + k) (v + t) with
      | false => rfl
      | true => exact absurd (by rw [Nat.eq_of_beq_eq_true h]) hc2.1.2
    rw [hc2.1.1, hbq, hc2.2, Bool.not_true, Bool.false_or, Bool.false_or, Bool.false_or] at hmk
    refine Tri.fin ?_
    refine Nrm.next ?_
    refine Tri.seq (Tri.region ?_)
    first | refine TOps.fieldB 2 rfl Try.underlying66 rfl rfl ti50 rfl rfl rfl ?_ | refine TOps.fieldN 2 rfl Try.underlying66 rfl rfl ti50 rfl rfl rfl ?_
    refine TOps.load1 rfl ti50 (by first | exact Rd.lit (by repeat (first | exact List.Mem.head _ | apply List.Mem.tail)) rfl | (repeat (first | assumption | exact Rd.fld (by assumption) 2 rfl | apply Rd.up))) rfl ?_
    refine TOps.len rfl Try.underlying50 rfl ?_
    refine TOps.move rfl rfl ?_
    refine TOps.next ?_
    refine Tri.range (X := Unit) (fun z j => [(1, slV (some nb) 0 (v + F.nodes.length) cp), (2, .int .i64 ((v + t : Nat) : Int)), (3, .pointer (some ⟨b3, 0, none⟩)), (7, slV (some b) 0 (v + F.nodes.length) cpu), (40, slV (some nb2) noff F.nodes.length ncap), (41, .int .i64 F.nodes.length), (42, .int .i64 k), (68, slV aa ao F.nodes[k].args.length acap asp)]) (fun z j => H2) (fun z j => ∀ i (hi : i < F.nodes[k].args.length), i < j → (F.under (v + t)).getD (F.nodes[k].args[i]).toNat false = false) (by omega) rfl rfl rfl (fun _ _ => ⟨rfl, rfl, rfl, rfl⟩) () (by intro i _ h; omega) ⟨rfl, rfl, rfl, rfl, rfl, rfl, rfl, rfl, trivial⟩ (by repeat (first | exact Le.refl _ | assumption | apply Le.drop)) (fun j z hltj hpj => ?_) (fun z ac wc hpj hS hM => ?_)
    · skip
      obtain ⟨ab, rfl, rfl, ha⟩ := hn.args.at hltj
      have hb := hfi.args _ (List.getElem_mem hltj)
      refine Tri.seq (Tri.region ?_)
      refine TOps.indexAddr (off' := ao + j) rfl rfl Try.underlying50 ti3 (by omega) (by omega) (by simp) rfl ?_
      refine TOps.load1 rfl ti3 (by first | exact Rd.lit (by repeat (first | exact List.Mem.head _ | apply List.Mem.tail)) rfl | (repeat (first | assumption | apply Rd.up))) rfl ?_
      refine TOps.assign rfl rfl ?_
      refine TOps.next ?_
      refine Tri.seq (Tri.region ?_)
      refine TOps.move rfl rfl ?_
      refine TOps.move rfl rfl ?_
      refine TOps.indexAddr (off' := F.nodes[k].args[j].toNat) rfl rfl Try.underlying68 ti4 (by omega) (by omega) (by simp) rfl ?_
      refine TOps.load1 rfl ti4 (hld F.nodes[k].args[j].toNat (by omega)) rfl ?_
      refine TOps.next ?_
      refine Tri.cond rfl (fun hc3 => ?_) (fun hc3 => ?_)
      · try simp only [decide_eq_true_eq, decide_eq_false_iff_not, Bool.and_eq_true, Bool.or_eq_true, Bool.not_eq_true', Bool.and_eq_false_iff, Bool.or_eq_false_iff, Bool.not_eq_false', Int.not_lt, Int.not_le, ne_eq, Decidable.not_not, Option.isSome_iff_ne_none, Option.isNone_iff_eq_none] at hc3
        have hno : F.modAt (v + t) k = false := by
          rw [hmk, List.all_eq_false]
          exact ⟨F.nodes[k].args[j], List.getElem_mem hltj, by rw [hc3]; simp⟩
        refine Tri.seq (Tri.region ?_)
        refine TOps.assign rfl rfl ?_
        refine TOps.next ?_
        refine Tri.ret1 (H' := H) Try.results50 (fun _ _ h => h) (.tmp rfl) l3 ⟨by
          rw [hmod, show (List.range F.nodes.length).all (F.modAt (v + t)) = false from by rw [List.all_eq_false]; exact ⟨k, List.mem_range.2 hlt, by rw [hno]; simp⟩]; simp, rfl⟩
      try simp only [decide_eq_true_eq, decide_eq_false_iff_not, Bool.and_eq_true, Bool.or_eq_true, Bool.not_eq_true', Bool.and_eq_false_iff, Bool.or_eq_false_iff, Bool.not_eq_false', Int.not_lt, Int.not_le, ne_eq, Decidable.not_not, Option.isSome_iff_ne_none, Option.isNone_iff_eq_none] at hc3
      refine Tri.fin ?_
      refine Nrm.body () (by intro i hi hij; rcases Nat.lt_succ_iff_lt_or_eq.1 hij with hij | rfl; exact hpj i hi hij; exact hc3) ⟨rfl, rfl, rfl, rfl, rfl, rfl, rfl, rfl, rfl, rfl, trivial⟩ (by repeat (first | exact Le.refl _ | assumption | apply Le.drop))
    have hok : F.modAt (v + t) k = true := by
      rw [hmk, List.all_eq_true]
      intro a haa
      obtain ⟨i, hi, rfl⟩ := List.getElem_of_mem haa
      rw [hpj i hi hi]; rfl
    refine Nrm.of hS hM ?_
    refine Nrm.body () (by intro i hi; rcases Nat.lt_succ_iff_lt_or_eq.1 hi with hi | rfl; exact hp i hi; exact hok) ⟨rfl, rfl, rfl, rfl, rfl, rfl, rfl, trivial⟩ (by repeat (first | exact Le.refl _ | assumption | apply Le.drop))
  have hall : (List.range F.nodes.length).all (F.modAt (v + t)) = true := by rw [List.all_eq_true]; intro i hi; exact hp i (List.mem_range.1 hi)
  refine Nrm.of hS hM ?_
  refine Nrm.next ?_
  refine Tri.seq (Tri.region ?_)
  refine TOps.assign rfl rfl ?_
  refine TOps.next ?_
  refine Tri.ret1 (H' := H) Try.results50 (fun _ _ h => h) (.tmp rfl) l3 ⟨by rw [hmod, hall, hc1.1, hc1.2]; rfl, rfl⟩
end Go.Proofs
