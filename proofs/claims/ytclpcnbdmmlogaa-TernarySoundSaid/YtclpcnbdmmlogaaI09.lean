import Derived.Test.YtclpcnbdmmlogaaG09
import Derived.Test.YtclpcnbdmmlogaaGL31
namespace Go.Proofs
open Go.GL
set_option linter.unusedVariables false
set_option linter.unusedSimpArgs false
theorem rtcheck_g {H : List Ent} {fv : Value} {F : Fm} (hF : RF H fv F) (hk : F.ok) (y n : Int) :
    Gives Try.prog 19 [fv, .agg (List.toArray [.int .i64 y, .int .i64 n])] H (R1 (.int .i64 ((F.cubeErr y n).getD 0)) H) := by
  have hF0 := hF
  obtain ⟨a, off, cap, nsp, rfl, hN⟩ := hF
  refine Gives.enter Try.func19 rfl (by exact Try.ntmps19) rfl ?_
  refine Tri.seq (Tri.region ?_)
  refine TOps.boxN rfl ti24 rfl rfl (fun b2 => ?_)
  refine TOps.hide (fun H1 l1 s1 r1 => ?_)
  replace hF0 := hF0.le l1
  refine TOps.boxN rfl ti31 rfl rfl (fun b3 => ?_)
  refine TOps.hide (fun H2 l2 s2 r2 => ?_)
  replace hF0 := hF0.le l2; replace r1 := r1.le l2; have l3 := l2.trans l1
  refine TOps.assign rfl rfl ?_
  refine TOps.next ?_
  refine Tri.seq ?_
  refine Tri.seq (Tri.region ?_)
  refine TOps.loadN rfl ti24 (by first | exact Rd.all (by repeat (first | exact List.Mem.head _ | apply List.Mem.tail)) | (repeat (first | assumption | apply Rd.up))) rfl rfl ?_
  refine TOps.call (vs := [_]) Try.call15 ⟨rfl, trivial⟩ (rcheck_g hF0 hk) rfl ?_
  rintro _ _ ⟨rfl, rfl⟩
  refine TOps.assign rfl rfl ?_
  refine TOps.next ?_
  refine Tri.seq (Tri.region ?_)
  refine TOps.move rfl rfl ?_
  refine TOps.neqI rfl rfl rfl ?_
  refine TOps.next ?_
  refine Tri.cond rfl (fun hc1 => ?_) (fun hc1 => ?_)
  · try simp only [decide_eq_true_eq, decide_eq_false_iff_not, Bool.and_eq_true, Bool.or_eq_true, Bool.not_eq_true', Bool.and_eq_false_iff, Bool.or_eq_false_iff, Bool.not_eq_false', Int.not_lt, Int.not_le, ne_eq, Decidable.not_not, Option.isSome_iff_ne_none, Option.isNone_iff_eq_none] at hc1
    obtain ⟨e, he⟩ : ∃ e, F.err = some e := by
      cases h : F.err with
      | none => rw [h] at hc1; exact absurd rfl hc1
      | some e => exact ⟨e, rfl⟩
    refine Tri.seq (Tri.region ?_)
    refine TOps.move rfl rfl ?_
    refine TOps.assign rfl rfl ?_
    refine TOps.next ?_
    refine Tri.ret1 (H' := H) Try.results19 (fun _ _ h => h) (.tmp rfl) l3 ⟨by unfold Fm.cubeErr; rw [he], rfl⟩
  try simp only [decide_eq_true_eq, decide_eq_false_iff_not, Bool.and_eq_true, Bool.or_eq_true, Bool.not_eq_true', Bool.and_eq_false_iff, Bool.or_eq_false_iff, Bool.not_eq_false', Int.not_lt, Int.not_le, ne_eq, Decidable.not_not, Option.isSome_iff_ne_none, Option.isNone_iff_eq_none] at hc1
  have he : F.err = none := Fm.err_of hc1
  have hg := (Fm.good_iff F).1 he
  have g0 := hg.v0; have g1 := hg.v1
  refine Tri.fin ?_
  refine Nrm.next ?_
  refine Tri.seq ?_
  refine Tri.seq (Tri.region ?_)
  refine TOps.loadN rfl ti24 (by first | exact Rd.all (by repeat (first | exact List.Mem.head _ | apply List.Mem.tail)) | (repeat (first | assumption | apply Rd.up))) rfl rfl ?_
  refine TOps.field0 rfl Try.underlying31 rfl rfl ti3 rfl rfl rfl ?_
  refine TOps.load1 rfl ti3 (by first | exact Rd.lit (by repeat (first | exact List.Mem.head _ | apply List.Mem.tail)) rfl | (repeat (first | assumption | exact Rd.fld (by assumption) 0 rfl | apply Rd.up))) rfl ?_
  refine TOps.call (vs := [_, _]) Try.call39 ⟨rfl, rfl, trivial⟩ (rset_g hF0 ⟨g0, g1⟩ _) rfl ?_
  rintro _ _ ⟨rfl, rfl⟩
  refine TOps.not rfl rfl ?_
  refine TOps.move rfl rfl ?_
  refine' TOps.orB 5 rfl rfl rfl rfl (fun hg4_5 => ?_) ?_; rotate_left
  · have hg4_5' := hg4_5
    try simp only [decide_eq_true_eq, decide_eq_false_iff_not, Bool.and_eq_true, Bool.or_eq_true, Bool.not_eq_true', Bool.and_eq_false_iff, Bool.or_eq_false_iff, Bool.not_eq_false', Int.not_lt, Int.not_le, ne_eq, Decidable.not_not] at hg4_5'
    refine TOps.strip 5 false rfl rfl hg4_5 rfl ?_
    refine TOps.loadN rfl ti24 (by first | exact Rd.all (by repeat (first | exact List.Mem.head _ | apply List.Mem.tail)) | (repeat (first | assumption | apply Rd.up))) rfl rfl ?_
    first | refine TOps.fieldB 1 rfl Try.underlying31 rfl rfl ti3 rfl rfl rfl ?_ | refine TOps.fieldN 1 rfl Try.underlying31 rfl rfl ti3 rfl rfl rfl ?_
    refine TOps.load1 rfl ti3 (by first | exact Rd.lit (by repeat (first | exact List.Mem.head _ | apply List.Mem.tail)) rfl | (repeat (first | assumption | exact Rd.fld (by assumption) 1 rfl | apply Rd.up))) rfl ?_
    refine TOps.call (vs := [_, _]) Try.call39 ⟨rfl, rfl, trivial⟩ (rset_g hF0 ⟨g0, g1⟩ _) rfl ?_
    rintro _ _ ⟨rfl, rfl⟩
    refine TOps.not rfl rfl ?_
    refine TOps.blk rfl (by repeat (first | exact Ext.refl _ | refine Ext.cons rfl ?_)) (by repeat (first | exact Le.refl _ | apply Le.drop))
  refine TOps.next ?_
  refine Tri.cond rfl (fun hc2 => ?_) (fun hc2 => ?_)
  · try simp only [decide_eq_true_eq, decide_eq_false_iff_not, Bool.and_eq_true, Bool.or_eq_true, Bool.not_eq_true', Bool.and_eq_false_iff, Bool.or_eq_false_iff, Bool.not_eq_false', Int.not_lt, Int.not_le, ne_eq, Decidable.not_not, Option.isSome_iff_ne_none, Option.isNone_iff_eq_none] at hc2
    refine Tri.seq (Tri.region ?_)
    refine TOps.assign rfl rfl ?_
    refine TOps.next ?_
    refine Tri.ret1 (H' := H) Try.results19 (fun _ _ h => h) (.tmp rfl) l3 ⟨by unfold Fm.cubeErr; rw [he]; simp only; rw [if_pos (by omega)]; rfl, rfl⟩
  try simp only [decide_eq_true_eq, decide_eq_false_iff_not, Bool.and_eq_true, Bool.or_eq_true, Bool.not_eq_true', Bool.and_eq_false_iff, Bool.or_eq_false_iff, Bool.not_eq_false', Int.not_lt, Int.not_le, ne_eq, Decidable.not_not, Option.isSome_iff_ne_none, Option.isNone_iff_eq_none] at hc2
  refine Tri.fin ?_
  refine Nrm.next ?_
  refine Tri.seq ?_
  refine Tri.seq (Tri.region ?_)
  refine TOps.field0 rfl Try.underlying31 rfl rfl ti3 rfl rfl rfl ?_
  refine TOps.load1 rfl ti3 (by first | exact Rd.lit (by repeat (first | exact List.Mem.head _ | apply List.Mem.tail)) rfl | (repeat (first | assumption | exact Rd.fld (by assumption) 0 rfl | apply Rd.up))) rfl ?_
  first | refine TOps.fieldB 1 rfl Try.underlying31 rfl rfl ti3 rfl rfl rfl ?_ | refine TOps.fieldN 1 rfl Try.underlying31 rfl rfl ti3 rfl rfl rfl ?_
  refine TOps.load1 rfl ti3 (by first | exact Rd.lit (by repeat (first | exact List.Mem.head _ | apply List.Mem.tail)) rfl | (repeat (first | assumption | exact Rd.fld (by assumption) 1 rfl | apply Rd.up))) rfl ?_
  refine TOps.and rfl rfl rfl rfl ?_
  refine TOps.neqI rfl rfl rfl ?_
  refine TOps.next ?_
  refine Tri.cond rfl (fun hc3 => ?_) (fun hc3 => ?_)
  · try simp only [decide_eq_true_eq, decide_eq_false_iff_not, Bool.and_eq_true, Bool.or_eq_true, Bool.not_eq_true', Bool.and_eq_false_iff, Bool.or_eq_false_iff, Bool.not_eq_false', Int.not_lt, Int.not_le, ne_eq, Decidable.not_not, Option.isSome_iff_ne_none, Option.isNone_iff_eq_none] at hc3
    refine Tri.seq (Tri.region ?_)
    refine TOps.assign rfl rfl ?_
    refine TOps.next ?_
    refine Tri.ret1 (H' := H) Try.results19 (fun _ _ h => h) (.tmp rfl) l3 ⟨by unfold Fm.cubeErr; rw [he]; simp only; rw [if_neg (by omega), if_pos hc3]; rfl, rfl⟩
  try simp only [decide_eq_true_eq, decide_eq_false_iff_not, Bool.and_eq_true, Bool.or_eq_true, Bool.not_eq_true', Bool.and_eq_false_iff, Bool.or_eq_false_iff, Bool.not_eq_false', Int.not_lt, Int.not_le, ne_eq, Decidable.not_not, Option.isSome_iff_ne_none, Option.isNone_iff_eq_none] at hc3
  refine Tri.fin ?_
  refine Nrm.next ?_
  refine Tri.seq (Tri.region ?_)
  refine TOps.assign rfl rfl ?_
  refine TOps.next ?_
  refine Tri.ret1 (H' := H) Try.results19 (fun _ _ h => h) (.tmp rfl) l3 ⟨by unfold Fm.cubeErr; rw [he]; simp only; rw [if_neg (by omega), if_neg (by omega)]; rfl, rfl⟩
theorem truth_g {H : List Ent} (y n : Bool) : Gives Try.prog 41 [.bool y, .bool n] H (R1 (.int .i64 (lev y n : Nat)) H) := by
  refine Gives.enter Try.func41 rfl (by exact Try.ntmps41) rfl ?_
  refine Tri.seq (Tri.region ?_)
  refine TOps.assign rfl rfl ?_
  refine TOps.next ?_
  refine Tri.seq ?_
  refine Tri.seq (Tri.region ?_)
  refine TOps.move rfl rfl ?_
  refine TOps.next ?_
  refine Tri.cond rfl (fun hc1 => ?_) (fun hc1 => ?_)
  · try simp only [decide_eq_true_eq, decide_eq_false_iff_not, Bool.and_eq_true, Bool.or_eq_true, Bool.not_eq_true', Bool.and_eq_false_iff, Bool.or_eq_false_iff, Bool.not_eq_false', Int.not_lt, Int.not_le, ne_eq, Decidable.not_not, Option.isSome_iff_ne_none, Option.isNone_iff_eq_none] at hc1
    refine Tri.seq (Tri.region ?_)
    refine TOps.assign rfl rfl ?_
    refine TOps.next ?_
    refine Tri.ret1 (H' := H) Try.results41 (fun _ _ h => h) (.tmp rfl) (Le.refl _) ⟨by (try rw [hc1]); (try rw [hc2]); rfl, rfl⟩
  try simp only [decide_eq_true_eq, decide_eq_false_iff_not, Bool.and_eq_true, Bool.or_eq_true, Bool.not_eq_true', Bool.and_eq_false_iff, Bool.or_eq_false_iff, Bool.not_eq_false', Int.not_lt, Int.not_le, ne_eq, Decidable.not_not, Option.isSome_iff_ne_none, Option.isNone_iff_eq_none] at hc1
  refine Tri.fin ?_
  refine Nrm.next ?_
  refine Tri.seq ?_
  refine Tri.seq (Tri.region ?_)
  refine TOps.move rfl rfl ?_
  refine TOps.next ?_
  refine Tri.cond rfl (fun hc2 => ?_) (fun hc2 => ?_)
  · try simp only [decide_eq_true_eq, decide_eq_false_iff_not, Bool.and_eq_true, Bool.or_eq_true, Bool.not_eq_true', Bool.and_eq_false_iff, Bool.or_eq_false_iff, Bool.not_eq_false', Int.not_lt, Int.not_le, ne_eq, Decidable.not_not, Option.isSome_iff_ne_none, Option.isNone_iff_eq_none] at hc2
    refine Tri.seq (Tri.region ?_)
    refine TOps.assign rfl rfl ?_
    refine TOps.next ?_
    refine Tri.ret1 (H' := H) Try.results41 (fun _ _ h => h) (.tmp rfl) (Le.refl _) ⟨by (try rw [hc1]); (try rw [hc2]); rfl, rfl⟩
  try simp only [decide_eq_true_eq, decide_eq_false_iff_not, Bool.and_eq_true, Bool.or_eq_true, Bool.not_eq_true', Bool.and_eq_false_iff, Bool.or_eq_false_iff, Bool.not_eq_false', Int.not_lt, Int.not_le, ne_eq, Decidable.not_not, Option.isSome_iff_ne_none, Option.isNone_iff_eq_none] at hc2
  refine Tri.fin ?_
  refine Nrm.next ?_
  refine Tri.seq (Tri.region ?_)
  refine TOps.assign rfl rfl ?_
  refine TOps.next ?_
  refine Tri.ret1 (H' := H) Try.results41 (fun _ _ h => h) (.tmp rfl) (Le.refl _) ⟨by (try rw [hc1]); (try rw [hc2]); rfl, rfl⟩
theorem rtof_g {H : List Ent} {fv : Value} {F : Fm} (hF : RF H fv F) (hv : 0 ≤ F.vars ∧ F.vars ≤ 24) {vs : List Nat} {va sp : Option Nat} {vo cap m : Nat} (hr : RdS H va vo (nats vs) sp) (hm : vs.length = m) (hl : m ≤ 128) (y n arg : Int) (h0 : 0 ≤ arg) (h1 : arg < F.vars + m) :
    Gives Try.prog 40 [fv, slV va vo m cap sp, .agg (List.toArray [.int .i64 y, .int .i64 n]), .int .i64 arg] H (R1 (.int .i64 (ofT F.vars vs y n arg : Nat)) H) := by
  subst hm
  obtain ⟨a, off, fcap, nsp, rfl, hN⟩ := hF
  refine Gives.enter Try.func40 rfl (by exact Try.ntmps40) rfl ?_
  refine Tri.seq (Tri.region ?_)
  refine TOps.boxN rfl ti24 rfl rfl (fun b4 => ?_)
  refine TOps.boxN rfl ti31 rfl rfl (fun b6 => ?_)
  refine TOps.assign rfl rfl ?_
  refine TOps.next ?_
  refine Tri.seq ?_
  refine Tri.block ?_
  refine Tri.seq (Tri.region ?_)
  refine TOps.move rfl rfl ?_
  refine TOps.field0 rfl Try.underlying24 rfl rfl ti3 rfl rfl rfl ?_
  refine TOps.load1 rfl ti3 (by first | exact Rd.lit (by repeat (first | exact List.Mem.head _ | apply List.Mem.tail)) rfl | (repeat (first | assumption | exact Rd.fld (by assumption) 0 rfl | apply Rd.up))) rfl ?_
  refine TOps.geq rfl rfl rfl ?_
  refine TOps.assign rfl rfl ?_
  refine TOps.next ?_
  refine Tri.cond rfl (fun hc1 => ?_) (fun hc1 => ?_)
  · try simp only [decide_eq_true_eq, decide_eq_false_iff_not, Bool.and_eq_true, Bool.or_eq_true, Bool.not_eq_true', Bool.and_eq_false_iff, Bool.or_eq_false_iff, Bool.not_eq_false', Int.not_lt, Int.not_le, ne_eq, Decidable.not_not, Option.isSome_iff_ne_none, Option.isNone_iff_eq_none] at hc1
    obtain ⟨vb, rfl, rfl, hb⟩ := nats_at hr (i := (arg - F.vars).toNat) (by omega)
    refine Tri.seq (Tri.region ?_)
    refine TOps.move rfl rfl ?_
    refine TOps.move rfl rfl ?_
    refine TOps.field0 rfl Try.underlying24 rfl rfl ti3 rfl rfl rfl ?_
    refine TOps.load1 rfl ti3 (by first | exact Rd.lit (by repeat (first | exact List.Mem.head _ | apply List.Mem.tail)) rfl | (repeat (first | assumption | exact Rd.fld (by assumption) 0 rfl | apply Rd.up))) rfl ?_
    refine TOps.sub (r := arg - F.vars) rfl rfl (by rw [wrapI (by omega) (by omega)]) rfl ?_
    refine TOps.indexAddr (off' := vo + (arg - F.vars).toNat) rfl rfl Try.underlying34 ti3 (by omega) (by omega) (by simp) rfl ?_
    refine TOps.load1 rfl ti3 (by first | exact Rd.lit (by repeat (first | exact List.Mem.head _ | apply List.Mem.tail)) rfl | (repeat (first | assumption | apply Rd.up))) rfl ?_
    refine TOps.assign rfl rfl ?_
    refine TOps.next ?_
    refine Tri.ret1 (H' := H) Try.results40 (fun _ _ h => h) (.tmp rfl) (Le.drop (Le.drop (Le.refl _))) ⟨by unfold ofT; rw [if_pos hc1]; simp [List.getD_eq_getElem?_getD, show (arg - F.vars).toNat < vs.length by omega], rfl⟩
  try simp only [decide_eq_true_eq, decide_eq_false_iff_not, Bool.and_eq_true, Bool.or_eq_true, Bool.not_eq_true', Bool.and_eq_false_iff, Bool.or_eq_false_iff, Bool.not_eq_false', Int.not_lt, Int.not_le, ne_eq, Decidable.not_not, Option.isSome_iff_ne_none, Option.isNone_iff_eq_none] at hc1
  refine Tri.seq (Tri.region ?_)
  refine TOps.field0 rfl Try.underlying31 rfl rfl ti3 rfl rfl rfl ?_
  refine TOps.load1 rfl ti3 (by first | exact Rd.lit (by repeat (first | exact List.Mem.head _ | apply List.Mem.tail)) rfl | (repeat (first | assumption | exact Rd.fld (by assumption) 0 rfl | apply Rd.up))) rfl ?_
  refine TOps.move rfl rfl ?_
  refine TOps.shr rfl rfl (by omega) rfl rfl ?_
  refine TOps.and rfl rfl rfl rfl ?_
  refine TOps.eqlI rfl rfl rfl ?_
  refine TOps.assign rfl rfl ?_
  refine TOps.next ?_
  refine Tri.cond rfl (fun hc2 => ?_) (fun hc2 => ?_)
  · try simp only [decide_eq_true_eq, decide_eq_false_iff_not, Bool.and_eq_true, Bool.or_eq_true, Bool.not_eq_true', Bool.and_eq_false_iff, Bool.or_eq_false_iff, Bool.not_eq_false', Int.not_lt, Int.not_le, ne_eq, Decidable.not_not, Option.isSome_iff_ne_none, Option.isNone_iff_eq_none] at hc2
    have hq : ofT F.vars vs y n arg = 1 := by unfold ofT; rw [if_neg (by omega), show bitB y arg.toNat = true from decide_eq_true hc2]; rfl
    refine Tri.seq (Tri.region ?_)
    refine TOps.assign rfl rfl ?_
    refine TOps.next ?_
    refine Tri.ret1 (H' := H) Try.results40 (fun _ _ h => h) (.tmp rfl) (Le.drop (Le.drop (Le.refl _))) ⟨by rw [hq]; rfl, rfl⟩
  try simp only [decide_eq_true_eq, decide_eq_false_iff_not, Bool.and_eq_true, Bool.or_eq_true, Bool.not_eq_true', Bool.and_eq_false_iff, Bool.or_eq_false_iff, Bool.not_eq_false', Int.not_lt, Int.not_le, ne_eq, Decidable.not_not, Option.isSome_iff_ne_none, Option.isNone_iff_eq_none] at hc2
  refine Tri.seq (Tri.region ?_)
  first | refine TOps.fieldB 1 rfl Try.underlying31 rfl rfl ti3 rfl rfl rfl ?_ | refine TOps.fieldN 1 rfl Try.underlying31 rfl rfl ti3 rfl rfl rfl ?_
  refine TOps.load1 rfl ti3 (by first | exact Rd.lit (by repeat (first | exact List.Mem.head _ | apply List.Mem.tail)) rfl | (repeat (first | assumption | exact Rd.fld (by assumption) 1 rfl | apply Rd.up))) rfl ?_
  refine TOps.move rfl rfl ?_
  refine TOps.shr rfl rfl (by omega) rfl rfl ?_
  refine TOps.and rfl rfl rfl rfl ?_
  refine TOps.eqlI rfl rfl rfl ?_
  refine TOps.assign rfl rfl ?_
  refine TOps.next ?_
  refine Tri.cond rfl (fun hc3 => ?_) (fun hc3 => ?_)
  · try simp only [decide_eq_true_eq, decide_eq_false_iff_not, Bool.and_eq_true, Bool.or_eq_true, Bool.not_eq_true', Bool.and_eq_false_iff, Bool.or_eq_false_iff, Bool.not_eq_false', Int.not_lt, Int.not_le, ne_eq, Decidable.not_not, Option.isSome_iff_ne_none, Option.isNone_iff_eq_none] at hc3
    have hq : ofT F.vars vs y n arg = 0 := by unfold ofT; rw [if_neg (by omega), show bitB y arg.toNat = false from decide_eq_false hc2, show bitB n arg.toNat = true from decide_eq_true hc3]; simp only [lev, cond_true, cond_false]
    refine Tri.seq (Tri.region ?_)
    refine TOps.assign rfl rfl ?_
    refine TOps.next ?_
    refine Tri.ret1 (H' := H) Try.results40 (fun _ _ h => h) (.tmp rfl) (Le.drop (Le.drop (Le.refl _))) ⟨by rw [hq]; rfl, rfl⟩
  try simp only [decide_eq_true_eq, decide_eq_false_iff_not, Bool.and_eq_true, Bool.or_eq_true, Bool.not_eq_true', Bool.and_eq_false_iff, Bool.or_eq_false_iff, Bool.not_eq_false', Int.not_lt, Int.not_le, ne_eq, Decidable.not_not, Option.isSome_iff_ne_none, Option.isNone_iff_eq_none] at hc3
  have hq : ofT F.vars vs y n arg = 2 := by unfold ofT; rw [if_neg (by omega), show bitB y arg.toNat = false from decide_eq_false hc2, show bitB n arg.toNat = false from decide_eq_false hc3]; simp only [lev, cond_true, cond_false]
  refine Tri.fin ?_
  refine Nrm.unB ?_
  refine Nrm.next ?_
  refine Tri.seq (Tri.region ?_)
  refine TOps.assign rfl rfl ?_
  refine TOps.next ?_
  refine Tri.ret1 (H' := H) Try.results40 (fun _ _ h => h) (.tmp rfl) (Le.drop (Le.drop (Le.refl _))) ⟨by rw [hq]; rfl, rfl⟩
theorem rtvalues_g {H : List Ent} {fv : Value} {F : Fm} (hF : RF H fv F) (hg : F.Good) (y n : Int) :
    Gives Try.prog 23 [fv, .agg (List.toArray [.int .i64 y, .int .i64 n])] H (fun u H' => ∃ b, u = slV (some b) 0 F.nodes.length F.nodes.length ∧ row (some b) 3 1 F.nodes.length (nats (F.tnodeVals y n)) :: H = H') := by
  have hF0 := hF
  obtain ⟨a, off, cap, nsp, rfl, hN⟩ := hF
  have g0 := hg.v0; have g1 := hg.v1; have g2 := hg.n1
  obtain ⟨v, hv⟩ := Int.eq_ofNat_of_zero_le g0
  have hvn : F.vars.toNat = v := by omega
  have hle2 := tvals_le hg y n
  have hev := tevents_length v y n
  have hres : F.tnodeVals y n = refG tfun 0 v (tevents v y n) F.nodes F.nodes.length := by rw [refG_all]; unfold Fm.tnodeVals Fm.tvals; rw [hvn]
  have hofv : ∀ vs a, ofT F.vars vs y n a = ofT v vs y n a := fun vs a => by rw [hv]
  rw [hvn] at hle2
  rw [hres]
  rw [hv] at hF0 ⊢
  refine Gives.enter Try.func23 rfl (by exact Try.ntmps23) rfl ?_
  refine Tri.seq (Tri.region ?_)
  refine TOps.boxN rfl ti24 rfl rfl (fun b2 => ?_)
  refine TOps.hide (fun H1 l1 s1 r1 => ?_)
  replace hN := hN.le l1; replace hF0 := hF0.le l1
  refine TOps.boxN rfl ti31 rfl rfl (fun b3 => ?_)
  refine TOps.hide (fun H2 l2 s2 r2 => ?_)
  replace hN := hN.le l2; replace hF0 := hF0.le l2; replace r1 := r1.le l2; have s3 := s1.trans s2; have l3 := l2.trans l1
  refine TOps.assign rfl rfl ?_
  refine TOps.next ?_
  refine Tri.seq (Tri.region ?_)
  first | refine TOps.fieldB 1 rfl Try.underlying24 rfl rfl ti22 rfl rfl rfl ?_ | refine TOps.fieldN 1 rfl Try.underlying24 rfl rfl ti22 rfl rfl rfl ?_
  refine TOps.load1 rfl ti22 (by first | exact Rd.lit (by repeat (first | exact List.Mem.head _ | apply List.Mem.tail)) rfl | (repeat (first | assumption | exact Rd.fld (by assumption) 1 rfl | apply Rd.up))) rfl ?_
  refine TOps.len rfl Try.underlying22 rfl ?_
  refine TOps.make1 rfl rfl Try.underlying34 ti3 (by omega) (by omega) (by omega) rfl (fun b15 => ?_)
  refine TOps.assign rfl rfl ?_
  refine TOps.next ?_
  refine Tri.seq ?_
  refine Tri.seq (Tri.region ?_)
  first | refine TOps.fieldB 1 rfl Try.underlying24 rfl rfl ti22 rfl rfl rfl ?_ | refine TOps.fieldN 1 rfl Try.underlying24 rfl rfl ti22 rfl rfl rfl ?_
  refine TOps.load1 rfl ti22 (by first | exact Rd.lit (by repeat (first | exact List.Mem.head _ | apply List.Mem.tail)) rfl | (repeat (first | assumption | exact Rd.fld (by assumption) 1 rfl | apply Rd.up))) rfl ?_
  refine TOps.len rfl Try.underlying22 rfl ?_
  refine TOps.move rfl rfl ?_
  refine TOps.next ?_
  refine Tri.range (X := Unit) (fun x k => [(2, .pointer (some ⟨b2, 0, none⟩)), (3, .pointer (some ⟨b3, 0, none⟩)), (5, slV (some b15) 0 F.nodes.length F.nodes.length), (17, slV a off F.nodes.length cap nsp)]) (fun x k => row (some b15) 3 1 F.nodes.length (nats (refG tfun 0 v (tevents v y n) F.nodes k)) :: H2) (fun x k => True) (by omega) rfl rfl rfl (fun _ _ => ⟨rfl, rfl, rfl, rfl⟩) () trivial ⟨rfl, rfl, rfl, rfl, trivial⟩ (Le.rowEq (by rw [refG_zero hev]; simp)) (fun k x hlt hp => ?_) (fun x ac wc hp hS hM => ?_)
  · skip
    obtain ⟨nb, aa, ao, acap, asp, rfl, rfl, hn⟩ := hN.at hlt
    have hfit := hg.fits k hlt
    have hal := hfit.len
    have hcells := hn.cells
    have hrl := refG_length (f := tfun) (z := 0) (nodes := F.nodes) (k := k) hev (by omega)
    have hset := refG_set (f := tfun) (z := 0) hev hlt
    have hof : ∀ a, 0 ≤ a → a < (v : Int) + k → ofT F.vars (refG tfun 0 v (tevents v y n) F.nodes k) y n a = (genFrom tfun (tevents v y n) (F.nodes.take k)).getD a.toNat 2 := fun a h0 h1 => by rw [hofv, ofT_eq (by omega) h0 h1]
    have h2k := hle2 k (by omega)
    generalize hd : F.nodes[k] = d at *
    generalize genFrom tfun (tevents v y n) (F.nodes.take k) = vs at *
    refine Tri.seq (Tri.region ?_)
    refine TOps.move rfl rfl ?_
    refine TOps.indexAddr (off' := off + k * 3) rfl rfl Try.underlying22 ti36 (by omega) (by omega) (by simp) rfl ?_
    refine TOps.loadN rfl ti36 (by first | exact Rd.all (by repeat (first | exact List.Mem.head _ | apply List.Mem.tail)) | (repeat (first | assumption | apply Rd.up))) rfl rfl ?_
    refine TOps.alloc ti36 rfl (fun b7 => ?_)
    refine TOps.assign rfl rfl ?_
    refine TOps.storeN rfl rfl ti36 rfl rfl (by repeat (first | exact Upd.here | apply Upd.there)) (by first | decide | (simp; done) | (simp; omega)) ?_
    refine TOps.next ?_
    refine Tri.seq (Tri.region ?_)
    refine TOps.buildArr0 Try.underlying73 ti73 ti3 rfl ?_
    refine TOps.alloc ti73 rfl (fun b8 => ?_)
    refine TOps.storeN rfl rfl ti73 rfl rfl (by repeat (first | exact Upd.here | apply Upd.there)) (by first | decide | (simp; done) | (simp; omega)) ?_
    refine TOps.next ?_
    refine Tri.seq ?_
    refine Tri.seq (Tri.region ?_)
    first | refine TOps.fieldB 2 rfl Try.underlying36 rfl rfl ti34 rfl rfl rfl ?_ | refine TOps.fieldN 2 rfl Try.underlying36 rfl rfl ti34 rfl rfl rfl ?_
    refine TOps.load1 rfl ti34 (by first | exact Rd.lit (by repeat (first | exact List.Mem.head _ | apply List.Mem.tail)) rfl | (repeat (first | assumption | exact Rd.fld (by assumption) 2 rfl | apply Rd.up))) rfl ?_
    refine TOps.len rfl Try.underlying34 rfl ?_
    refine TOps.move rfl rfl ?_
    refine TOps.next ?_
    refine Tri.range (X := Unit) (fun q j => [(2, .pointer (some ⟨b2, 0, none⟩)), (3, .pointer (some ⟨b3, 0, none⟩)), (5, slV (some b15) 0 F.nodes.length F.nodes.length), (17, slV (some nb) off F.nodes.length cap), (18, .int .i64 F.nodes.length), (19, .int .i64 k), (6, .int .i64 k), (7, .pointer (some ⟨b7, 0, none⟩)), (8, .pointer (some ⟨b8, 0, none⟩)), (26, slV aa ao d.args.length acap asp)]) (fun q j => row (some b8) 73 3 1 (nats (tcs vs (d.args.take j))) :: row (some b7) 36 3 1 [.int .i64 d.kind, .int .i64 d.k, slV aa ao d.args.length acap asp] :: row (some b15) 3 1 F.nodes.length (nats (refG tfun 0 v (tevents v y n) F.nodes k)) :: H2) (fun q j => True) (by omega) rfl rfl rfl (fun _ _ => ⟨rfl, rfl, rfl, rfl⟩) () trivial ⟨rfl, rfl, rfl, rfl, rfl, rfl, rfl, rfl, rfl, rfl, trivial⟩ (Le.rowEq (by simp [tcs, tc, setL])) (fun j q hltj hpj => ?_) (fun q ac wc hpj hS hM => ?_)
    · skip
      obtain ⟨ab, rfl, rfl, ha⟩ := hn.args.at hltj
      have hb := hfit.args _ (List.getElem_mem hltj)
      have hv2 := getD_le2 h2k d.args[j].toNat
      have htcs := tcs_take_succ (v := vs) hltj hv2
      have htl := tcs_getD_le vs (d.args.take j) (vs.getD d.args[j].toNat 2); rw [List.length_take] at htl
      have hlen3 : (tcs vs (d.args.take j)).length = 3 := rfl
      refine Tri.seq (Tri.region ?_)
      refine TOps.indexAddr (off' := ao + j) rfl rfl Try.underlying34 ti3 (by omega) (by omega) (by simp) rfl ?_
      refine TOps.load1 rfl ti3 (by first | exact Rd.lit (by repeat (first | exact List.Mem.head _ | apply List.Mem.tail)) rfl | (repeat (first | assumption | apply Rd.up))) rfl ?_
      refine TOps.assign rfl rfl ?_
      refine TOps.next ?_
      refine Tri.region ?_
      refine TOps.loadN rfl ti24 (by first | exact Rd.all (by repeat (first | exact List.Mem.head _ | apply List.Mem.tail)) | (repeat (first | assumption | apply Rd.up))) rfl rfl ?_
      refine TOps.move rfl rfl ?_
      refine TOps.loadN rfl ti31 (by first | exact Rd.all (by repeat (first | exact List.Mem.head _ | apply List.Mem.tail)) | (repeat (first | assumption | apply Rd.up))) rfl rfl ?_
      refine TOps.move rfl rfl ?_
      refine TOps.call (vs := [_, _, _, _]) Try.call40 ⟨rfl, rfl, rfl, rfl, trivial⟩ (rtof_g (hF0.le (Le.drop (Le.drop (Le.drop (Le.refl _))))) (by omega) (RdS.ofRowS (by repeat (first | exact List.Mem.head _ | apply List.Mem.tail))) hrl (by omega) y n d.args[j] (by omega) (by omega)) rfl ?_
      rintro _ _ ⟨rfl, rfl⟩
      rw [hof d.args[j] (by omega) (by omega)]
      refine TOps.indexAddrA (off' := vs.getD d.args[j].toNat 2) rfl rfl Try.underlying73 ti3 (by omega) (by omega) (by simp) rfl ?_
      refine TOps.load1 (v := .int .i64 ((tcs vs (d.args.take j)).getD (vs.getD d.args[j].toNat 2) 0 : Nat)) rfl ti3 (Rd.lit (.head _) (nats_get (by omega))) rfl ?_
      refine TOps.add (r := (((tcs vs (d.args.take j)).getD (vs.getD d.args[j].toNat 2) 0 + 1 : Nat) : Int)) rfl rfl (by rw [wrapI (by omega) (by omega)]; omega) rfl ?_
      refine TOps.indexAddrA (off' := vs.getD d.args[j].toNat 2) rfl rfl Try.underlying73 ti3 (by omega) (by omega) (by simp) rfl ?_
      refine TOps.store1 rfl rfl ti3 rfl rfl Upd.here (by simp only [List.length_map]; omega) ?_
      refine TOps.fin ?_
      refine Nrm.body () trivial ⟨rfl, rfl, rfl, rfl, rfl, rfl, rfl, rfl, rfl, rfl, rfl, rfl, trivial⟩ (Le.rowEq (by rw [htcs, nats_set]))
    rw [List.take_length] at hM
    have t0 := tc_le vs 0 d.args; have t1 := tc_le vs 1 d.args; have t2 := tc_le vs 2 d.args
    have tsum := tc_sum' (v := vs) (l := d.args) (fun a _ => getD_le2 h2k a.toNat)
    have q0 := hfit.k0; have q5 := hfit.k1; have hkk := hfit.kk.1
    have htn : tfun vs d = tnode d (tc vs 0 d.args) (tc vs 1 d.args) (tc vs 2 d.args) := rfl
    refine Nrm.of hS hM ?_
    refine Nrm.next ?_
    refine Tri.seq (Tri.region ?_)
    first | refine TOps.fieldB 2 rfl Try.underlying36 rfl rfl ti34 rfl rfl rfl ?_ | refine TOps.fieldN 2 rfl Try.underlying36 rfl rfl ti34 rfl rfl rfl ?_
    refine TOps.load1 rfl ti34 (by first | exact Rd.lit (by repeat (first | exact List.Mem.head _ | apply List.Mem.tail)) rfl | (repeat (first | assumption | exact Rd.fld (by assumption) 2 rfl | apply Rd.up))) rfl ?_
    refine TOps.len rfl Try.underlying34 rfl ?_
    refine TOps.assign rfl rfl ?_
    refine TOps.next ?_
    refine Tri.seq (Tri.region ?_)
    refine TOps.field0 rfl Try.underlying36 rfl rfl ti3 rfl rfl rfl ?_
    refine TOps.load1 rfl ti3 (by first | exact Rd.lit (by repeat (first | exact List.Mem.head _ | apply List.Mem.tail)) rfl | (repeat (first | assumption | exact Rd.fld (by assumption) 0 rfl | apply Rd.up))) rfl ?_
    refine TOps.next ?_
    refine Tri.block ?_
    refine Tri.seq (Tri.region ?_)
    refine TOps.eqlI rfl rfl rfl ?_
    refine TOps.assign rfl rfl ?_
    refine TOps.next ?_
    refine Tri.cond rfl (fun hc1 => ?_) (fun hc1 => ?_)
    · try simp only [decide_eq_true_eq, decide_eq_false_iff_not, Bool.and_eq_true, Bool.or_eq_true, Bool.not_eq_true', Bool.and_eq_false_iff, Bool.or_eq_false_iff, Bool.not_eq_false', Int.not_lt, Int.not_le, ne_eq, Decidable.not_not, Option.isSome_iff_ne_none, Option.isNone_iff_eq_none] at hc1
      have hval : lev (decide (d.k = 1)) true = tfun vs d := by
        rw [htn]; unfold tnode; rw [if_pos hc1]
        rcases hkk hc1 with h | h <;> rw [h] <;> rfl
      refine Tri.region ?_
      refine TOps.move rfl rfl ?_
      refine TOps.move rfl rfl ?_
      first | refine TOps.fieldB 1 rfl Try.underlying36 rfl rfl ti3 rfl rfl rfl ?_ | refine TOps.fieldN 1 rfl Try.underlying36 rfl rfl ti3 rfl rfl rfl ?_
      refine TOps.load1 rfl ti3 (by first | exact Rd.lit (by repeat (first | exact List.Mem.head _ | apply List.Mem.tail)) rfl | (repeat (first | assumption | exact Rd.fld (by assumption) 1 rfl | apply Rd.up))) rfl ?_
      refine TOps.eqlI rfl rfl rfl ?_
      refine TOps.call (vs := [_, _]) Try.call41 ⟨rfl, rfl, trivial⟩ (truth_g _ _) rfl ?_
      rintro _ _ ⟨rfl, rfl⟩
      refine TOps.indexAddr (off' := k) rfl rfl Try.underlying34 ti3 (by omega) (by omega) (by simp) rfl ?_
      refine TOps.store1 rfl rfl ti3 rfl rfl (by repeat (first | exact Upd.here | apply Upd.there)) (by simp only [List.length_map]; omega) ?_
      refine TOps.fin ?_
      refine Nrm.unB ?_
      refine Nrm.body () trivial ⟨rfl, rfl, rfl, rfl, rfl, rfl, trivial⟩ (Le.drop (Le.drop (Le.rowEq (by rw [← hset, nats_set, ← hval]))))
    try simp only [decide_eq_true_eq, decide_eq_false_iff_not, Bool.and_eq_true, Bool.or_eq_true, Bool.not_eq_true', Bool.and_eq_false_iff, Bool.or_eq_false_iff, Bool.not_eq_false', Int.not_lt, Int.not_le, ne_eq, Decidable.not_not, Option.isSome_iff_ne_none, Option.isNone_iff_eq_none] at hc1
    refine Tri.seq (Tri.region ?_)
    refine TOps.eqlI rfl rfl rfl ?_
    refine TOps.assign rfl rfl ?_
    refine TOps.next ?_
    refine Tri.cond rfl (fun hc2 => ?_) (fun hc2 => ?_)
    · try simp only [decide_eq_true_eq, decide_eq_false_iff_not, Bool.and_eq_true, Bool.or_eq_true, Bool.not_eq_true', Bool.and_eq_false_iff, Bool.or_eq_false_iff, Bool.not_eq_false', Int.not_lt, Int.not_le, ne_eq, Decidable.not_not, Option.isSome_iff_ne_none, Option.isNone_iff_eq_none] at hc2
      have hval : lev (decide ((tc vs 0 d.args : Int) = 1)) (decide ((tc vs 1 d.args : Int) = 1)) = tfun vs d := by rw [htn]; unfold tnode; rw [if_neg hc1, if_pos hc2]
      refine Tri.region ?_
      refine TOps.move rfl rfl ?_
      refine TOps.move rfl rfl ?_
      refine TOps.indexAddrA rfl rfl Try.underlying73 ti3 (by omega) (by omega) rfl rfl ?_
      refine TOps.load1 rfl ti3 (by first | exact Rd.lit (by repeat (first | exact List.Mem.head _ | apply List.Mem.tail)) rfl | (repeat (first | assumption | apply Rd.up))) rfl ?_
      refine TOps.eqlI rfl rfl rfl ?_
      refine TOps.indexAddrA rfl rfl Try.underlying73 ti3 (by omega) (by omega) rfl rfl ?_
      refine TOps.load1 rfl ti3 (by first | exact Rd.lit (by repeat (first | exact List.Mem.head _ | apply List.Mem.tail)) rfl | (repeat (first | assumption | apply Rd.up))) rfl ?_
      refine TOps.eqlI rfl rfl rfl ?_
      refine TOps.call (vs := [_, _]) Try.call41 ⟨rfl, rfl, trivial⟩ (truth_g _ _) rfl ?_
      rintro _ _ ⟨rfl, rfl⟩
      refine TOps.indexAddr (off' := k) rfl rfl Try.underlying34 ti3 (by omega) (by omega) (by simp) rfl ?_
      refine TOps.store1 rfl rfl ti3 rfl rfl (by repeat (first | exact Upd.here | apply Upd.there)) (by simp only [List.length_map]; omega) ?_
      refine TOps.fin ?_
      refine Nrm.unB ?_
      refine Nrm.body () trivial ⟨rfl, rfl, rfl, rfl, rfl, rfl, trivial⟩ (Le.drop (Le.drop (Le.rowEq (by rw [← hset, nats_set, ← hval]))))
    try simp only [decide_eq_true_eq, decide_eq_false_iff_not, Bool.and_eq_true, Bool.or_eq_true, Bool.not_eq_true', Bool.and_eq_false_iff, Bool.or_eq_false_iff, Bool.not_eq_false', Int.not_lt, Int.not_le, ne_eq, Decidable.not_not, Option.isSome_iff_ne_none, Option.isNone_iff_eq_none] at hc2
    refine Tri.seq (Tri.region ?_)
    refine TOps.eqlI rfl rfl rfl ?_
    refine TOps.assign rfl rfl ?_
    refine TOps.next ?_
    refine Tri.cond rfl (fun hc3 => ?_) (fun hc3 => ?_)
    · try simp only [decide_eq_true_eq, decide_eq_false_iff_not, Bool.and_eq_true, Bool.or_eq_true, Bool.not_eq_true', Bool.and_eq_false_iff, Bool.or_eq_false_iff, Bool.not_eq_false', Int.not_lt, Int.not_le, ne_eq, Decidable.not_not, Option.isSome_iff_ne_none, Option.isNone_iff_eq_none] at hc3
      have hval : lev (decide ((tc vs 1 d.args : Int) = d.args.length)) (decide (0 < (tc vs 0 d.args : Int))) = tfun vs d := by rw [htn]; unfold tnode; rw [if_neg hc1, if_neg hc2, if_pos hc3]
      refine Tri.region ?_
      refine TOps.move rfl rfl ?_
      refine TOps.move rfl rfl ?_
      refine TOps.indexAddrA rfl rfl Try.underlying73 ti3 (by omega) (by omega) rfl rfl ?_
      refine TOps.load1 rfl ti3 (by first | exact Rd.lit (by repeat (first | exact List.Mem.head _ | apply List.Mem.tail)) rfl | (repeat (first | assumption | apply Rd.up))) rfl ?_
      refine TOps.move rfl rfl ?_
      refine TOps.eqlI rfl rfl rfl ?_
      refine TOps.indexAddrA rfl rfl Try.underlying73 ti3 (by omega) (by omega) rfl rfl ?_
      refine TOps.load1 rfl ti3 (by first | exact Rd.lit (by repeat (first | exact List.Mem.head _ | apply List.Mem.tail)) rfl | (repeat (first | assumption | apply Rd.up))) rfl ?_
      refine TOps.gtr rfl rfl rfl ?_
      refine TOps.call (vs := [_, _]) Try.call41 ⟨rfl, rfl, trivial⟩ (truth_g _ _) rfl ?_
      rintro _ _ ⟨rfl, rfl⟩
      refine TOps.indexAddr (off' := k) rfl rfl Try.underlying34 ti3 (by omega) (by omega) (by simp) rfl ?_
      refine TOps.store1 rfl rfl ti3 rfl rfl (by repeat (first | exact Upd.here | apply Upd.there)) (by simp only [List.length_map]; omega) ?_
      refine TOps.fin ?_
      refine Nrm.unB ?_
      refine Nrm.body () trivial ⟨rfl, rfl, rfl, rfl, rfl, rfl, trivial⟩ (Le.drop (Le.drop (Le.rowEq (by rw [← hset, nats_set, ← hval]))))
    try simp only [decide_eq_true_eq, decide_eq_false_iff_not, Bool.and_eq_true, Bool.or_eq_true, Bool.not_eq_true', Bool.and_eq_false_iff, Bool.or_eq_false_iff, Bool.not_eq_false', Int.not_lt, Int.not_le, ne_eq, Decidable.not_not, Option.isSome_iff_ne_none, Option.isNone_iff_eq_none] at hc3
    refine Tri.seq (Tri.region ?_)
    refine TOps.eqlI rfl rfl rfl ?_
    refine TOps.assign rfl rfl ?_
    refine TOps.next ?_
    refine Tri.cond rfl (fun hc4 => ?_) (fun hc4 => ?_)
    · try simp only [decide_eq_true_eq, decide_eq_false_iff_not, Bool.and_eq_true, Bool.or_eq_true, Bool.not_eq_true', Bool.and_eq_false_iff, Bool.or_eq_false_iff, Bool.not_eq_false', Int.not_lt, Int.not_le, ne_eq, Decidable.not_not, Option.isSome_iff_ne_none, Option.isNone_iff_eq_none] at hc4
      have hval : lev (decide (0 < (tc vs 1 d.args : Int))) (decide ((tc vs 0 d.args : Int) = d.args.length)) = tfun vs d := by rw [htn]; unfold tnode; rw [if_neg hc1, if_neg hc2, if_neg hc3, if_pos hc4]
      refine Tri.region ?_
      refine TOps.move rfl rfl ?_
      refine TOps.move rfl rfl ?_
      refine TOps.indexAddrA rfl rfl Try.underlying73 ti3 (by omega) (by omega) rfl rfl ?_
      refine TOps.load1 rfl ti3 (by first | exact Rd.lit (by repeat (first | exact List.Mem.head _ | apply List.Mem.tail)) rfl | (repeat (first | assumption | apply Rd.up))) rfl ?_
      refine TOps.gtr rfl rfl rfl ?_
      refine TOps.indexAddrA rfl rfl Try.underlying73 ti3 (by omega) (by omega) rfl rfl ?_
      refine TOps.load1 rfl ti3 (by first | exact Rd.lit (by repeat (first | exact List.Mem.head _ | apply List.Mem.tail)) rfl | (repeat (first | assumption | apply Rd.up))) rfl ?_
      refine TOps.move rfl rfl ?_
      refine TOps.eqlI rfl rfl rfl ?_
      refine TOps.call (vs := [_, _]) Try.call41 ⟨rfl, rfl, trivial⟩ (truth_g _ _) rfl ?_
      rintro _ _ ⟨rfl, rfl⟩
      refine TOps.indexAddr (off' := k) rfl rfl Try.underlying34 ti3 (by omega) (by omega) (by simp) rfl ?_
      refine TOps.store1 rfl rfl ti3 rfl rfl (by repeat (first | exact Upd.here | apply Upd.there)) (by simp only [List.length_map]; omega) ?_
      refine TOps.fin ?_
      refine Nrm.unB ?_
      refine Nrm.body () trivial ⟨rfl, rfl, rfl, rfl, rfl, rfl, trivial⟩ (Le.drop (Le.drop (Le.rowEq (by rw [← hset, nats_set, ← hval]))))
    try simp only [decide_eq_true_eq, decide_eq_false_iff_not, Bool.and_eq_true, Bool.or_eq_true, Bool.not_eq_true', Bool.and_eq_false_iff, Bool.or_eq_false_iff, Bool.not_eq_false', Int.not_lt, Int.not_le, ne_eq, Decidable.not_not, Option.isSome_iff_ne_none, Option.isNone_iff_eq_none] at hc4
    refine Tri.seq (Tri.region ?_)
    refine TOps.eqlI rfl rfl rfl ?_
    refine TOps.assign rfl rfl ?_
    refine TOps.next ?_
    refine Tri.cond rfl (fun hc5 => ?_) (fun hc5 => ?_)
    · try simp only [decide_eq_true_eq, decide_eq_false_iff_not, Bool.and_eq_true, Bool.or_eq_true, Bool.not_eq_true', Bool.and_eq_false_iff, Bool.or_eq_false_iff, Bool.not_eq_false', Int.not_lt, Int.not_le, ne_eq, Decidable.not_not, Option.isSome_iff_ne_none, Option.isNone_iff_eq_none] at hc5
      have hval : lev (decide (d.k ≤ (tc vs 1 d.args : Int))) (decide ((d.args.length : Int) - (tc vs 0 d.args : Int) < d.k)) = tfun vs d := by
        rw [htn]; unfold tnode; rw [if_neg hc1, if_neg hc2, if_neg hc3, if_neg hc4, if_pos hc5]
        congr 1; exact decide_eq_decide.2 (by omega)
      refine Tri.region ?_
      refine TOps.move rfl rfl ?_
      refine TOps.move rfl rfl ?_
      refine TOps.indexAddrA rfl rfl Try.underlying73 ti3 (by omega) (by omega) rfl rfl ?_
      refine TOps.load1 rfl ti3 (by first | exact Rd.lit (by repeat (first | exact List.Mem.head _ | apply List.Mem.tail)) rfl | (repeat (first | assumption | apply Rd.up))) rfl ?_
      first | refine TOps.fieldB 1 rfl Try.underlying36 rfl rfl ti3 rfl rfl rfl ?_ | refine TOps.fieldN 1 rfl Try.underlying36 rfl rfl ti3 rfl rfl rfl ?_
      refine TOps.load1 rfl ti3 (by first | exact Rd.lit (by repeat (first | exact List.Mem.head _ | apply List.Mem.tail)) rfl | (repeat (first | assumption | exact Rd.fld (by assumption) 1 rfl | apply Rd.up))) rfl ?_
      refine TOps.geq rfl rfl rfl ?_
      refine TOps.move rfl rfl ?_
      refine TOps.indexAddrA rfl rfl Try.underlying73 ti3 (by omega) (by omega) rfl rfl ?_
      refine TOps.load1 rfl ti3 (by first | exact Rd.lit (by repeat (first | exact List.Mem.head _ | apply List.Mem.tail)) rfl | (repeat (first | assumption | apply Rd.up))) rfl ?_
      refine TOps.sub rfl rfl (wrapI (by omega) (by omega)) rfl ?_
      first | refine TOps.fieldB 1 rfl Try.underlying36 rfl rfl ti3 rfl rfl rfl ?_ | refine TOps.fieldN 1 rfl Try.underlying36 rfl rfl ti3 rfl rfl rfl ?_
      refine TOps.load1 rfl ti3 (by first | exact Rd.lit (by repeat (first | exact List.Mem.head _ | apply List.Mem.tail)) rfl | (repeat (first | assumption | exact Rd.fld (by assumption) 1 rfl | apply Rd.up))) rfl ?_
      refine TOps.lss rfl rfl rfl ?_
      refine TOps.call (vs := [_, _]) Try.call41 ⟨rfl, rfl, trivial⟩ (truth_g _ _) rfl ?_
      rintro _ _ ⟨rfl, rfl⟩
      refine TOps.indexAddr (off' := k) rfl rfl Try.underlying34 ti3 (by omega) (by omega) (by simp) rfl ?_
      refine TOps.store1 rfl rfl ti3 rfl rfl (by repeat (first | exact Upd.here | apply Upd.there)) (by simp only [List.length_map]; omega) ?_
      refine TOps.fin ?_
      refine Nrm.unB ?_
      refine Nrm.body () trivial ⟨rfl, rfl, rfl, rfl, rfl, rfl, trivial⟩ (Le.drop (Le.drop (Le.rowEq (by rw [← hset, nats_set, ← hval]))))
    try simp only [decide_eq_true_eq, decide_eq_false_iff_not, Bool.and_eq_true, Bool.or_eq_true, Bool.not_eq_true', Bool.and_eq_false_iff, Bool.or_eq_false_iff, Bool.not_eq_false', Int.not_lt, Int.not_le, ne_eq, Decidable.not_not, Option.isSome_iff_ne_none, Option.isNone_iff_eq_none] at hc5
    have hval : lev (decide ((tc vs 2 d.args : Int) = 0) && decide ((tc vs 1 d.args : Int).tmod 2 = 1)) (decide ((tc vs 2 d.args : Int) = 0)) = tfun vs d := by
      rw [htn]; unfold tnode; rw [if_neg hc1, if_neg hc2, if_neg hc3, if_neg hc4, if_neg hc5, lev_xor]
    refine Tri.region ?_
    refine TOps.move rfl rfl ?_
    refine TOps.move rfl rfl ?_
    refine TOps.indexAddrA rfl rfl Try.underlying73 ti3 (by omega) (by omega) rfl rfl ?_
    refine TOps.load1 rfl ti3 (by first | exact Rd.lit (by repeat (first | exact List.Mem.head _ | apply List.Mem.tail)) rfl | (repeat (first | assumption | apply Rd.up))) rfl ?_
    refine TOps.eqlI rfl rfl rfl ?_
    refine TOps.move rfl rfl ?_
    refine' TOps.andB 4 rfl rfl rfl rfl (fun hg13_5 => ?_) ?_; rotate_left
    · have hg13_5' := hg13_5
      try simp only [decide_eq_true_eq, decide_eq_false_iff_not, Bool.and_eq_true, Bool.or_eq_true, Bool.not_eq_true', Bool.and_eq_false_iff, Bool.or_eq_false_iff, Bool.not_eq_false', Int.not_lt, Int.not_le, ne_eq, Decidable.not_not] at hg13_5'
      refine TOps.strip 5 true rfl rfl hg13_5 rfl ?_
      refine TOps.indexAddrA rfl rfl Try.underlying73 ti3 (by omega) (by omega) rfl rfl ?_
      refine TOps.load1 rfl ti3 (by first | exact Rd.lit (by repeat (first | exact List.Mem.head _ | apply List.Mem.tail)) rfl | (repeat (first | assumption | apply Rd.up))) rfl ?_
      refine TOps.rem rfl rfl (by decide) rfl rfl ?_
      refine TOps.eqlI rfl rfl rfl ?_
      refine TOps.blk rfl (by repeat (first | exact Ext.refl _ | refine Ext.cons rfl ?_)) (by repeat (first | exact Le.refl _ | apply Le.drop))
    refine TOps.indexAddrA rfl rfl Try.underlying73 ti3 (by omega) (by omega) rfl rfl ?_
    refine TOps.load1 rfl ti3 (by first | exact Rd.lit (by repeat (first | exact List.Mem.head _ | apply List.Mem.tail)) rfl | (repeat (first | assumption | apply Rd.up))) rfl ?_
    refine TOps.eqlI rfl rfl rfl ?_
    refine TOps.call (vs := [_, _]) Try.call41 ⟨rfl, rfl, trivial⟩ (truth_g _ _) rfl ?_
    rintro _ _ ⟨rfl, rfl⟩
    refine TOps.indexAddr (off' := k) rfl rfl Try.underlying34 ti3 (by omega) (by omega) (by simp) rfl ?_
    refine TOps.store1 rfl rfl ti3 rfl rfl (by repeat (first | exact Upd.here | apply Upd.there)) (by simp only [List.length_map]; omega) ?_
    refine TOps.fin ?_
    refine Nrm.unB ?_
    refine Nrm.body () trivial ⟨rfl, rfl, rfl, rfl, rfl, rfl, trivial⟩ (Le.drop (Le.drop (Le.rowEq (by rw [← hset, nats_set, ← hval]))))
  refine Nrm.of hS hM ?_
  refine Nrm.next ?_
  refine Tri.seq (Tri.region ?_)
  refine TOps.move rfl rfl ?_
  refine TOps.assign rfl rfl ?_
  refine TOps.next ?_
  refine Tri.ret1 (H' := _) Try.results23 (fun _ _ h => h) (.tmp rfl) (Le.consOf s3) ⟨b15, rfl, rfl⟩
end Go.Proofs
