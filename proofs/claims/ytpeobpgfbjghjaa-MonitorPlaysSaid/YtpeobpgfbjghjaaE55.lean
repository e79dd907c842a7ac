import Derived.Test.YtpeobpgfbjghjaaD55
import Derived.Test.YtpeobpgfbjghjaaGL50
namespace Go.Proofs
open Go.GL
set_option linter.unusedVariables false
set_option linter.unusedSimpArgs false
theorem mnearest_g {H : List Ent} {m : Nat} {F : Fm} {nv lv : Value} {f : Nat} (hr : Rd H m 0 [.int .i64 F.vars, nv, .int .i64 F.top, .int .i64 f, lv]) (hF : RF H (.agg (List.toArray [.int .i64 F.vars, nv, .int .i64 F.top])) F) (hg : F.Good) (hf : f < 2 ^ F.vars.toNat) : Gives Try.prog 41 [.pointer (some ⟨m, 0, none⟩)] H (R1 (.tuple (List.toArray [.int .i64 (F.nearSet f : Nat), errV 47 (F.nearErr f)])) H) := by
  have g0 := hg.v0; have g1 := hg.v1
  obtain ⟨v, hv⟩ := Int.eq_ofNat_of_zero_le g0
  have hvn : F.vars.toNat = v := by omega
  have hff := hf
  rw [hvn] at hff
  have hr0 := hr
  rw [hv] at hr0
  refine Gives.enter Try.func41 rfl (by exact Try.ntmps41) rfl ?_
  refine Tri.seq (Tri.region ?_)
  refine TOps.assign rfl rfl ?_
  refine TOps.assign rfl rfl ?_
  refine TOps.next ?_
  refine Tri.seq ?_
  refine Tri.seq (Tri.region ?_)
  refine TOps.move rfl rfl ?_
  refine TOps.eqlPtrNil rfl Try.underlying31 rfl ?_
  refine TOps.next ?_
  refine Tri.cond rfl (fun hc1 => ?_) (fun hc1 => ?_)
  · exact absurd hc1 (by first | decide | simp)
  try simp only [decide_eq_true_eq, decide_eq_false_iff_not, Bool.and_eq_true, Bool.or_eq_true, Bool.not_eq_true', Bool.and_eq_false_iff, Bool.or_eq_false_iff, Bool.not_eq_false', Int.not_lt, Int.not_le, ne_eq, Decidable.not_not, Option.isSome_iff_ne_none, Option.isNone_iff_eq_none] at hc1
  refine Tri.fin ?_
  refine Nrm.next ?_
  refine Tri.seq ?_
  refine Tri.seq (Tri.region ?_)
  refine TOps.move rfl rfl ?_
  refine TOps.nilCheck rfl rfl ?_
  refine TOps.field0 rfl Try.underlying70 rfl rfl ti24 rfl rfl rfl ?_
  refine TOps.field0 rfl Try.underlying24 rfl rfl ti3 rfl rfl rfl ?_
  refine TOps.load1 rfl ti3 (hr0.fld 0 rfl) rfl ?_
  refine TOps.gtr rfl rfl rfl ?_
  refine TOps.next ?_
  refine Tri.cond rfl (fun hc2 => ?_) (fun hc2 => ?_)
  · try simp only [decide_eq_true_eq, decide_eq_false_iff_not, Bool.and_eq_true, Bool.or_eq_true, Bool.not_eq_true', Bool.and_eq_false_iff, Bool.or_eq_false_iff, Bool.not_eq_false', Int.not_lt, Int.not_le, ne_eq, Decidable.not_not, Option.isSome_iff_ne_none, Option.isNone_iff_eq_none] at hc2
    refine Tri.seq (Tri.region ?_)
    refine TOps.makeInterface rfl Try.underlying47 rfl rfl ?_
    refine TOps.assign rfl rfl ?_
    refine TOps.assign rfl rfl ?_
    refine TOps.next ?_
    refine Tri.ret2 (H' := H) Try.results41 (fun _ _ h => h) (.tmp rfl) (.tmp rfl) (Le.refl _) ⟨by rw [Fm.nearErr_1 (by omega), Fm.nearSet_1 (by omega)]; rfl, rfl⟩
  try simp only [decide_eq_true_eq, decide_eq_false_iff_not, Bool.and_eq_true, Bool.or_eq_true, Bool.not_eq_true', Bool.and_eq_false_iff, Bool.or_eq_false_iff, Bool.not_eq_false', Int.not_lt, Int.not_le, ne_eq, Decidable.not_not, Option.isSome_iff_ne_none, Option.isNone_iff_eq_none] at hc2
  have h12 : ¬ 12 < F.vars := by omega
  have h4096 := pow12 (v := v) (by omega)
  have hsh : ishl 1 v = ((2 ^ v : Nat) : Int) := ishl_one (by omega)
  have hnr : F.nearTo f (2 ^ v) = F.near f := by unfold Fm.near; rw [hvn]
  obtain ⟨N, hNN⟩ : ∃ N, N = 2 ^ v := ⟨_, rfl⟩
  rw [← hNN] at hsh h4096 hnr
  refine Tri.fin ?_
  refine Nrm.next ?_
  refine Tri.seq (Tri.region ?_)
  refine TOps.assign rfl rfl ?_
  refine TOps.next ?_
  refine Tri.seq ?_
  refine Tri.seq (Tri.region ?_)
  refine TOps.move rfl rfl ?_
  refine TOps.nilCheck rfl rfl ?_
  refine TOps.field0 rfl Try.underlying70 rfl rfl ti24 rfl rfl rfl ?_
  refine TOps.field0 rfl Try.underlying24 rfl rfl ti3 rfl rfl rfl ?_
  refine TOps.load1 rfl ti3 (hr0.fld 0 rfl) rfl ?_
  refine TOps.shl (r := (N : Int)) rfl rfl (by omega) hsh rfl ?_
  refine TOps.move rfl rfl ?_
  refine TOps.next ?_
  refine Tri.range (X := Unit) (fun x k => [(0, .pointer (some ⟨m, 0, none⟩)), (4, .int .i64 (bI (F.nearTo f k)))]) (fun x k => H) (fun x k => True) (by omega) rfl rfl rfl (fun _ _ => ⟨rfl, rfl, rfl, rfl⟩) () trivial ⟨rfl, rfl, trivial⟩ (by repeat (first | exact Le.refl _ | assumption | apply Le.drop)) (fun k x hlt hp => ?_) (fun x ac wc hp hS hM => ?_)
  · skip
    have hlt' : k < 2 ^ v := by omega
    have hol : k ||| f < 2 ^ v := Nat.or_lt_two_pow hlt' hff
    have hns : F.nearTo f (k + 1) = (bif F.cand f k && ((F.nearTo f k).isNone || decide (pp 24 k < bP (F.nearTo f k))) then some k else F.nearTo f k) := rfl
    have hbd := F.nearTo_lt f k
    generalize F.nearTo f k = B at *
    have hcd : (decide (k &&& f = 0) && F.value ((k ||| f : Nat) : Int)) = F.cand f k := rfl
    refine Tri.seq (Tri.region ?_)
    refine TOps.move rfl rfl ?_
    refine TOps.assign rfl rfl ?_
    refine TOps.next ?_
    refine Tri.seq (Tri.region ?_)
    refine TOps.move rfl rfl ?_
    refine TOps.move rfl rfl ?_
    refine TOps.nilCheck rfl rfl ?_
    first | refine TOps.fieldB 3 rfl Try.underlying70 rfl rfl ti3 rfl rfl rfl ?_ | refine TOps.fieldN 3 rfl Try.underlying70 rfl rfl ti3 rfl rfl rfl ?_
    refine TOps.load1 rfl ti3 (by first | exact Rd.lit (by repeat (first | exact List.Mem.head _ | apply List.Mem.tail)) rfl | (repeat (first | assumption | exact Rd.fld (by assumption) 3 rfl | apply Rd.up))) rfl ?_
    refine TOps.and (r := ((k &&& f : Nat) : Int)) rfl rfl (iand_nat (by omega) (by omega)) rfl ?_
    refine TOps.eqlIr (r := decide (k &&& f = 0)) rfl rfl (decide_eq_decide.2 (by omega)) rfl ?_
    refine TOps.move rfl rfl ?_
    refine' TOps.andB 8 rfl rfl rfl rfl (fun hg9_7 => ?_) ?_; rotate_left
    · have hg9_7' := hg9_7
      try simp only [decide_eq_true_eq, decide_eq_false_iff_not, Bool.and_eq_true, Bool.or_eq_true, Bool.not_eq_true', Bool.and_eq_false_iff, Bool.or_eq_false_iff, Bool.not_eq_false', Int.not_lt, Int.not_le, ne_eq, Decidable.not_not] at hg9_7'
      refine TOps.strip 7 true rfl rfl hg9_7 rfl ?_
      refine TOps.move rfl rfl ?_
      refine TOps.move rfl rfl ?_
      refine TOps.move rfl rfl ?_
      refine TOps.nilCheck rfl rfl ?_
      first | refine TOps.fieldB 3 rfl Try.underlying70 rfl rfl ti3 rfl rfl rfl ?_ | refine TOps.fieldN 3 rfl Try.underlying70 rfl rfl ti3 rfl rfl rfl ?_
      refine TOps.load1 rfl ti3 (by first | exact Rd.lit (by repeat (first | exact List.Mem.head _ | apply List.Mem.tail)) rfl | (repeat (first | assumption | exact Rd.fld (by assumption) 3 rfl | apply Rd.up))) rfl ?_
      refine TOps.or (r := ((k ||| f : Nat) : Int)) rfl rfl (ior_nat (by omega) (by omega)) rfl ?_
      refine TOps.call (vs := [_, _]) Try.call35 ⟨rfl, rfl, trivial⟩ (mvalue_g hr hF hg hf (k ||| f) (by rw [hvn]; exact hol)) rfl ?_
      rintro _ _ ⟨rfl, rfl⟩
      refine TOps.blk rfl (by repeat (first | exact Ext.refl _ | refine Ext.cons rfl ?_)) (by repeat (first | exact Le.refl _ | apply Le.drop))
    refine TOps.move rfl rfl ?_
    refine' TOps.andB 11 rfl rfl rfl rfl (fun hg9_17 => ?_) ?_; rotate_left
    · have hg9_17' := hg9_17
      try simp only [decide_eq_true_eq, decide_eq_false_iff_not, Bool.and_eq_true, Bool.or_eq_true, Bool.not_eq_true', Bool.and_eq_false_iff, Bool.or_eq_false_iff, Bool.not_eq_false', Int.not_lt, Int.not_le, ne_eq, Decidable.not_not] at hg9_17'
      refine TOps.strip 17 true rfl rfl hg9_17 rfl ?_
      refine TOps.move rfl rfl ?_
      refine TOps.lssr (r := B.isNone) rfl rfl (bI_neg B) rfl ?_
      refine TOps.move rfl rfl ?_
      refine' TOps.orB 7 rfl rfl rfl rfl (fun hg9_20 => ?_) ?_; rotate_left
      · have hg9_20' := hg9_20
        try simp only [decide_eq_true_eq, decide_eq_false_iff_not, Bool.and_eq_true, Bool.or_eq_true, Bool.not_eq_true', Bool.and_eq_false_iff, Bool.or_eq_false_iff, Bool.not_eq_false', Int.not_lt, Int.not_le, ne_eq, Decidable.not_not] at hg9_20'
        obtain ⟨s, hB⟩ : ∃ s, B = some s := by cases B with | none => cases hg9_20 | some s => exact ⟨s, rfl⟩
        have hs := hbd s hB
        have hbI : bI B = (s : Int) := by rw [hB]; rfl
        have hbP : bP B = pp 24 s := by rw [hB]; rfl
        refine TOps.strip 20 false rfl rfl hg9_20 rfl ?_
        refine TOps.move rfl rfl ?_
        refine TOps.convI (r := (k : Int)) rfl Try.underlying3 Try.underlying80 (wrapU _ (by omega) (by omega)) rfl ?_
        refine TOps.call (vs := [_]) Try.call42 ⟨rfl, trivial⟩ (ones_g (x := k) (by omega)) rfl ?_
        rintro _ _ ⟨rfl, rfl⟩
        refine TOps.move rfl rfl ?_
        refine TOps.convI (r := (s : Int)) rfl Try.underlying3 Try.underlying80 (by rw [hbI]; exact wrapU _ (by omega) (by omega)) rfl ?_
        refine TOps.call (vs := [_]) Try.call42 ⟨rfl, trivial⟩ (ones_g (x := s) (by omega)) rfl ?_
        rintro _ _ ⟨rfl, rfl⟩
        refine TOps.lssr (r := decide (pp 24 k < bP B)) rfl rfl (by rw [hbP]; exact decide_eq_decide.2 (by omega)) rfl ?_
        refine TOps.blk rfl (by repeat (first | exact Ext.refl _ | refine Ext.cons rfl ?_)) (by repeat (first | exact Le.refl _ | apply Le.drop))
      refine TOps.blk rfl (by repeat (first | exact Ext.refl _ | refine Ext.cons rfl ?_)) (by repeat (first | exact Le.refl _ | apply Le.drop))
    refine TOps.next ?_
    refine Tri.cond rfl (fun hc3 => ?_) (fun hc3 => ?_)
    · skip
      have hq : (F.cand f k && (B.isNone || decide (pp 24 k < bP B))) = true := hc3
      rw [hq, cond_true] at hns
      refine Tri.region ?_
      refine TOps.move rfl rfl ?_
      refine TOps.assign rfl rfl ?_
      refine TOps.fin ?_
      refine Nrm.body () trivial ⟨rfl, rfl, rfl, (by rw [hns]; rfl), trivial⟩ (by repeat (first | exact Le.refl _ | assumption | apply Le.drop))
    skip
    have hq : (F.cand f k && (B.isNone || decide (pp 24 k < bP B))) = false := hc3
    rw [hq, cond_false] at hns
    refine Tri.fin ?_
    refine Nrm.body () trivial ⟨rfl, rfl, rfl, (by rw [hns]; rfl), trivial⟩ (by repeat (first | exact Le.refl _ | assumption | apply Le.drop))
  rw [hnr] at hS
  refine Nrm.of hS hM ?_
  refine Nrm.next ?_
  refine Tri.seq ?_
  refine Tri.seq (Tri.region ?_)
  refine TOps.move rfl rfl ?_
  refine TOps.lssr (r := (F.near f).isNone) rfl rfl (bI_neg _) rfl ?_
  refine TOps.next ?_
  refine Tri.cond rfl (fun hc4 => ?_) (fun hc4 => ?_)
  · skip
    have hno : F.near f = none := by cases h : F.near f with | none => rfl | some s => rw [h] at hc4; cases hc4
    refine Tri.seq (Tri.region ?_)
    refine TOps.makeInterface rfl Try.underlying47 rfl rfl ?_
    refine TOps.assign rfl rfl ?_
    refine TOps.assign rfl rfl ?_
    refine TOps.next ?_
    refine Tri.ret2 (H' := H) Try.results41 (fun _ _ h => h) (.tmp rfl) (.tmp rfl) (Le.refl _) ⟨by rw [Fm.nearErr_2 h12 hno, Fm.nearSet_2 hno]; rfl, rfl⟩
  skip
  obtain ⟨s, hso⟩ : ∃ s, F.near f = some s := by cases h : F.near f with | none => rw [h] at hc4; cases hc4 | some s => exact ⟨s, rfl⟩
  refine Tri.fin ?_
  refine Nrm.next ?_
  refine Tri.seq (Tri.region ?_)
  refine TOps.move rfl rfl ?_
  refine TOps.assign rfl rfl ?_
  refine TOps.assign rfl rfl ?_
  refine TOps.next ?_
  refine Tri.ret2 (H' := H) Try.results41 (fun _ _ h => h) (.tmp rfl) (.tmp rfl) (Le.refl _) ⟨by rw [Fm.nearErr_3 h12 hso, Fm.nearSet_3 h12 hso, hso]; rfl, rfl⟩
theorem mnearestNil_g {H : List Ent} : Gives Try.prog 41 [.pointer none] H (R1 (.tuple (List.toArray [.int .i64 0, errV 47 (some 1)])) H) := by
  refine Gives.enter Try.func41 rfl (by exact Try.ntmps41) rfl ?_
  refine Tri.seq (Tri.region ?_)
  refine TOps.assign rfl rfl ?_
  refine TOps.assign rfl rfl ?_
  refine TOps.next ?_
  refine Tri.seq ?_
  refine Tri.seq (Tri.region ?_)
  refine TOps.move rfl rfl ?_
  refine TOps.eqlPtrNil rfl Try.underlying31 rfl ?_
  refine TOps.next ?_
  refine Tri.cond rfl (fun hc1 => ?_) (fun hc1 => ?_)
  · try simp only [decide_eq_true_eq, decide_eq_false_iff_not, Bool.and_eq_true, Bool.or_eq_true, Bool.not_eq_true', Bool.and_eq_false_iff, Bool.or_eq_false_iff, Bool.not_eq_false', Int.not_lt, Int.not_le, ne_eq, Decidable.not_not, Option.isSome_iff_ne_none, Option.isNone_iff_eq_none] at hc1
    refine Tri.seq (Tri.region ?_)
    refine TOps.makeInterface rfl Try.underlying47 rfl rfl ?_
    refine TOps.assign rfl rfl ?_
    refine TOps.assign rfl rfl ?_
    refine TOps.next ?_
    refine Tri.ret2 (H' := H) Try.results41 (fun _ _ h => h) (.tmp rfl) (.tmp rfl) (Le.refl _) ⟨rfl, rfl⟩
  · exact absurd hc1 (by first | decide | simp)
theorem mmargin_g {H : List Ent} {m : Nat} {F : Fm} {nv lv : Value} {f : Nat} (hr : Rd H m 0 [.int .i64 F.vars, nv, .int .i64 F.top, .int .i64 f, lv]) (hF : RF H (.agg (List.toArray [.int .i64 F.vars, nv, .int .i64 F.top])) F) (hg : F.Good) (hf : f < 2 ^ F.vars.toNat) : Gives Try.prog 24 [.pointer (some ⟨m, 0, none⟩)] H (R1 (.tuple (List.toArray [.int .i64 (pp 24 (F.nearSet f) : Nat), errV 47 (F.nearErr f)])) H) := by
  have g0 := hg.v0; have g1 := hg.v1
  have hns := F.nearSet_lt f
  have h24 := pow24 (show F.vars.toNat ≤ 24 by omega)
  refine Gives.enter Try.func24 rfl (by exact Try.ntmps24) rfl ?_
  refine Tri.seq (Tri.region ?_)
  refine TOps.assign rfl rfl ?_
  refine TOps.assign rfl rfl ?_
  refine TOps.next ?_
  refine Tri.seq (Tri.region ?_)
  refine TOps.move rfl rfl ?_
  refine TOps.call (vs := [_]) Try.call41 ⟨rfl, trivial⟩ (mnearest_g hr hF hg hf) rfl ?_
  rintro _ _ ⟨rfl, rfl⟩
  refine TOps.move rfl rfl ?_
  refine TOps.extract rfl rfl rfl ?_
  refine TOps.extract rfl rfl rfl ?_
  refine TOps.assign rfl rfl ?_
  refine TOps.assign rfl rfl ?_
  refine TOps.next ?_
  refine Tri.seq (Tri.region ?_)
  refine TOps.move rfl rfl ?_
  refine TOps.convI (r := (F.nearSet f : Int)) rfl Try.underlying3 Try.underlying80 (wrapU _ (by omega) (by omega)) rfl ?_
  refine TOps.call (vs := [_]) Try.call42 ⟨rfl, trivial⟩ (ones_g (x := F.nearSet f) (by omega)) rfl ?_
  rintro _ _ ⟨rfl, rfl⟩
  refine TOps.move rfl rfl ?_
  refine TOps.assign rfl rfl ?_
  refine TOps.assign rfl rfl ?_
  refine TOps.next ?_
  refine Tri.ret2 (H' := H) Try.results24 (fun _ _ h => h) (.tmp rfl) (.tmp rfl) (Le.refl _) ⟨rfl, rfl⟩
theorem mmarginNil_g {H : List Ent} : Gives Try.prog 24 [.pointer none] H (fun u H' => ∃ z, u = .tuple (List.toArray [.int .i64 z, errV 47 (some 1)]) ∧ H = H') := by
  refine Gives.enter Try.func24 rfl (by exact Try.ntmps24) rfl ?_
  refine Tri.seq (Tri.region ?_)
  refine TOps.assign rfl rfl ?_
  refine TOps.assign rfl rfl ?_
  refine TOps.next ?_
  refine Tri.seq (Tri.region ?_)
  refine TOps.move rfl rfl ?_
  refine TOps.call (vs := [_]) Try.call41 ⟨rfl, trivial⟩ (mnearestNil_g) rfl ?_
  rintro _ _ ⟨rfl, rfl⟩
  refine TOps.move rfl rfl ?_
  refine TOps.extract rfl rfl rfl ?_
  refine TOps.extract rfl rfl rfl ?_
  refine TOps.assign rfl rfl ?_
  refine TOps.assign rfl rfl ?_
  refine TOps.next ?_
  refine Tri.seq (Tri.region ?_)
  refine TOps.move rfl rfl ?_
  refine TOps.convI (r := 0) rfl Try.underlying3 Try.underlying80 (wrapU _ (by omega) (by omega)) rfl ?_
  refine TOps.call (vs := [_]) Try.call42 ⟨rfl, trivial⟩ (ones_g (x := 0) (by omega)) rfl ?_
  rintro _ _ ⟨rfl, rfl⟩
  refine TOps.move rfl rfl ?_
  refine TOps.assign rfl rfl ?_
  refine TOps.assign rfl rfl ?_
  refine TOps.next ?_
  refine Tri.ret2 (H' := H) Try.results24 (fun _ _ h => h) (.tmp rfl) (.tmp rfl) (Le.refl _) ⟨_, rfl, rfl⟩
theorem mnext_g {H : List Ent} {m : Nat} {F : Fm} {nv lv : Value} {f : Nat} (hr : Rd H m 0 [.int .i64 F.vars, nv, .int .i64 F.top, .int .i64 f, lv]) (hF : RF H (.agg (List.toArray [.int .i64 F.vars, nv, .int .i64 F.top])) F) (hg : F.Good) (hf : f < 2 ^ F.vars.toNat) : Gives Try.prog 25 [.pointer (some ⟨m, 0, none⟩)] H (R1 (.tuple (List.toArray [.int .i64 (F.nearSet f : Nat), errV 47 (F.nextErr f)])) H) := by
  refine Gives.enter Try.func25 rfl (by exact Try.ntmps25) rfl ?_
  refine Tri.seq (Tri.region ?_)
  refine TOps.assign rfl rfl ?_
  refine TOps.assign rfl rfl ?_
  refine TOps.next ?_
  refine Tri.seq (Tri.region ?_)
  refine TOps.move rfl rfl ?_
  refine TOps.call (vs := [_]) Try.call41 ⟨rfl, trivial⟩ (mnearest_g hr hF hg hf) rfl ?_
  rintro _ _ ⟨rfl, rfl⟩
  refine TOps.move rfl rfl ?_
  refine TOps.extract rfl rfl rfl ?_
  refine TOps.extract rfl rfl rfl ?_
  refine TOps.assign rfl rfl ?_
  refine TOps.assign rfl rfl ?_
  refine TOps.next ?_
  refine Tri.seq ?_
  refine Tri.seq (Tri.region ?_)
  refine TOps.move rfl rfl ?_
  refine TOps.eqlNil (T := 47) (o := F.nearErr f) rfl Try.underlying29 rfl ?_
  refine TOps.move rfl rfl ?_
  refine' TOps.andB 2 rfl rfl rfl rfl (fun hg2_2 => ?_) ?_; rotate_left
  · have hg2_2' := hg2_2
    try simp only [decide_eq_true_eq, decide_eq_false_iff_not, Bool.and_eq_true, Bool.or_eq_true, Bool.not_eq_true', Bool.and_eq_false_iff, Bool.or_eq_false_iff, Bool.not_eq_false', Int.not_lt, Int.not_le, ne_eq, Decidable.not_not] at hg2_2'
    refine TOps.strip 2 true rfl rfl hg2_2 rfl ?_
    refine TOps.move rfl rfl ?_
    refine TOps.eqlIr (r := decide (F.nearSet f = 0)) rfl rfl (decide_eq_decide.2 (by omega)) rfl ?_
    refine TOps.blk rfl (by repeat (first | exact Ext.refl _ | refine Ext.cons rfl ?_)) (by repeat (first | exact Le.refl _ | apply Le.drop))
  refine TOps.next ?_
  refine Tri.cond rfl (fun hc1 => ?_) (fun hc1 => ?_)
  · skip
    have hq : F.nearErr f = none ∧ F.nearSet f = 0 := by simpa using hc1
    refine Tri.seq (Tri.region ?_)
    refine TOps.makeInterface rfl Try.underlying47 rfl rfl ?_
    refine TOps.assign rfl rfl ?_
    refine TOps.assign rfl rfl ?_
    refine TOps.next ?_
    refine Tri.ret2 (H' := H) Try.results25 (fun _ _ h => h) (.tmp rfl) (.tmp rfl) (Le.refl _) ⟨by unfold Fm.nextErr; rw [hq.1, hq.2]; rfl, rfl⟩
  skip
  have hq : ¬ (F.nearErr f = none ∧ F.nearSet f = 0) := by intro h; rw [h.1, h.2] at hc1; simp at hc1
  have hne : F.nextErr f = F.nearErr f := by
    unfold Fm.nextErr
    cases h : F.nearErr f with
    | some e => rfl
    | none => simp only; rw [if_neg (fun h2 => hq ⟨h, h2⟩)]
  refine Tri.fin ?_
  refine Nrm.next ?_
  refine Tri.seq (Tri.region ?_)
  refine TOps.move rfl rfl ?_
  refine TOps.move rfl rfl ?_
  refine TOps.assign rfl rfl ?_
  refine TOps.assign rfl rfl ?_
  refine TOps.next ?_
  refine Tri.ret2 (H' := H) Try.results25 (fun _ _ h => h) (.tmp rfl) (.tmp rfl) (Le.refl _) ⟨by rw [hne], rfl⟩
theorem mnextNil_g {H : List Ent} : Gives Try.prog 25 [.pointer none] H (R1 (.tuple (List.toArray [.int .i64 0, errV 47 (some 1)])) H) := by
  refine Gives.enter Try.func25 rfl (by exact Try.ntmps25) rfl ?_
  refine Tri.seq (Tri.region ?_)
  refine TOps.assign rfl rfl ?_
  refine TOps.assign rfl rfl ?_
  refine TOps.next ?_
  refine Tri.seq (Tri.region ?_)
  refine TOps.move rfl rfl ?_
  refine TOps.call (vs := [_]) Try.call41 ⟨rfl, trivial⟩ (mnearestNil_g) rfl ?_
  rintro _ _ ⟨rfl, rfl⟩
  refine TOps.move rfl rfl ?_
  refine TOps.extract rfl rfl rfl ?_
  refine TOps.extract rfl rfl rfl ?_
  refine TOps.assign rfl rfl ?_
  refine TOps.assign rfl rfl ?_
  refine TOps.next ?_
  refine Tri.seq ?_
  refine Tri.seq (Tri.region ?_)
  refine TOps.move rfl rfl ?_
  refine TOps.eqlNil (T := 47) (o := some 1) rfl Try.underlying29 rfl ?_
  refine TOps.move rfl rfl ?_
  refine' TOps.andB 2 rfl rfl rfl rfl (fun hg2_2 => ?_) ?_; rotate_left
  · exact absurd hg2_2 (by first | decide | simp)
  rotate_left
  exact false
  refine TOps.next ?_
  refine Tri.cond rfl (fun hc1 => ?_) (fun hc1 => ?_)
  · exact absurd hc1 (by first | decide | simp)
  try simp only [decide_eq_true_eq, decide_eq_false_iff_not, Bool.and_eq_true, Bool.or_eq_true, Bool.not_eq_true', Bool.and_eq_false_iff, Bool.or_eq_false_iff, Bool.not_eq_false', Int.not_lt, Int.not_le, ne_eq, Decidable.not_not, Option.isSome_iff_ne_none, Option.isNone_iff_eq_none] at hc1
  refine Tri.fin ?_
  refine Nrm.next ?_
  refine Tri.seq (Tri.region ?_)
  refine TOps.move rfl rfl ?_
  refine TOps.move rfl rfl ?_
  refine TOps.assign rfl rfl ?_
  refine TOps.assign rfl rfl ?_
  refine TOps.next ?_
  refine Tri.ret2 (H' := H) Try.results25 (fun _ _ h => h) (.tmp rfl) (.tmp rfl) (Le.refl _) ⟨rfl, rfl⟩
end Go.Proofs
