import Derived.Test.YtheohbingdbjaaaR08
namespace Go.Proofs
open Go.GL
set_option linter.unusedVariables false
set_option linter.unusedSimpArgs false
theorem rsupport_g {H : List Ent} {fv : Value} {F : Fm} (hF : RF H fv F) (hk : F.ok) (hg : F.Good) :
    Gives Try.prog 27 [fv] H (R1 (.int .i64 (F.support : Nat)) H) := by
  have hF0 := hF
  obtain ⟨a, off, cap, nsp, rfl, hN⟩ := hF
  have g0 := hg.v0; have g1 := hg.v1; have g2 := hg.n1
  obtain ⟨v, hv⟩ := Int.eq_ofNat_of_zero_le g0
  have hvn : F.vars.toNat = v := by omega
  have hbl := F.below_length
  rw [hv] at hF0 ⊢
  refine Gives.enter Try.func27 rfl (by exact Try.ntmps27) rfl ?_
  refine Tri.seq (Tri.region ?_)
  refine TOps.boxN rfl ti24 rfl rfl (fun b1 => ?_)
  refine TOps.hide (fun H1 l1 s1 r1 => ?_)
  replace hF0 := hF0.le l1
  refine TOps.assign rfl rfl ?_
  refine TOps.next ?_
  refine Tri.seq (Tri.region ?_)
  refine TOps.assign rfl rfl ?_
  refine TOps.next ?_
  refine Tri.seq ?_
  refine Tri.seq (Tri.region ?_)
  refine TOps.loadN rfl ti24 (by first | exact Rd.all (by repeat (first | exact List.Mem.head _ | apply List.Mem.tail)) | (repeat (first | assumption | apply Rd.up))) rfl rfl ?_
  refine TOps.call (vs := [_]) Try.call40 ⟨rfl, trivial⟩ (rbelow_g hF0 hk hg) rfl ?_
  rintro _ _ ⟨b, cp, rfl, rfl⟩
  refine TOps.len (m := F.vars.toNat + F.nodes.length) rfl Try.underlying40 rfl ?_
  refine TOps.move rfl rfl ?_
  refine TOps.next ?_
  refine Tri.range (X := Unit) (fun x k => [(1, .pointer (some ⟨b1, 0, none⟩)), (3, .int .i64 (setOf F.below (min k v) : Nat)), (7, slV (some b) 0 (F.vars.toNat + F.nodes.length) cp)]) (fun x k => row (some b) 4 1 cp (bools F.below) :: H1) (fun x k => True) (by omega) rfl rfl rfl (fun _ _ => ⟨rfl, rfl, rfl, rfl⟩) () trivial ⟨rfl, (by rw [Nat.zero_min]; rfl), rfl, trivial⟩ (by repeat (first | exact Le.refl _ | assumption | apply Le.drop)) (fun k x hlt hp => ?_) (fun x ac wc hp hS hM => ?_)
  · skip
    have hsl := setOf_lt F.below (min k v)
    have h24 := pow24 (k := min k v) (by omega)
    refine Tri.seq (Tri.region ?_)
    refine TOps.move rfl rfl ?_
    refine TOps.indexAddr (off' := k) rfl rfl Try.underlying40 ti4 (by omega) (by omega) (by simp) rfl ?_
    refine TOps.load1 (v := .bool (F.below.getD k false)) rfl ti4 (Rd.lit (List.Mem.head _) (bools_get (by omega))) rfl ?_
    refine TOps.assign rfl rfl ?_
    refine TOps.assign rfl rfl ?_
    refine TOps.next ?_
    refine Tri.seq (Tri.region ?_)
    refine TOps.move rfl rfl ?_
    refine TOps.move rfl rfl ?_
    refine' TOps.andB 4 rfl rfl rfl rfl (fun hg5_1 => ?_) ?_; rotate_left
    · have hg5_1' := hg5_1
      try simp only [decide_eq_true_eq, decide_eq_false_iff_not, Bool.and_eq_true, Bool.or_eq_true, Bool.not_eq_true', Bool.and_eq_false_iff, Bool.or_eq_false_iff, Bool.not_eq_false', Int.not_lt, Int.not_le, ne_eq, Decidable.not_not] at hg5_1'
      refine TOps.strip 1 true rfl rfl hg5_1 rfl ?_
      refine TOps.move rfl rfl ?_
      refine TOps.field0 rfl Try.underlying24 rfl rfl ti3 rfl rfl rfl ?_
      refine TOps.load1 rfl ti3 (by first | exact Rd.lit (by repeat (first | exact List.Mem.head _ | apply List.Mem.tail)) rfl | (repeat (first | assumption | exact Rd.fld (by assumption) 0 rfl | apply Rd.up))) rfl ?_
      refine TOps.lss rfl rfl rfl ?_
      refine TOps.blk rfl (by repeat (first | exact Ext.refl _ | refine Ext.cons rfl ?_)) (by repeat (first | exact Le.refl _ | apply Le.drop))
    refine TOps.next ?_
    refine Tri.cond rfl (fun hc1 => ?_) (fun hc1 => ?_)
    · try simp only [decide_eq_true_eq, decide_eq_false_iff_not, Bool.and_eq_true, Bool.or_eq_true, Bool.not_eq_true', Bool.and_eq_false_iff, Bool.or_eq_false_iff, Bool.not_eq_false', Int.not_lt, Int.not_le, ne_eq, Decidable.not_not, Option.isSome_iff_ne_none, Option.isNone_iff_eq_none] at hc1
      have hkv : k < v := by omega
      have h24' := pow24 (k := k) (by omega)
      have hx : (F.below.getD k false && decide ((k : Int) < (v : Int))) = true := by rw [hc1.1, decide_eq_true hc1.2]; rfl
      have hst := setOf_min F.below v k
      rw [hx] at hst
      refine Tri.region ?_
      refine TOps.move rfl rfl ?_
      refine TOps.move rfl rfl ?_
      refine TOps.shl (r := ((2 ^ k : Nat) : Int)) rfl rfl (by omega) (by rw [Int.toNat_natCast]; exact ishl_one (by omega)) rfl ?_
      refine TOps.or rfl rfl (ior_nat (by omega) (by omega)) rfl ?_
      refine TOps.assign rfl rfl ?_
      refine TOps.fin ?_
      refine Nrm.body () trivial ⟨rfl, rfl, rfl, (by refine congrArg (fun z : Int => some (Value.int .i64 z)) ?_; rw [hst]; rfl), rfl, trivial⟩ (by repeat (first | exact Le.refl _ | assumption | apply Le.drop))
    try simp only [decide_eq_true_eq, decide_eq_false_iff_not, Bool.and_eq_true, Bool.or_eq_true, Bool.not_eq_true', Bool.and_eq_false_iff, Bool.or_eq_false_iff, Bool.not_eq_false', Int.not_lt, Int.not_le, ne_eq, Decidable.not_not, Option.isSome_iff_ne_none, Option.isNone_iff_eq_none] at hc1
    have hx : (F.below.getD k false && decide ((k : Int) < (v : Int))) = false := by rcases hc1 with h | h; (rw [h]; rfl); (rw [decide_eq_false (by omega), Bool.and_false])
    have hst := setOf_min F.below v k
    rw [hx] at hst
    refine Tri.fin ?_
    refine Nrm.body () trivial ⟨rfl, rfl, rfl, (by refine congrArg (fun z : Int => some (Value.int .i64 z)) ?_; rw [hst]; rfl), rfl, trivial⟩ (by repeat (first | exact Le.refl _ | assumption | apply Le.drop))
  refine Nrm.of hS hM ?_
  refine Nrm.next ?_
  refine Tri.seq (Tri.region ?_)
  refine TOps.move rfl rfl ?_
  refine TOps.assign rfl rfl ?_
  refine TOps.next ?_
  refine Tri.ret1 (H' := H) Try.results27 (fun _ _ h => h) (.tmp rfl) (Le.drop l1) ⟨by unfold Fm.support; rw [hvn, show min (v + F.nodes.length) v = v by omega], rfl⟩
end Go.Proofs
