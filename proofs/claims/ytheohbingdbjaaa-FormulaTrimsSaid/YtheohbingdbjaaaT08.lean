import Derived.Test.YtheohbingdbjaaaS08
import Derived.Test.YtheohbingdbjaaaGL21
namespace Go.Proofs
open Go.GL
set_option linter.unusedVariables false
set_option linter.unusedSimpArgs false
theorem rsize_g {H : List Ent} {fv : Value} {F : Fm} (hF : RF H fv F) (hk : F.ok) (hg : F.Good) :
    Gives Try.prog 26 [fv] H (R1 (.tuple (List.toArray [.int .i64 (F.sizeN : Nat), .int .i64 (F.sizeA : Nat)])) H) := by
  have hF0 := hF
  obtain ⟨a, off, cap, nsp, rfl, hN⟩ := hF
  have g0 := hg.v0; have g1 := hg.v1; have g2 := hg.n1
  obtain ⟨v, hv⟩ := Int.eq_ofNat_of_zero_le g0
  have hvn : F.vars.toNat = v := by omega
  have hbl := F.below_length
  rw [hv] at hF0 ⊢
  refine Gives.enter Try.func26 rfl (by exact Try.ntmps26) rfl ?_
  refine Tri.seq (Tri.region ?_)
  refine TOps.boxN rfl ti24 rfl rfl (fun b1 => ?_)
  refine TOps.hide (fun H1 l1 s1 r1 => ?_)
  replace hF0 := hF0.le l1; replace hN := hN.le l1
  refine TOps.assign rfl rfl ?_
  refine TOps.assign rfl rfl ?_
  refine TOps.next ?_
  refine Tri.seq (Tri.region ?_)
  refine TOps.loadN rfl ti24 (by first | exact Rd.all (by repeat (first | exact List.Mem.head _ | apply List.Mem.tail)) | (repeat (first | assumption | apply Rd.up))) rfl rfl ?_
  refine TOps.call (vs := [_]) Try.call40 ⟨rfl, trivial⟩ (rbelow_g hF0 hk hg) rfl ?_
  rintro _ _ ⟨b, cp, rfl, rfl⟩
  refine TOps.assign rfl rfl ?_
  refine TOps.next ?_
  refine Tri.seq ?_
  refine Tri.seq (Tri.region ?_)
  first | refine TOps.fieldB 1 rfl Try.underlying24 rfl rfl ti22 rfl rfl rfl ?_ | refine TOps.fieldN 1 rfl Try.underlying24 rfl rfl ti22 rfl rfl rfl ?_
  refine TOps.load1 rfl ti22 (by first | exact Rd.lit (by repeat (first | exact List.Mem.head _ | apply List.Mem.tail)) rfl | (repeat (first | assumption | exact Rd.fld (by assumption) 1 rfl | apply Rd.up))) rfl ?_
  refine TOps.len rfl Try.underlying22 rfl ?_
  refine TOps.move rfl rfl ?_
  refine TOps.next ?_
  refine Tri.range (X := Unit) (fun x k => [(1, .pointer (some ⟨b1, 0, none⟩)), (2, .int .i64 (szN F.below v k : Nat)), (3, .int .i64 (szA F.below v F.nodes k : Nat)), (4, slV (some b) 0 (F.vars.toNat + F.nodes.length) cp), (10, slV a off F.nodes.length cap nsp)]) (fun x k => row (some b) 4 1 cp (bools F.below) :: H1) (fun x k => True) (by omega) rfl rfl rfl (fun _ _ => ⟨rfl, rfl, rfl, rfl⟩) () trivial ⟨rfl, rfl, rfl, rfl, rfl, trivial⟩ (by repeat (first | exact Le.refl _ | assumption | apply Le.drop)) (fun k x hlt hp => ?_) (fun x ac wc hp hS hM => ?_)
  · skip
    obtain ⟨nb, aa, ao, acap, asp, rfl, rfl, hn⟩ := hN.at hlt
    have hfi := hg.fits k hlt
    have hcells := hn.cells
    have hal := hfi.len
    have q1 := szN_le F.below v k
    have q2 := szA_le (m := F.below) (v := v) (nodes := F.nodes) (fun i hi => (hg.fits i hi).len) k (by omega)
    refine Tri.seq (Tri.region ?_)
    refine TOps.move rfl rfl ?_
    refine TOps.indexAddr (off' := off + k * 3) rfl rfl Try.underlying22 ti38 (by omega) (by omega) (by simp) rfl ?_
    refine TOps.loadN rfl ti38 (by first | exact Rd.all (by repeat (first | exact List.Mem.head _ | apply List.Mem.tail)) | (repeat (first | assumption | apply Rd.up))) rfl rfl ?_
    refine TOps.alloc ti38 rfl (fun b6 => ?_)
    refine TOps.assign rfl rfl ?_
    refine TOps.storeN rfl rfl ti38 rfl rfl (by repeat (first | exact Upd.here | apply Upd.there)) (by first | decide | (simp; done) | (simp; omega)) ?_
    refine TOps.next ?_
    refine Tri.seq (Tri.region ?_)
    refine TOps.move rfl rfl ?_
    refine TOps.field0 rfl Try.underlying24 rfl rfl ti3 rfl rfl rfl ?_
    refine TOps.load1 rfl ti3 (by first | exact Rd.lit (by repeat (first | exact List.Mem.head _ | apply List.Mem.tail)) rfl | (repeat (first | assumption | exact Rd.fld (by assumption) 0 rfl | apply Rd.up))) rfl ?_
    refine TOps.move rfl rfl ?_
    refine TOps.add (r := ((v + k : Nat) : Int)) rfl rfl (by rw [wrapI (by omega) (by omega)]; omega) rfl ?_
    refine TOps.indexAddr (off' := v + k) rfl rfl Try.underlying40 ti4 (by omega) (by omega) (by omega) rfl ?_
    refine TOps.load1 (v := .bool (F.below.getD (v + k) false)) rfl ti4 (Rd.lit (by repeat (first | exact List.Mem.head _ | apply List.Mem.tail)) (bools_get (by omega))) rfl ?_
    refine TOps.next ?_
    refine Tri.cond rfl (fun hc1 => ?_) (fun hc1 => ?_)
    · try simp only [decide_eq_true_eq, decide_eq_false_iff_not, Bool.and_eq_true, Bool.or_eq_true, Bool.not_eq_true', Bool.and_eq_false_iff, Bool.or_eq_false_iff, Bool.not_eq_false', Int.not_lt, Int.not_le, ne_eq, Decidable.not_not, Option.isSome_iff_ne_none, Option.isNone_iff_eq_none] at hc1
      refine Tri.drawC rfl [(1, .pointer (some ⟨b1, 0, none⟩)), (4, slV (some b) 0 (F.vars.toNat + F.nodes.length) cp), (10, slV (some nb) off F.nodes.length cap), (11, .int .i64 F.nodes.length), (12, .int .i64 k), (6, .pointer (some ⟨b6, 0, none⟩))] [(2, .int .i64 (szN F.below v k : Nat)), (3, .int .i64 (szA F.below v F.nodes k : Nat))] [_, _, _, _, _, _, _, _, _] (row (some b6) 38 3 1 [.int .i64 F.nodes[k].kind, .int .i64 F.nodes[k].k, slV aa ao F.nodes[k].args.length acap asp] :: row (some b) 4 1 cp (bools F.below) :: H1) [7, 8] rfl ⟨rfl, rfl, rfl, rfl, rfl, rfl, trivial⟩ ⟨rfl, rfl, trivial⟩ (by repeat (first | exact Le.refl _ | assumption | apply Le.drop)) (by
        refine ⟨?_, ?_, ?_, ?_, ?_, ?_, ?_, ?_, ?_, trivial⟩
        · refine ⟨fun x S c he hw hd hc hcu hm _ => ?_, trivial⟩
          refine TOps.move (hw _ _ rfl) rfl ?_
          exact TOps.fin (Nrm.draw x (fun _ _ _ => rfl) rfl (by first | exact Le.refl _ | assumption | exact (by repeat (first | exact Le.refl _ | assumption | apply Le.drop))))
        · refine ⟨fun x S c he hw hd hc hcu hm _ => ?_, trivial⟩
          obtain ⟨h0, -⟩ := hd
          refine TOps.add h0 rfl (wrapI (by omega) (by omega)) rfl ?_
          exact TOps.fin (Nrm.draw x (fun _ _ _ => rfl) rfl (by first | exact Le.refl _ | assumption | exact (by repeat (first | exact Le.refl _ | assumption | apply Le.drop))))
        · refine ⟨fun x S c he hw hd hc hcu hm _ => ?_, trivial⟩
          refine TOps.move (hw _ _ rfl) rfl ?_
          exact TOps.fin (Nrm.draw x (fun _ _ _ => rfl) rfl (by first | exact Le.refl _ | assumption | exact (by repeat (first | exact Le.refl _ | assumption | apply Le.drop))))
        · refine ⟨fun x S c he hw hd hc hcu hm _ => ?_, trivial⟩
          first | refine TOps.fieldB 2 (he _ _ rfl) Try.underlying38 rfl rfl ti36 rfl rfl rfl ?_ | refine TOps.fieldN 2 (he _ _ rfl) Try.underlying38 rfl rfl ti36 rfl rfl rfl ?_
          exact TOps.fin (Nrm.draw x (fun _ _ _ => rfl) rfl (by first | exact Le.refl _ | assumption | exact (by repeat (first | exact Le.refl _ | assumption | apply Le.drop))))
        · refine ⟨fun x S c he hw hd hc hcu hm _ => ?_, trivial⟩
          obtain ⟨h3, -⟩ := hd
          refine TOps.load1 h3 ti36 (by first | exact Rd.lit (by repeat (first | exact List.Mem.head _ | apply List.Mem.tail)) rfl | (repeat (first | assumption | exact Rd.fld (by assumption) 2 rfl | apply Rd.up))) rfl ?_
          exact TOps.fin (Nrm.draw x (fun _ _ _ => rfl) rfl (by first | exact Le.refl _ | assumption | exact (by repeat (first | exact Le.refl _ | assumption | apply Le.drop))))
        · refine ⟨fun x S c he hw hd hc hcu hm _ => ?_, trivial⟩
          obtain ⟨h4, -⟩ := hd
          refine TOps.len h4 Try.underlying36 rfl ?_
          exact TOps.fin (Nrm.draw x (fun _ _ _ => rfl) rfl (by first | exact Le.refl _ | assumption | exact (by repeat (first | exact Le.refl _ | assumption | apply Le.drop))))
        · refine ⟨fun x S c he hw hd hc hcu hm _ => ?_, trivial⟩
          obtain ⟨h2, h5, -⟩ := hd
          refine TOps.add h2 h5 (wrapI (by omega) (by omega)) rfl ?_
          exact TOps.fin (Nrm.draw x (fun _ _ _ => rfl) rfl (by first | exact Le.refl _ | assumption | exact (by repeat (first | exact Le.refl _ | assumption | apply Le.drop))))
        · refine ⟨fun x S c he hw hd hc hcu hm _ => ?_, trivial⟩
          obtain ⟨h1, h0, _, -⟩ := hd
          refine TOps.assign h1 rfl ?_
          exact TOps.fin (Nrm.draw x (fun _ _ _ => rfl) rfl (by first | exact Le.refl _ | assumption | exact (by repeat (first | exact Le.refl _ | assumption | apply Le.drop))))
        · refine ⟨fun x S c he hw hd hc hcu hm _ => ?_, trivial⟩
          obtain ⟨h6, h7, h0, h1, h2, h3, h4, h5, _, _, -⟩ := hd
          refine TOps.assign h6 rfl ?_
          exact TOps.fin (Nrm.draw x (fun _ _ _ => rfl) rfl (by first | exact Le.refl _ | assumption | exact (by repeat (first | exact Le.refl _ | assumption | apply Le.drop))))
        ) ?_
      refine Nrm.body () trivial ⟨rfl, rfl, rfl, (by refine congrArg (fun z : Int => some (Value.int .i64 z)) ?_; simp only [szN, hc1]; simp), (by refine congrArg (fun z : Int => some (Value.int .i64 z)) ?_; simp only [szA, hc1]; simp [hlt]), rfl, rfl, trivial⟩ (by repeat (first | exact Le.refl _ | assumption | apply Le.drop))
    try simp only [decide_eq_true_eq, decide_eq_false_iff_not, Bool.and_eq_true, Bool.or_eq_true, Bool.not_eq_true', Bool.and_eq_false_iff, Bool.or_eq_false_iff, Bool.not_eq_false', Int.not_lt, Int.not_le, ne_eq, Decidable.not_not, Option.isSome_iff_ne_none, Option.isNone_iff_eq_none] at hc1
    refine Tri.fin ?_
    refine Nrm.body () trivial ⟨rfl, rfl, rfl, (by refine congrArg (fun z : Int => some (Value.int .i64 z)) ?_; simp only [szN, hc1]; simp), (by refine congrArg (fun z : Int => some (Value.int .i64 z)) ?_; simp only [szA, hc1]; simp [hlt]), rfl, rfl, trivial⟩ (by repeat (first | exact Le.refl _ | assumption | apply Le.drop))
  refine Nrm.of hS hM ?_
  refine Nrm.next ?_
  refine Tri.seq (Tri.region ?_)
  refine TOps.move rfl rfl ?_
  refine TOps.move rfl rfl ?_
  refine TOps.assign rfl rfl ?_
  refine TOps.assign rfl rfl ?_
  refine TOps.next ?_
  refine Tri.ret2 (H' := H) Try.results26 (fun _ _ h => h) (.tmp rfl) (.tmp rfl) (Le.drop l1) ⟨by unfold Fm.sizeN Fm.sizeA; rw [hvn], rfl⟩
end Go.Proofs
