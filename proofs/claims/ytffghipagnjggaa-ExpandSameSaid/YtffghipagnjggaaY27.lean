import Derived.Test.YtffghipagnjggaaP27
import Derived.Test.YtffghipagnjggaaGL95
namespace Go.Proofs
open Go.GL
set_option linter.unusedVariables false
set_option linter.unusedSimpArgs false
set_option maxHeartbeats 4000000 in
theorem expandSame_g {H : List Ent} {fv : Value} {F : Fm} (hF : RF H fv F) (hk : F.ok) (st : Int) (b0 : 0 ≤ st ∧ st ≤ 4294967295) :
    Gives Try.prog 9 [fv, .int .u32 st] H (R1 (.bool true) H) := by
  have hF0 := hF
  obtain ⟨na, off, cap, nsp, rfl, hN⟩ := hF
  obtain ⟨A0, rfl⟩ := Int.eq_ofNat_of_zero_le b0.1
  refine Gives.enter Try.func9 rfl (by exact Try.ntmps9) rfl ?_
  refine Tri.seq (Tri.region ?_)
  refine TOps.boxN rfl ti24 rfl rfl (fun b2 => ?_)
  refine TOps.hide (fun H1 l1 s1 r2 => ?_)
  replace hF0 := hF0.le l1
  refine TOps.assign rfl rfl ?_
  refine TOps.next ?_
  refine Tri.seq ?_
  refine Tri.seq (Tri.region ?_)
  refine TOps.call (vs := []) Try.call10 trivial (awake27_g) rfl ?_
  rintro _ _ ⟨rfl, rfl⟩
  refine TOps.not rfl rfl ?_
  refine TOps.move rfl rfl ?_
  refine' TOps.orB 2 rfl rfl rfl rfl (fun hg1_2 => ?_) ?_; rotate_left
  · have hg1_2' := hg1_2
    try simp only [decide_eq_true_eq, decide_eq_false_iff_not, Bool.and_eq_true, Bool.or_eq_true, Bool.not_eq_true', Bool.and_eq_false_iff, Bool.or_eq_false_iff, Bool.not_eq_false', Int.not_lt, Int.not_le, ne_eq, Decidable.not_not] at hg1_2'
    refine TOps.strip 2 false rfl rfl hg1_2 rfl ?_
    refine TOps.loadN rfl ti24 (by first | exact Rd.all (by repeat (first | exact List.Mem.head _ | apply List.Mem.tail)) | (repeat (first | assumption | apply Rd.up))) rfl rfl ?_
    refine TOps.call (vs := [_]) Try.call11 ⟨rfl, trivial⟩ (heavy27_g hF0 hk) rfl ?_
    rintro _ _ ⟨rfl, rfl⟩
    refine TOps.blk rfl (by repeat (first | exact Ext.refl _ | refine Ext.cons rfl ?_)) (by repeat (first | exact Le.refl _ | apply Le.drop))
  refine TOps.move rfl rfl ?_
  refine' TOps.orB 3 rfl rfl rfl rfl (fun hg1_6 => ?_) ?_; rotate_left
  · have hg1_6' := hg1_6
    try simp only [decide_eq_true_eq, decide_eq_false_iff_not, Bool.and_eq_true, Bool.or_eq_true, Bool.not_eq_true', Bool.and_eq_false_iff, Bool.or_eq_false_iff, Bool.not_eq_false', Int.not_lt, Int.not_le, ne_eq, Decidable.not_not] at hg1_6'
    refine TOps.strip 6 false rfl rfl hg1_6 rfl ?_
    refine TOps.loadN rfl ti24 (by first | exact Rd.all (by repeat (first | exact List.Mem.head _ | apply List.Mem.tail)) | (repeat (first | assumption | apply Rd.up))) rfl rfl ?_
    refine TOps.call (vs := [_]) Try.call21 ⟨rfl, trivial⟩ (check_g hF0 hk) rfl ?_
    rintro _ _ ⟨rfl, rfl⟩
    refine TOps.neqNil rfl Try.underlying28 rfl ?_
    refine TOps.blk rfl (by repeat (first | exact Ext.refl _ | refine Ext.cons rfl ?_)) (by repeat (first | exact Le.refl _ | apply Le.drop))
  refine TOps.move rfl rfl ?_
  refine' TOps.orB 3 rfl rfl rfl rfl (fun hg1_11 => ?_) ?_; rotate_left
  · have hg1_11' := hg1_11
    try simp only [decide_eq_true_eq, decide_eq_false_iff_not, Bool.and_eq_true, Bool.or_eq_true, Bool.not_eq_true', Bool.and_eq_false_iff, Bool.or_eq_false_iff, Bool.not_eq_false', Int.not_lt, Int.not_le, ne_eq, Decidable.not_not] at hg1_11'
    refine TOps.strip 11 false rfl rfl hg1_11 rfl ?_
    refine TOps.field0 rfl Try.underlying24 rfl rfl ti3 rfl rfl rfl ?_
    refine TOps.load1 rfl ti3 (by first | exact Rd.lit (by repeat (first | exact List.Mem.head _ | apply List.Mem.tail)) rfl | (repeat (first | assumption | exact Rd.fld (by assumption) 0 rfl | apply Rd.up))) rfl ?_
    refine TOps.lss rfl rfl rfl ?_
    refine TOps.blk rfl (by repeat (first | exact Ext.refl _ | refine Ext.cons rfl ?_)) (by repeat (first | exact Le.refl _ | apply Le.drop))
  refine TOps.move rfl rfl ?_
  refine' TOps.orB 3 rfl rfl rfl rfl (fun hg1_16 => ?_) ?_; rotate_left
  · have hg1_16' := hg1_16
    try simp only [decide_eq_true_eq, decide_eq_false_iff_not, Bool.and_eq_true, Bool.or_eq_true, Bool.not_eq_true', Bool.and_eq_false_iff, Bool.or_eq_false_iff, Bool.not_eq_false', Int.not_lt, Int.not_le, ne_eq, Decidable.not_not] at hg1_16'
    refine TOps.strip 16 false rfl rfl hg1_16 rfl ?_
    refine TOps.field0 rfl Try.underlying24 rfl rfl ti3 rfl rfl rfl ?_
    refine TOps.load1 rfl ti3 (by first | exact Rd.lit (by repeat (first | exact List.Mem.head _ | apply List.Mem.tail)) rfl | (repeat (first | assumption | exact Rd.fld (by assumption) 0 rfl | apply Rd.up))) rfl ?_
    refine TOps.gtr rfl rfl rfl ?_
    refine TOps.blk rfl (by repeat (first | exact Ext.refl _ | refine Ext.cons rfl ?_)) (by repeat (first | exact Le.refl _ | apply Le.drop))
  refine TOps.next ?_
  refine Tri.cond rfl (fun hc1 => ?_) (fun hc1 => ?_)
  · try simp only [decide_eq_true_eq, decide_eq_false_iff_not, Bool.and_eq_true, Bool.or_eq_true, Bool.not_eq_true', Bool.and_eq_false_iff, Bool.or_eq_false_iff, Bool.not_eq_false', Int.not_lt, Int.not_le, ne_eq, Decidable.not_not, Option.isSome_iff_ne_none, Option.isNone_iff_eq_none] at hc1
    refine Tri.seq (Tri.region ?_)
    refine TOps.call (vs := []) Try.call10 trivial (awake27_g) rfl ?_
    rintro _ _ ⟨rfl, rfl⟩
    refine TOps.assign rfl rfl ?_
    refine TOps.next ?_
    refine Tri.ret1 (H' := H) Try.results9 (fun _ _ h => h) (.tmp rfl) l1 ⟨rfl, rfl⟩
  try simp only [decide_eq_true_eq, decide_eq_false_iff_not, Bool.and_eq_true, Bool.or_eq_true, Bool.not_eq_true', Bool.and_eq_false_iff, Bool.or_eq_false_iff, Bool.not_eq_false', Int.not_lt, Int.not_le, ne_eq, Decidable.not_not, Option.isSome_iff_ne_none, Option.isNone_iff_eq_none] at hc1
  have he : F.err = none := by simpa using hc1.1.1.2
  have hg := (Fm.good_iff F).1 he
  have g0 := hg.v0; have g1 := hg.v1
  have hv24 : F.vars.toNat ≤ 24 := by omega
  have h24 := pow24 hv24
  have hpos := Nat.two_pow_pos F.vars.toNat
  obtain ⟨X, hX⟩ : ∃ X, X = A0 % 2 ^ F.vars.toNat := ⟨_, rfl⟩
  have hXlt : X < 2 ^ F.vars.toNat := by rw [hX]; exact Nat.mod_lt _ hpos
  have hsF : F.setErr (X : Int) = none := Fm.setErr_of hg hXlt
  obtain ⟨bb, hbb⟩ : ∃ bb, F.value (X : Int) = bb := ⟨_, rfl⟩
  refine Tri.fin ?_
  refine Nrm.next ?_
  refine Tri.seq (Tri.region ?_)
  refine TOps.move rfl rfl ?_
  refine TOps.convI (r := (A0 : Int)) rfl Try.underlying44 Try.underlying3 (wrapI (by omega) (by omega)) rfl ?_
  refine TOps.field0 rfl Try.underlying24 rfl rfl ti3 rfl rfl rfl ?_
  refine TOps.load1 rfl ti3 (by first | exact Rd.lit (by repeat (first | exact List.Mem.head _ | apply List.Mem.tail)) rfl | (repeat (first | assumption | exact Rd.fld (by assumption) 0 rfl | apply Rd.up))) rfl ?_
  refine TOps.shl (r := ((2 ^ F.vars.toNat : Nat) : Int)) rfl rfl (by omega) (ishl_one (by omega)) rfl ?_
  refine TOps.rem (r := (X : Int)) rfl rfl (by omega) (by rw [hX]; exact tmod_nat A0 (2 ^ F.vars.toNat)) rfl ?_
  refine TOps.assign rfl rfl ?_
  refine TOps.next ?_
  refine Tri.seq (Tri.region ?_)
  refine TOps.loadN rfl ti24 (by first | exact Rd.all (by repeat (first | exact List.Mem.head _ | apply List.Mem.tail)) | (repeat (first | assumption | apply Rd.up))) rfl rfl ?_
  refine TOps.move rfl rfl ?_
  refine TOps.call (vs := [_, _]) Try.call28 ⟨rfl, rfl, trivial⟩ (value_g hF0 hk (X : Int)) rfl ?_
  rintro _ _ ⟨rfl, rfl⟩
  rw [hsF, hbb, show ((none : Option Int).isNone && bb) = bb from rfl]
  refine TOps.move rfl rfl ?_
  refine TOps.extract rfl rfl rfl ?_
  refine TOps.extract rfl rfl rfl ?_
  refine TOps.assign rfl rfl ?_
  refine TOps.assign rfl rfl ?_
  refine TOps.next ?_
  refine Tri.seq (Tri.region ?_)
  refine TOps.loadN rfl ti24 (by first | exact Rd.all (by repeat (first | exact List.Mem.head _ | apply List.Mem.tail)) | (repeat (first | assumption | apply Rd.up))) rfl rfl ?_
  refine TOps.call (vs := [_]) Try.call12 ⟨rfl, trivial⟩ (votes_g hF0 hk) rfl ?_
  rintro _ _ ⟨a0, c0, N0, rfl, hN0, rfl⟩
  refine TOps.move rfl rfl ?_
  refine TOps.extract rfl rfl rfl ?_
  refine TOps.extract rfl rfl rfl ?_
  refine TOps.alloc ti24 rfl (fun b8 => ?_)
  refine TOps.storeN rfl rfl ti24 rfl rfl (by repeat (first | exact Upd.here | apply Upd.there)) (by first | decide | (simp; done) | (simp; omega)) ?_
  refine TOps.assign rfl rfl ?_
  refine TOps.hide (fun H2 l0a s0a r8 => ?_)
  replace r8 : Rd H2 b8 0 [.int .i64 (F.expF 0).vars, slV a0 0 (F.expF 0).nodes.length c0, .int .i64 (F.expF 0).top] := r8
  have k0 := l0a.trans (Le.sub (List.sublist_append_right N0 H1))
  have hX0 : RNodes H2 a0 0 (F.expF 0).nodes := hN0.le (l0a.trans (Le.sub (List.sublist_append_left _ _)))
  replace hF0 := hF0.le k0; replace r2 := r2.le k0
  have m0 := k0.trans l1
  refine TOps.next ?_
  refine Tri.seq (Tri.region ?_)
  refine TOps.loadN rfl ti24 (by first | exact Rd.all (by repeat (first | exact List.Mem.head _ | apply List.Mem.tail)) | (repeat (first | assumption | apply Rd.up))) rfl rfl ?_
  refine TOps.call (vs := [_]) Try.call17 ⟨rfl, trivial⟩ (xors_g hF0 hk) rfl ?_
  rintro _ _ ⟨a1, c1, N1, rfl, hN1, rfl⟩
  refine TOps.move rfl rfl ?_
  refine TOps.extract rfl rfl rfl ?_
  refine TOps.extract rfl rfl rfl ?_
  refine TOps.alloc ti24 rfl (fun b10 => ?_)
  refine TOps.storeN rfl rfl ti24 rfl rfl (by repeat (first | exact Upd.here | apply Upd.there)) (by first | decide | (simp; done) | (simp; omega)) ?_
  refine TOps.assign rfl rfl ?_
  refine TOps.hide (fun H3 l1a s1a r10 => ?_)
  replace r10 : Rd H3 b10 0 [.int .i64 (F.expF 1).vars, slV a1 0 (F.expF 1).nodes.length c1, .int .i64 (F.expF 1).top] := r10
  have k1 := l1a.trans (Le.sub (List.sublist_append_right N1 H2))
  have hX1 : RNodes H3 a1 0 (F.expF 1).nodes := hN1.le (l1a.trans (Le.sub (List.sublist_append_left _ _)))
  replace hF0 := hF0.le k1; replace r2 := r2.le k1; replace r8 := r8.le k1; replace hX0 := hX0.le k1
  have m1 := k1.trans m0
  refine TOps.next ?_
  refine Tri.seq (Tri.region ?_)
  refine TOps.loadN rfl ti24 (by first | exact Rd.all (by repeat (first | exact List.Mem.head _ | apply List.Mem.tail)) | (repeat (first | assumption | apply Rd.up))) rfl rfl ?_
  refine TOps.call (vs := [_]) Try.call22 ⟨rfl, trivial⟩ (binary_g hF0 hk) rfl ?_
  rintro _ _ ⟨a2, c2, N2, rfl, hN2, rfl⟩
  refine TOps.move rfl rfl ?_
  refine TOps.extract rfl rfl rfl ?_
  refine TOps.extract rfl rfl rfl ?_
  refine TOps.alloc ti24 rfl (fun b12 => ?_)
  refine TOps.storeN rfl rfl ti24 rfl rfl (by repeat (first | exact Upd.here | apply Upd.there)) (by first | decide | (simp; done) | (simp; omega)) ?_
  refine TOps.assign rfl rfl ?_
  refine TOps.hide (fun H4 l2a s2a r12 => ?_)
  replace r12 : Rd H4 b12 0 [.int .i64 (F.expF 2).vars, slV a2 0 (F.expF 2).nodes.length c2, .int .i64 (F.expF 2).top] := r12
  have k2 := l2a.trans (Le.sub (List.sublist_append_right N2 H3))
  have hX2 : RNodes H4 a2 0 (F.expF 2).nodes := hN2.le (l2a.trans (Le.sub (List.sublist_append_left _ _)))
  replace hF0 := hF0.le k2; replace r2 := r2.le k2; replace r8 := r8.le k2; replace hX0 := hX0.le k2; replace r10 := r10.le k2; replace hX1 := hX1.le k2
  have m2 := k2.trans m1
  refine TOps.next ?_
  refine Tri.seq (Tri.region ?_)
  refine TOps.loadN rfl ti24 (by first | exact Rd.all (by repeat (first | exact List.Mem.head _ | apply List.Mem.tail)) | (repeat (first | assumption | apply Rd.up))) rfl rfl ?_
  refine TOps.call (vs := [_]) Try.call18 ⟨rfl, trivial⟩ (plain_g hF0 hk) rfl ?_
  rintro _ _ ⟨a3, c3, N3, rfl, hN3, rfl⟩
  refine TOps.move rfl rfl ?_
  refine TOps.extract rfl rfl rfl ?_
  refine TOps.extract rfl rfl rfl ?_
  refine TOps.alloc ti24 rfl (fun b14 => ?_)
  refine TOps.storeN rfl rfl ti24 rfl rfl (by repeat (first | exact Upd.here | apply Upd.there)) (by first | decide | (simp; done) | (simp; omega)) ?_
  refine TOps.assign rfl rfl ?_
  refine TOps.hide (fun H5 l3a s3a r14 => ?_)
  replace r14 : Rd H5 b14 0 [.int .i64 (F.plainF).vars, slV a3 0 (F.plainF).nodes.length c3, .int .i64 (F.plainF).top] := r14
  have k3 := l3a.trans (Le.sub (List.sublist_append_right N3 H4))
  have hX3 : RNodes H5 a3 0 (F.plainF).nodes := hN3.le (l3a.trans (Le.sub (List.sublist_append_left _ _)))
  replace hF0 := hF0.le k3; replace r2 := r2.le k3; replace r8 := r8.le k3; replace hX0 := hX0.le k3; replace r10 := r10.le k3; replace hX1 := hX1.le k3; replace r12 := r12.le k3; replace hX2 := hX2.le k3
  have m3 := k3.trans m2
  refine TOps.next ?_
  refine Tri.seq (Tri.region ?_)
  refine TOps.loadN rfl ti24 (by first | exact Rd.all (by repeat (first | exact List.Mem.head _ | apply List.Mem.tail)) | (repeat (first | assumption | apply Rd.up))) rfl rfl ?_
  refine TOps.call (vs := [_]) Try.call25 ⟨rfl, trivial⟩ (unshare_g hF0 hk) rfl ?_
  rintro _ _ ⟨a4, c4, N4, rfl, hN4, rfl⟩
  refine TOps.move rfl rfl ?_
  refine TOps.extract rfl rfl rfl ?_
  refine TOps.extract rfl rfl rfl ?_
  refine TOps.alloc ti24 rfl (fun b16 => ?_)
  refine TOps.storeN rfl rfl ti24 rfl rfl (by repeat (first | exact Upd.here | apply Upd.there)) (by first | decide | (simp; done) | (simp; omega)) ?_
  refine TOps.assign rfl rfl ?_
  refine TOps.hide (fun H6 l4a s4a r16 => ?_)
  replace r16 : Rd H6 b16 0 [.int .i64 (F.treeF).vars, slV a4 0 (F.treeF).nodes.length c4, .int .i64 (F.treeF).top] := r16
  have k4 := l4a.trans (Le.sub (List.sublist_append_right N4 H5))
  have hX4 : RNodes H6 a4 0 (F.treeF).nodes := hN4.le (l4a.trans (Le.sub (List.sublist_append_left _ _)))
  replace hF0 := hF0.le k4; replace r2 := r2.le k4; replace r8 := r8.le k4; replace hX0 := hX0.le k4; replace r10 := r10.le k4; replace hX1 := hX1.le k4; replace r12 := r12.le k4; replace hX2 := hX2.le k4; replace r14 := r14.le k4; replace hX3 := hX3.le k4
  have m4 := k4.trans m3
  refine TOps.next ?_
  refine Tri.seq (Tri.region ?_)
  refine TOps.move rfl rfl ?_
  refine TOps.move rfl rfl ?_
  refine TOps.move rfl rfl ?_
  refine TOps.move rfl rfl ?_
  refine TOps.move rfl rfl ?_
  refine TOps.buildSlice (vs := errs5 40 (F.expE 0) (F.expE 1) (F.expE 2) F.plainE F.treeE) Try.underlying47 ti28 ⟨rfl, rfl, rfl, rfl, rfl, rfl, rfl, rfl, rfl, rfl, trivial⟩ rfl rfl rfl (errs5_all _ _ _ _ _ _) (errs5_cells _ _ _ _ _ _) rfl (by decide) rfl (fun b87 => ?_)
  refine TOps.assign rfl rfl ?_
  refine TOps.hide (fun H7 l7a s7a r87 => ?_)
  replace r87 : Rd H7 b87 0 [errV 40 (F.expE 0), errV 40 (F.expE 1), errV 40 (F.expE 2), errV 40 F.plainE, errV 40 F.treeE] := r87
  replace r2 := r2.le l7a; replace r8 := r8.le l7a; replace hX0 := hX0.le l7a; replace r10 := r10.le l7a; replace hX1 := hX1.le l7a; replace r12 := r12.le l7a; replace hX2 := hX2.le l7a; replace r14 := r14.le l7a; replace hX3 := hX3.le l7a; replace r16 := r16.le l7a; replace hX4 := hX4.le l7a
  have m7 := l7a.trans m4
  refine TOps.next ?_
  refine Tri.seq ?_
  refine Tri.seq (Tri.region ?_)
  refine TOps.loadN rfl ti24 (by first | exact Rd.all (by repeat (first | exact List.Mem.head _ | apply List.Mem.tail)) | (repeat (first | assumption | apply Rd.up))) rfl rfl ?_
  refine TOps.loadN rfl ti24 (by first | exact Rd.all (by repeat (first | exact List.Mem.head _ | apply List.Mem.tail)) | (repeat (first | assumption | apply Rd.up))) rfl rfl ?_
  refine TOps.loadN rfl ti24 (by first | exact Rd.all (by repeat (first | exact List.Mem.head _ | apply List.Mem.tail)) | (repeat (first | assumption | apply Rd.up))) rfl rfl ?_
  refine TOps.loadN rfl ti24 (by first | exact Rd.all (by repeat (first | exact List.Mem.head _ | apply List.Mem.tail)) | (repeat (first | assumption | apply Rd.up))) rfl rfl ?_
  refine TOps.loadN rfl ti24 (by first | exact Rd.all (by repeat (first | exact List.Mem.head _ | apply List.Mem.tail)) | (repeat (first | assumption | apply Rd.up))) rfl rfl ?_
  refine TOps.buildSlice (vs := [_, _, _, _, _]) (xs := [_, _, _, _, _, _, _, _, _, _, _, _, _, _, _]) Try.underlying48 ti24 ⟨rfl, rfl, rfl, rfl, rfl, rfl, rfl, rfl, rfl, rfl, trivial⟩ rfl rfl rfl rfl rfl rfl (by decide) rfl (fun b93 => ?_)
  refine TOps.hide (fun H8 l8a s8a r93 => ?_)
  replace r2 := r2.le l8a; replace r87 := r87.le l8a; replace r8 := r8.le l8a; replace hX0 := hX0.le l8a; replace r10 := r10.le l8a; replace hX1 := hX1.le l8a; replace r12 := r12.le l8a; replace hX2 := hX2.le l8a; replace r14 := r14.le l8a; replace hX3 := hX3.le l8a; replace r16 := r16.le l8a; replace hX4 := hX4.le l8a
  have m8 := l8a.trans m7
  have hall : ∀ k : Nat, k < 5 → ∃ o G a c, SameAt 40 H8 b87 b93 k F X o G a c := by
    intro k hk5
    rcases (by omega : k = 0 ∨ k = 1 ∨ k = 2 ∨ k = 3 ∨ k = 4) with rfl | rfl | rfl | rfl | rfl
    · exact ⟨_, _, _, _, Rd.fld r87 0 rfl, Rd.seg r93 0 3, hX0, expF_ok F 0, (same_exp hg 0 X).1, (same_exp hg 0 X).2⟩
    · exact ⟨_, _, _, _, Rd.fld r87 1 rfl, Rd.seg r93 3 3, hX1, expF_ok F 1, (same_exp hg 1 X).1, (same_exp hg 1 X).2⟩
    · exact ⟨_, _, _, _, Rd.fld r87 2 rfl, Rd.seg r93 6 3, hX2, expF_ok F 2, (same_exp hg 2 X).1, (same_exp hg 2 X).2⟩
    · exact ⟨_, _, _, _, Rd.fld r87 3 rfl, Rd.seg r93 9 3, hX3, plainF_ok F, (same_plain hg X).1, (same_plain hg X).2⟩
    · exact ⟨_, _, _, _, Rd.fld r87 4 rfl, Rd.seg r93 12 3, hX4, treeF_ok, (same_tree hg X).1, (same_tree hg X).2⟩
  refine TOps.len rfl Try.underlying48 rfl ?_
  refine TOps.move rfl rfl ?_
  refine TOps.next ?_
  refine Tri.range (X := Unit) (fun x k => [(2, .pointer (some ⟨b2, 0, none⟩)), (5, .int .i64 X), (6, .bool bb), (7, .nilIface), (18, slV (some b87) 0 5 5), (93, slV (some b93) 0 5 5)]) (fun x k => H8) (fun x k => True) (by omega) rfl rfl rfl (fun _ _ => ⟨rfl, rfl, rfl, rfl⟩) () trivial ⟨rfl, rfl, rfl, rfl, rfl, rfl, trivial⟩ (by repeat (first | exact Le.refl _ | assumption | apply Le.drop)) (fun k x hlt hp => ?_) (fun x ac wc hp hS hM => ?_)
  · skip
    obtain ⟨o, G, ga, gc, hs⟩ := hall k hlt
    have hse := hs.e; have hsg := hs.g; have hsl := hs.l; have hsf := hs.f
    refine Tri.seq (Tri.region ?_)
    refine TOps.move rfl rfl ?_
    refine TOps.indexAddr (off' := k * 3) rfl rfl Try.underlying48 ti24 (by omega) (by omega) (by simp) rfl ?_
    refine TOps.loadN (vs := [.int .i64 (G).vars, slV ga 0 (G).nodes.length gc, .int .i64 (G).top]) rfl ti24 hsg rfl rfl ?_
    refine TOps.alloc ti24 rfl (fun b20 => ?_)
    refine TOps.assign rfl rfl ?_
    refine TOps.storeN rfl rfl ti24 rfl rfl (by repeat (first | exact Upd.here | apply Upd.there)) (by first | decide | (simp; done) | (simp; omega)) ?_
    refine TOps.next ?_
    refine Tri.seq ?_
    refine Tri.seq (Tri.region ?_)
    refine TOps.move rfl rfl ?_
    refine TOps.move rfl rfl ?_
    refine TOps.indexAddr (off' := k) rfl rfl Try.underlying47 ti28 (by omega) (by omega) (by simp) rfl ?_
    refine TOps.load1 rfl ti28 (hse.le (Le.drop (Le.refl _))) rfl ?_
    refine TOps.neqNil (T := 40) (o := o) rfl Try.underlying28 rfl ?_
    refine TOps.next ?_
    refine Tri.cond rfl (fun hc2 => ?_) (fun hc2 => ?_)
    · try simp only [decide_eq_true_eq, decide_eq_false_iff_not, Bool.and_eq_true, Bool.or_eq_true, Bool.not_eq_true', Bool.and_eq_false_iff, Bool.or_eq_false_iff, Bool.not_eq_false', Int.not_lt, Int.not_le, ne_eq, Decidable.not_not, Option.isSome_iff_ne_none, Option.isNone_iff_eq_none] at hc2
      have ho4 := hsf hc2
      refine Tri.seq ?_
      refine Tri.seq (Tri.region ?_)
      refine TOps.move rfl rfl ?_
      refine TOps.move rfl rfl ?_
      refine TOps.indexAddr (off' := k) rfl rfl Try.underlying47 ti28 (by omega) (by omega) (by simp) rfl ?_
      refine TOps.load1 rfl ti28 (hse.le (Le.drop (Le.refl _))) rfl ?_
      refine TOps.call (vs := [_, _]) Try.call24 ⟨rfl, rfl, trivial⟩ (is_g o 4) rfl ?_
      rintro _ _ ⟨rfl, rfl⟩
      refine TOps.not rfl rfl ?_
      refine TOps.next ?_
      refine Tri.cond rfl (fun hc3 => ?_) (fun hc3 => ?_)
      · try simp only [decide_eq_true_eq, decide_eq_false_iff_not, Bool.and_eq_true, Bool.or_eq_true, Bool.not_eq_true', Bool.and_eq_false_iff, Bool.or_eq_false_iff, Bool.not_eq_false', Int.not_lt, Int.not_le, ne_eq, Decidable.not_not, Option.isSome_iff_ne_none, Option.isNone_iff_eq_none] at hc3
        have hfalse : False := hc3 ho4
        refine Tri.seq (Tri.region ?_)
        refine TOps.assign rfl rfl ?_
        refine TOps.next ?_
        exact hfalse.elim
      try simp only [decide_eq_true_eq, decide_eq_false_iff_not, Bool.and_eq_true, Bool.or_eq_true, Bool.not_eq_true', Bool.and_eq_false_iff, Bool.or_eq_false_iff, Bool.not_eq_false', Int.not_lt, Int.not_le, ne_eq, Decidable.not_not, Option.isSome_iff_ne_none, Option.isNone_iff_eq_none] at hc3
      refine Tri.fin ?_
      refine Nrm.next ?_
      refine Tri.exitTo ?_
      repeat (with_reducible first | refine ExitTo.blk ?_ | refine ExitTo.blkNe rfl ?_ | refine ExitTo.body ?_ | refine ExitTo.brk rfl ?_ | refine ExitTo.bodyNe rfl rfl ?_ | refine ExitTo.seq ?_ | refine ExitTo.loop ?_)
      refine Nrm.body () trivial ⟨rfl, rfl, rfl, rfl, rfl, rfl, rfl, rfl, trivial⟩ (by repeat (first | exact Le.refl _ | assumption | apply Le.drop))
    try simp only [decide_eq_true_eq, decide_eq_false_iff_not, Bool.and_eq_true, Bool.or_eq_true, Bool.not_eq_true', Bool.and_eq_false_iff, Bool.or_eq_false_iff, Bool.not_eq_false', Int.not_lt, Int.not_le, ne_eq, Decidable.not_not, Option.isSome_iff_ne_none, Option.isNone_iff_eq_none] at hc2
    have hon : o = none := by simpa using hc2
    obtain ⟨q1, q2, q3⟩ := hsl hon
    have hsG : G.setErr (X : Int) = none := Fm.setErr_of q1 (by rw [q3]; exact hXlt)
    have hGR : RF (row (some b20) 24 3 1 [.int .i64 (G).vars, slV ga 0 (G).nodes.length gc, .int .i64 (G).top] :: H8) (.agg (List.toArray [.int .i64 (G).vars, slV ga 0 (G).nodes.length gc, .int .i64 (G).top])) G := ⟨ga, 0, gc, none, rfl, hs.r.le (Le.drop (Le.refl _))⟩
    refine Tri.fin ?_
    refine Nrm.next ?_
    refine Tri.seq (Tri.region ?_)
    refine TOps.loadN rfl ti24 (by first | exact Rd.all (by repeat (first | exact List.Mem.head _ | apply List.Mem.tail)) | (repeat (first | assumption | apply Rd.up))) rfl rfl ?_
    refine TOps.move rfl rfl ?_
    refine TOps.call (vs := [_, _]) Try.call28 ⟨rfl, rfl, trivial⟩ (value_g hGR hs.ok (X : Int)) rfl ?_
    rintro _ _ ⟨rfl, rfl⟩
    rw [hsG, show ((none : Option Int).isNone && G.value (X : Int)) = bb from by rw [q2, hbb]; rfl]
    refine TOps.move rfl rfl ?_
    refine TOps.extract rfl rfl rfl ?_
    refine TOps.extract rfl rfl rfl ?_
    refine TOps.assign rfl rfl ?_
    refine TOps.assign rfl rfl ?_
    refine TOps.next ?_
    refine Tri.seq (Tri.region ?_)
    refine TOps.move rfl rfl ?_
    refine TOps.neqNil (T := 40) (o := none) rfl Try.underlying28 rfl ?_
    refine TOps.move rfl rfl ?_
    refine' TOps.orB 2 rfl rfl rfl rfl (fun hg18_2 => ?_) ?_; rotate_left
    · have hg18_2' := hg18_2
      try simp only [decide_eq_true_eq, decide_eq_false_iff_not, Bool.and_eq_true, Bool.or_eq_true, Bool.not_eq_true', Bool.and_eq_false_iff, Bool.or_eq_false_iff, Bool.not_eq_false', Int.not_lt, Int.not_le, ne_eq, Decidable.not_not] at hg18_2'
      refine TOps.strip 2 false rfl rfl hg18_2 rfl ?_
      refine TOps.move rfl rfl ?_
      refine TOps.neqNil (T := 40) (o := none) rfl Try.underlying28 rfl ?_
      refine TOps.blk rfl (by repeat (first | exact Ext.refl _ | refine Ext.cons rfl ?_)) (by repeat (first | exact Le.refl _ | apply Le.drop))
    refine TOps.move rfl rfl ?_
    refine' TOps.orB 3 rfl rfl rfl rfl (fun hg18_6 => ?_) ?_; rotate_left
    · have hg18_6' := hg18_6
      try simp only [decide_eq_true_eq, decide_eq_false_iff_not, Bool.and_eq_true, Bool.or_eq_true, Bool.not_eq_true', Bool.and_eq_false_iff, Bool.or_eq_false_iff, Bool.not_eq_false', Int.not_lt, Int.not_le, ne_eq, Decidable.not_not] at hg18_6'
      refine TOps.strip 6 false rfl rfl hg18_6 rfl ?_
      refine TOps.move rfl rfl ?_
      refine TOps.move rfl rfl ?_
      refine TOps.neqB rfl rfl Try.underlying4 rfl ?_
      refine TOps.blk rfl (by repeat (first | exact Ext.refl _ | refine Ext.cons rfl ?_)) (by repeat (first | exact Le.refl _ | apply Le.drop))
    refine TOps.move rfl rfl ?_
    refine' TOps.orB 5 rfl rfl rfl rfl (fun hg18_11 => ?_) ?_; rotate_left
    · have hg18_11' := hg18_11
      try simp only [decide_eq_true_eq, decide_eq_false_iff_not, Bool.and_eq_true, Bool.or_eq_true, Bool.not_eq_true', Bool.and_eq_false_iff, Bool.or_eq_false_iff, Bool.not_eq_false', Int.not_lt, Int.not_le, ne_eq, Decidable.not_not] at hg18_11'
      refine TOps.strip 11 false rfl rfl hg18_11 rfl ?_
      refine TOps.field0 rfl Try.underlying24 rfl rfl ti3 rfl rfl rfl ?_
      refine TOps.load1 rfl ti3 (by first | exact Rd.lit (by repeat (first | exact List.Mem.head _ | apply List.Mem.tail)) rfl | (repeat (first | assumption | exact Rd.fld (by assumption) 0 rfl | apply Rd.up))) rfl ?_
      refine TOps.field0 rfl Try.underlying24 rfl rfl ti3 rfl rfl rfl ?_
      refine TOps.load1 rfl ti3 (Rd.fld (r2.le (Le.drop (Le.refl _))) 0 rfl) rfl ?_
      refine TOps.neqI rfl rfl rfl ?_
      refine TOps.blk rfl (by repeat (first | exact Ext.refl _ | refine Ext.cons rfl ?_)) (by repeat (first | exact Le.refl _ | apply Le.drop))
    refine TOps.next ?_
    refine Tri.cond rfl (fun hc4 => ?_) (fun hc4 => ?_)
    · try simp only [decide_eq_true_eq, decide_eq_false_iff_not, Bool.and_eq_true, Bool.or_eq_true, Bool.not_eq_true', Bool.and_eq_false_iff, Bool.or_eq_false_iff, Bool.not_eq_false', Int.not_lt, Int.not_le, ne_eq, Decidable.not_not, Option.isSome_iff_ne_none, Option.isNone_iff_eq_none] at hc4
      have hfalse : False := by simp [q3] at hc4
      refine Tri.seq (Tri.region ?_)
      refine TOps.assign rfl rfl ?_
      refine TOps.next ?_
      exact hfalse.elim
    try simp only [decide_eq_true_eq, decide_eq_false_iff_not, Bool.and_eq_true, Bool.or_eq_true, Bool.not_eq_true', Bool.and_eq_false_iff, Bool.or_eq_false_iff, Bool.not_eq_false', Int.not_lt, Int.not_le, ne_eq, Decidable.not_not, Option.isSome_iff_ne_none, Option.isNone_iff_eq_none] at hc4
    refine Tri.fin ?_
    refine Nrm.body () trivial ⟨rfl, rfl, rfl, rfl, rfl, rfl, rfl, rfl, trivial⟩ (by repeat (first | exact Le.refl _ | assumption | apply Le.drop))
  refine Nrm.of hS hM ?_
  refine Nrm.next ?_
  refine Tri.seq (Tri.region ?_)
  refine TOps.assign rfl rfl ?_
  refine TOps.next ?_
  refine Tri.ret1 (H' := H) Try.results9 (fun _ _ h => h) (.tmp rfl) m8 ⟨rfl, rfl⟩
end Go.Proofs
