import Derived.Test.YthbmgpkocbabeaaC29
import Derived.Test.YthbmgpkocbabeaaGL33
namespace Go.Proofs
open Go.GL
set_option linter.unusedVariables false
set_option linter.unusedSimpArgs false
theorem moduleHides_g {H : List Ent} {fv : Value} {F : Fm} (hF : RF H fv F) (hk : F.ok) (s0 s1 : Int) (b0 : 0 ≤ s0 ∧ s0 ≤ 4294967295) (b1 : 0 ≤ s1 ∧ s1 ≤ 4294967295) :
    Gives Try.prog 7 [fv, .agg (List.toArray [.int .u32 s0, .int .u32 s1])] H (R1 (.bool true) H) := by
  have hF0 := hF
  obtain ⟨na, off, ncap, nsp, rfl, hN⟩ := hF
  obtain ⟨A0, rfl⟩ := Int.eq_ofNat_of_zero_le b0.1
  obtain ⟨A1, rfl⟩ := Int.eq_ofNat_of_zero_le b1.1
  refine Gives.enter Try.func7 rfl (by exact Try.ntmps7) rfl ?_
  refine Tri.seq (Tri.region ?_)
  refine TOps.boxN rfl ti24 rfl rfl (fun b2 => ?_)
  refine TOps.hide (fun H1 l1 s1 r1 => ?_)
  replace hF0 := hF0.le l1
  refine TOps.boxN rfl ti49 rfl rfl (fun b3 => ?_)
  refine TOps.hide (fun H2 l2 s2 r3 => ?_)
  replace hF0 := hF0.le l2; replace r1 := r1.le l2; have l3 := l2.trans l1
  refine TOps.assign rfl rfl ?_
  refine TOps.next ?_
  refine Tri.seq ?_
  refine Tri.seq (Tri.region ?_)
  refine TOps.call (vs := []) Try.call9 trivial (awake29_g) rfl ?_
  rintro _ _ ⟨rfl, rfl⟩
  refine TOps.not rfl rfl ?_
  refine TOps.move rfl rfl ?_
  refine' TOps.orB 2 rfl rfl rfl rfl (fun hg1_2 => ?_) ?_; rotate_left
  · have hg1_2' := hg1_2
    try simp only [decide_eq_true_eq, decide_eq_false_iff_not, Bool.and_eq_true, Bool.or_eq_true, Bool.not_eq_true', Bool.and_eq_false_iff, Bool.or_eq_false_iff, Bool.not_eq_false', Int.not_lt, Int.not_le, ne_eq, Decidable.not_not] at hg1_2'
    refine TOps.strip 2 false rfl rfl hg1_2 rfl ?_
    refine TOps.loadN rfl ti24 (by first | exact Rd.all (by repeat (first | exact List.Mem.head _ | apply List.Mem.tail)) | (repeat (first | assumption | apply Rd.up))) rfl rfl ?_
    refine TOps.call (vs := [_]) Try.call10 ⟨rfl, trivial⟩ (heavy_g hF0 hk) rfl ?_
    rintro _ _ ⟨rfl, rfl⟩
    refine TOps.blk rfl (by repeat (first | exact Ext.refl _ | refine Ext.cons rfl ?_)) (by repeat (first | exact Le.refl _ | apply Le.drop))
  refine TOps.move rfl rfl ?_
  refine' TOps.orB 3 rfl rfl rfl rfl (fun hg1_6 => ?_) ?_; rotate_left
  · have hg1_6' := hg1_6
    try simp only [decide_eq_true_eq, decide_eq_false_iff_not, Bool.and_eq_true, Bool.or_eq_true, Bool.not_eq_true', Bool.and_eq_false_iff, Bool.or_eq_false_iff, Bool.not_eq_false', Int.not_lt, Int.not_le, ne_eq, Decidable.not_not] at hg1_6'
    refine TOps.strip 6 false rfl rfl hg1_6 rfl ?_
    refine TOps.loadN rfl ti24 (by first | exact Rd.all (by repeat (first | exact List.Mem.head _ | apply List.Mem.tail)) | (repeat (first | assumption | apply Rd.up))) rfl rfl ?_
    refine TOps.call (vs := [_]) Try.call11 ⟨rfl, trivial⟩ (check_g hF0 hk) rfl ?_
    rintro _ _ ⟨rfl, rfl⟩
    refine TOps.neqNil rfl Try.underlying28 rfl ?_
    refine TOps.blk rfl (by repeat (first | exact Ext.refl _ | refine Ext.cons rfl ?_)) (by repeat (first | exact Le.refl _ | apply Le.drop))
  refine TOps.move rfl rfl ?_
  refine' TOps.orB 3 rfl rfl rfl rfl (fun hg1_11 => ?_) ?_; rotate_left
  · have hg1_11' := hg1_11
    try simp only [decide_eq_true_eq, decide_eq_false_iff_not, Bool.and_eq_true, Bool.or_eq_true, Bool.not_eq_true', Bool.and_eq_false_iff, Bool.or_eq_false_iff, Bool.not_eq_false', Int.not_lt, Int.not_le, ne_eq, Decidable.not_not] at hg1_11'
    refine TOps.strip 11 false rfl rfl hg1_11 rfl ?_
    refine TOps.field0 rfl Try.underlying24 rfl rfl ti3 rfl rfl rfl ?_
    refine TOps.load1 rfl ti3 (by first | exact Rd.lit (by repeat (first | exact List.Mem.head _ | apply List.Mem.tail)) rfl | (repeat (first | assumption | exact Rd.fld (by assumption) 0 rfl | apply Rd.up))) rfl ?_
    refine TOps.lss rfl rfl rfl ?_
    refine TOps.blk rfl (by repeat (first | exact Ext.refl _ | refine Ext.cons rfl ?_)) (by repeat (first | exact Le.refl _ | apply Le.drop))
  refine TOps.move rfl rfl ?_
  refine' TOps.orB 3 rfl rfl rfl rfl (fun hg1_16 => ?_) ?_; rotate_left
  · have hg1_16' := hg1_16
    try simp only [decide_eq_true_eq, decide_eq_false_iff_not, Bool.and_eq_true, Bool.or_eq_true, Bool.not_eq_true', Bool.and_eq_false_iff, Bool.or_eq_false_iff, Bool.not_eq_false', Int.not_lt, Int.not_le, ne_eq, Decidable.not_not] at hg1_16'
    refine TOps.strip 16 false rfl rfl hg1_16 rfl ?_
    refine TOps.field0 rfl Try.underlying24 rfl rfl ti3 rfl rfl rfl ?_
    refine TOps.load1 rfl ti3 (by first | exact Rd.lit (by repeat (first | exact List.Mem.head _ | apply List.Mem.tail)) rfl | (repeat (first | assumption | exact Rd.fld (by assumption) 0 rfl | apply Rd.up))) rfl ?_
    refine TOps.gtr rfl rfl rfl ?_
    refine TOps.blk rfl (by repeat (first | exact Ext.refl _ | refine Ext.cons rfl ?_)) (by repeat (first | exact Le.refl _ | apply Le.drop))
  refine TOps.next ?_
  refine Tri.cond rfl (fun hc1 => ?_) (fun hc1 => ?_)
  · try simp only [decide_eq_true_eq, decide_eq_false_iff_not, Bool.and_eq_true, Bool.or_eq_true, Bool.not_eq_true', Bool.and_eq_false_iff, Bool.or_eq_false_iff, Bool.not_eq_false', Int.not_lt, Int.not_le, ne_eq, Decidable.not_not, Option.isSome_iff_ne_none, Option.isNone_iff_eq_none] at hc1
    refine Tri.seq (Tri.region ?_)
    refine TOps.call (vs := []) Try.call9 trivial (awake29_g) rfl ?_
    rintro _ _ ⟨rfl, rfl⟩
    refine TOps.assign rfl rfl ?_
    refine TOps.next ?_
    refine Tri.ret1 (H' := H) Try.results7 (fun _ _ h => h) (.tmp rfl) l3 ⟨rfl, rfl⟩
  try simp only [decide_eq_true_eq, decide_eq_false_iff_not, Bool.and_eq_true, Bool.or_eq_true, Bool.not_eq_true', Bool.and_eq_false_iff, Bool.or_eq_false_iff, Bool.not_eq_false', Int.not_lt, Int.not_le, ne_eq, Decidable.not_not, Option.isSome_iff_ne_none, Option.isNone_iff_eq_none] at hc1
  have he : F.err = none := by simpa using hc1.1.1.2
  have hg := (Fm.good_iff F).1 he
  have g0 := hg.v0; have g1 := hg.v1; have g2 := hg.n1; have gt := hg.topLt
  have hfl := F.find_len
  have hv24 : F.vars.toNat ≤ 24 := by omega
  have h24 := pow24 hv24
  have hpos := Nat.two_pow_pos F.vars.toNat
  refine Tri.fin ?_
  refine Nrm.next ?_
  refine Tri.seq (Tri.region ?_)
  refine TOps.loadN rfl ti24 (by first | exact Rd.all (by repeat (first | exact List.Mem.head _ | apply List.Mem.tail)) | (repeat (first | assumption | apply Rd.up))) rfl rfl ?_
  refine TOps.call (vs := [_]) Try.call12 ⟨rfl, trivial⟩ (find_g hF0 hk) rfl ?_
  rintro _ _ ⟨xs, la, lcap, hxs, rfl, hla, rfl⟩
  obtain rfl : xs = F.find := by rw [hxs, he]; rfl
  rw [he]
  have hlr : RdS (row la 3 1 lcap (nats F.find) :: H2) la 0 (nats F.find) := RdS.ofRowA (List.Mem.head _) hla
  replace hF0 := hF0.le (Le.drop (e := row la 3 1 lcap (nats F.find)) (Le.refl _)); replace r1 := r1.up (e := row la 3 1 lcap (nats F.find)); replace r3 := r3.up (e := row la 3 1 lcap (nats F.find))
  have l4 : Le (row la 3 1 lcap (nats F.find) :: H2) H := Le.drop l3
  generalize row la 3 1 lcap (nats F.find) :: H2 = H3 at *
  refine TOps.move rfl rfl ?_
  refine TOps.extract rfl rfl rfl ?_
  refine TOps.extract rfl rfl rfl ?_
  refine TOps.assign rfl rfl ?_
  refine TOps.assign rfl rfl ?_
  refine TOps.next ?_
  refine Tri.seq ?_
  refine Tri.seq (Tri.region ?_)
  refine TOps.move rfl rfl ?_
  refine TOps.neqNil (T := 43) (o := none) rfl Try.underlying28 rfl ?_
  refine TOps.next ?_
  refine Tri.cond rfl (fun hc2 => ?_) (fun hc2 => ?_)
  · try simp only [decide_eq_true_eq, decide_eq_false_iff_not, Bool.and_eq_true, Bool.or_eq_true, Bool.not_eq_true', Bool.and_eq_false_iff, Bool.or_eq_false_iff, Bool.not_eq_false', Int.not_lt, Int.not_le, ne_eq, Decidable.not_not, Option.isSome_iff_ne_none, Option.isNone_iff_eq_none] at hc2
    have hfalse : False := by simp at hc2
    refine Tri.seq (Tri.region ?_)
    refine TOps.assign rfl rfl ?_
    refine TOps.next ?_
    exact hfalse.elim
  try simp only [decide_eq_true_eq, decide_eq_false_iff_not, Bool.and_eq_true, Bool.or_eq_true, Bool.not_eq_true', Bool.and_eq_false_iff, Bool.or_eq_false_iff, Bool.not_eq_false', Int.not_lt, Int.not_le, ne_eq, Decidable.not_not, Option.isSome_iff_ne_none, Option.isNone_iff_eq_none] at hc2
  refine Tri.fin ?_
  refine Nrm.next ?_
  refine Tri.seq ?_
  refine Tri.drawC rfl [(2, .pointer (some ⟨b2, 0, none⟩)), (3, .pointer (some ⟨b3, 0, none⟩)), (5, slV la 0 F.find.length lcap)] [] [_, _, _, _, _, _, _, _] (H3) [7] rfl ⟨rfl, rfl, rfl, trivial⟩ trivial (by repeat (first | exact Le.refl _ | assumption | apply Le.drop)) (by
    refine ⟨?_, ?_, ?_, ?_, ?_, ?_, ?_, ?_, trivial⟩
    · refine ⟨fun x S c he hw hd hc hcu hm _ => ?_, trivial⟩
      refine TOps.indexAddrA (off' := 0) (he _ _ rfl) rfl Try.underlying49 ti48 (by omega) (by omega) rfl rfl ?_
      exact TOps.fin (Nrm.draw x (fun _ _ _ => rfl) rfl (by first | exact Le.refl _ | assumption | exact (by repeat (first | exact Le.refl _ | assumption | apply Le.drop))))
    · refine ⟨fun x S c he hw hd hc hcu hm _ => ?_, trivial⟩
      obtain ⟨h0, -⟩ := hd
      refine TOps.load1 h0 ti48 (Rd.fld r3 0 rfl) rfl ?_
      exact TOps.fin (Nrm.draw x (fun _ _ _ => rfl) rfl (by first | exact Le.refl _ | assumption | exact (by repeat (first | exact Le.refl _ | assumption | apply Le.drop))))
    · refine ⟨fun x S c he hw hd hc hcu hm _ => ?_, trivial⟩
      obtain ⟨h1, -⟩ := hd
      refine TOps.convI (r := (A0 : Int)) h1 Try.underlying48 Try.underlying3 (wrapI (by omega) (by omega)) rfl ?_
      exact TOps.fin (Nrm.draw x (fun _ _ _ => rfl) rfl (by first | exact Le.refl _ | assumption | exact (by repeat (first | exact Le.refl _ | assumption | apply Le.drop))))
    · refine ⟨fun x S c he hw hd hc hcu hm _ => ?_, trivial⟩
      refine TOps.field0 (he _ _ rfl) Try.underlying24 rfl rfl ti3 rfl rfl rfl ?_
      exact TOps.fin (Nrm.draw x (fun _ _ _ => rfl) rfl (by first | exact Le.refl _ | assumption | exact (by repeat (first | exact Le.refl _ | assumption | apply Le.drop))))
    · refine ⟨fun x S c he hw hd hc hcu hm _ => ?_, trivial⟩
      obtain ⟨h3, -⟩ := hd
      refine TOps.load1 h3 ti3 (by first | exact Rd.lit (by repeat (first | exact List.Mem.head _ | apply List.Mem.tail)) rfl | (repeat (first | assumption | exact Rd.fld (by assumption) 0 rfl | apply Rd.up))) rfl ?_
      exact TOps.fin (Nrm.draw x (fun _ _ _ => rfl) rfl (by first | exact Le.refl _ | assumption | exact (by repeat (first | exact Le.refl _ | assumption | apply Le.drop))))
    · refine ⟨fun x S c he hw hd hc hcu hm _ => ?_, trivial⟩
      obtain ⟨h4, -⟩ := hd
      refine TOps.shl (r := ((2 ^ F.vars.toNat : Nat) : Int)) rfl h4 (by omega) (ishl_one (by omega)) rfl ?_
      exact TOps.fin (Nrm.draw x (fun _ _ _ => rfl) rfl (by first | exact Le.refl _ | assumption | exact (by repeat (first | exact Le.refl _ | assumption | apply Le.drop))))
    · refine ⟨fun x S c he hw hd hc hcu hm _ => ?_, trivial⟩
      obtain ⟨h2, h5, -⟩ := hd
      refine TOps.rem h2 h5 (by omega) (tmod_nat A0 (2 ^ F.vars.toNat)) rfl ?_
      exact TOps.fin (Nrm.draw x (fun _ _ _ => rfl) rfl (by first | exact Le.refl _ | assumption | exact (by repeat (first | exact Le.refl _ | assumption | apply Le.drop))))
    · refine ⟨fun x S c he hw hd hc hcu hm _ => ?_, trivial⟩
      obtain ⟨h6, h0, h1, h2, h3, h4, h5, _, -⟩ := hd
      refine TOps.assign h6 rfl ?_
      exact TOps.fin (Nrm.draw x (fun _ _ _ => rfl) rfl (by first | exact Le.refl _ | assumption | exact (by repeat (first | exact Le.refl _ | assumption | apply Le.drop))))
    ) ?_
  obtain ⟨X, hX⟩ : ∃ X, X = A0 % 2 ^ F.vars.toNat := ⟨_, rfl⟩
  have hXlt : X < 2 ^ F.vars.toNat := by rw [hX]; exact Nat.mod_lt _ hpos
  have hB1 : A1 % 2 ^ F.vars.toNat < 2 ^ F.vars.toNat := Nat.mod_lt _ hpos
  have hsx : F.setErr (X : Int) = none := Fm.setErr_of hg hXlt
  have hxl := F.nodeVals_length X
  refine Nrm.next ?_
  refine Tri.seq ?_
  refine Tri.seq (Tri.region ?_)
  refine TOps.move rfl rfl ?_
  refine TOps.len rfl Try.underlying30 rfl ?_
  refine TOps.move rfl rfl ?_
  refine TOps.next ?_
  refine Tri.range (X := Unit) (fun x k => [(2, .pointer (some ⟨b2, 0, none⟩)), (3, .pointer (some ⟨b3, 0, none⟩)), (7, .int .i64 X), (57, slV la 0 F.find.length lcap)]) (fun x k => H3) (fun x k => True) (by omega) rfl rfl rfl (fun _ _ => ⟨rfl, rfl, rfl, rfl⟩) () trivial ⟨rfl, rfl, (by rw [hX]; rfl), rfl, trivial⟩ (by repeat (first | exact Le.refl _ | assumption | apply Le.drop)) (fun k x hlt hp => ?_) (fun x ac wc hp hS hM => ?_)
  · skip
    obtain ⟨lb, rfl, -, hl⟩ := nats_at hlr hlt
    rw [Nat.zero_add] at hl
    have hlk := Fm.find_lt hlt
    have hmem := List.getElem_mem hlt
    obtain ⟨i, hi, bi, mi, hie⟩ := Fm.mem_find.1 hmem
    rw [hie] at hmem hl hlk
    have hek := F.evs_lt (F.vars.toNat + i)
    have hYlt := hideS_lt (s := A1 % 2 ^ F.vars.toNat) hXlt hek
    have hlaw := law_hides' hg hmem (s := A1 % 2 ^ F.vars.toNat) hXlt
    rw [Nat.add_sub_cancel_left] at hlaw
    obtain ⟨Y, hY⟩ : ∃ Y, Y = hideS X (F.evs (F.vars.toNat + i)) (A1 % 2 ^ F.vars.toNat) := ⟨_, rfl⟩
    rw [← hY] at hYlt hlaw
    have hsy : F.setErr (Y : Int) = none := Fm.setErr_of hg hYlt
    have hyl := F.nodeVals_length Y
    refine Tri.seq (Tri.region ?_)
    refine TOps.indexAddr (off' := k) rfl rfl Try.underlying30 ti3 (by omega) (by omega) (by simp) rfl ?_
    refine TOps.load1 rfl ti3 (by first | exact Rd.lit (by repeat (first | exact List.Mem.head _ | apply List.Mem.tail)) rfl | (repeat (first | assumption | apply Rd.up))) rfl ?_
    refine TOps.assign rfl rfl ?_
    refine TOps.next ?_
    refine Tri.seq (Tri.region ?_)
    refine TOps.loadN rfl ti24 (by first | exact Rd.all (by repeat (first | exact List.Mem.head _ | apply List.Mem.tail)) | (repeat (first | assumption | apply Rd.up))) rfl rfl ?_
    refine TOps.move rfl rfl ?_
    refine TOps.call (vs := [_, _]) Try.call13 ⟨rfl, rfl, trivial⟩ (mBelowOk_g hF0 hg (F.vars.toNat + i) hlk) rfl ?_
    rintro _ _ ⟨rfl, rfl⟩
    refine TOps.move rfl rfl ?_
    refine TOps.extract rfl rfl rfl ?_
    refine TOps.extract rfl rfl rfl ?_
    refine TOps.assign rfl rfl ?_
    refine TOps.assign rfl rfl ?_
    refine TOps.next ?_
    refine Tri.seq ?_
    refine Tri.seq (Tri.region ?_)
    refine TOps.move rfl rfl ?_
    refine TOps.neqNil (T := 43) (o := none) rfl Try.underlying28 rfl ?_
    refine TOps.move rfl rfl ?_
    refine' TOps.orB 4 rfl rfl rfl rfl (fun hg11_2 => ?_) ?_; rotate_left
    · have hg11_2' := hg11_2
      try simp only [decide_eq_true_eq, decide_eq_false_iff_not, Bool.and_eq_true, Bool.or_eq_true, Bool.not_eq_true', Bool.and_eq_false_iff, Bool.or_eq_false_iff, Bool.not_eq_false', Int.not_lt, Int.not_le, ne_eq, Decidable.not_not] at hg11_2'
      refine TOps.strip 2 false rfl rfl hg11_2 rfl ?_
      refine TOps.move rfl rfl ?_
      refine TOps.field0 rfl Try.underlying24 rfl rfl ti3 rfl rfl rfl ?_
      refine TOps.load1 rfl ti3 (by first | exact Rd.lit (by repeat (first | exact List.Mem.head _ | apply List.Mem.tail)) rfl | (repeat (first | assumption | exact Rd.fld (by assumption) 0 rfl | apply Rd.up))) rfl ?_
      refine TOps.lss rfl rfl rfl ?_
      refine TOps.blk rfl (by repeat (first | exact Ext.refl _ | refine Ext.cons rfl ?_)) (by repeat (first | exact Le.refl _ | apply Le.drop))
    refine TOps.move rfl rfl ?_
    refine' TOps.orB 8 rfl rfl rfl rfl (fun hg11_8 => ?_) ?_; rotate_left
    · have hg11_8' := hg11_8
      try simp only [decide_eq_true_eq, decide_eq_false_iff_not, Bool.and_eq_true, Bool.or_eq_true, Bool.not_eq_true', Bool.and_eq_false_iff, Bool.or_eq_false_iff, Bool.not_eq_false', Int.not_lt, Int.not_le, ne_eq, Decidable.not_not] at hg11_8'
      refine TOps.strip 8 false rfl rfl hg11_8 rfl ?_
      refine TOps.move rfl rfl ?_
      refine TOps.field0 rfl Try.underlying24 rfl rfl ti3 rfl rfl rfl ?_
      refine TOps.load1 rfl ti3 (by first | exact Rd.lit (by repeat (first | exact List.Mem.head _ | apply List.Mem.tail)) rfl | (repeat (first | assumption | exact Rd.fld (by assumption) 0 rfl | apply Rd.up))) rfl ?_
      first | refine TOps.fieldB 1 rfl Try.underlying24 rfl rfl ti22 rfl rfl rfl ?_ | refine TOps.fieldN 1 rfl Try.underlying24 rfl rfl ti22 rfl rfl rfl ?_
      refine TOps.load1 rfl ti22 (by first | exact Rd.lit (by repeat (first | exact List.Mem.head _ | apply List.Mem.tail)) rfl | (repeat (first | assumption | exact Rd.fld (by assumption) 1 rfl | apply Rd.up))) rfl ?_
      refine TOps.len rfl Try.underlying22 rfl ?_
      refine TOps.add (r := F.vars + F.nodes.length) rfl rfl (by rw [wrapI (by omega) (by omega)]) rfl ?_
      refine TOps.geq rfl rfl rfl ?_
      refine TOps.blk rfl (by repeat (first | exact Ext.refl _ | refine Ext.cons rfl ?_)) (by repeat (first | exact Le.refl _ | apply Le.drop))
    refine TOps.next ?_
    refine Tri.cond rfl (fun hc3 => ?_) (fun hc3 => ?_)
    · try simp only [decide_eq_true_eq, decide_eq_false_iff_not, Bool.and_eq_true, Bool.or_eq_true, Bool.not_eq_true', Bool.and_eq_false_iff, Bool.or_eq_false_iff, Bool.not_eq_false', Int.not_lt, Int.not_le, ne_eq, Decidable.not_not, Option.isSome_iff_ne_none, Option.isNone_iff_eq_none] at hc3
      have hfalse : False := by
        rcases hc3 with (h | h) | h
        · simp at h
        · omega
        · omega
      refine Tri.seq (Tri.region ?_)
      refine TOps.assign rfl rfl ?_
      refine TOps.next ?_
      exact hfalse.elim
    try simp only [decide_eq_true_eq, decide_eq_false_iff_not, Bool.and_eq_true, Bool.or_eq_true, Bool.not_eq_true', Bool.and_eq_false_iff, Bool.or_eq_false_iff, Bool.not_eq_false', Int.not_lt, Int.not_le, ne_eq, Decidable.not_not, Option.isSome_iff_ne_none, Option.isNone_iff_eq_none] at hc3
    refine Tri.fin ?_
    refine Nrm.next ?_
    refine Tri.seq ?_
    refine Tri.drawC rfl [(2, .pointer (some ⟨b2, 0, none⟩)), (3, .pointer (some ⟨b3, 0, none⟩)), (7, .int .i64 X), (57, slV (some lb) 0 F.find.length lcap), (58, .int .i64 F.find.length), (59, .int .i64 k), (9, .int .i64 ((F.vars.toNat + i : Nat) : Int)), (10, .int .i64 (F.evs (F.vars.toNat + i) : Nat))] [] [_, _, _, _, _, _, _, _, _, _, _, _, _, _] (H3) [13] rfl ⟨rfl, rfl, rfl, rfl, rfl, rfl, rfl, rfl, trivial⟩ trivial (by repeat (first | exact Le.refl _ | assumption | apply Le.drop)) (by
      refine ⟨?_, ?_, ?_, ?_, ?_, ?_, ?_, ?_, ?_, ?_, ?_, ?_, ?_, ?_, trivial⟩
      · refine ⟨fun x S c he hw hd hc hcu hm _ => ?_, trivial⟩
        refine TOps.move (he _ _ rfl) rfl ?_
        exact TOps.fin (Nrm.draw x (fun _ _ _ => rfl) rfl (by first | exact Le.refl _ | assumption | exact (by repeat (first | exact Le.refl _ | assumption | apply Le.drop))))
      · refine ⟨fun x S c he hw hd hc hcu hm _ => ?_, trivial⟩
        refine TOps.move (he _ _ rfl) rfl ?_
        exact TOps.fin (Nrm.draw x (fun _ _ _ => rfl) rfl (by first | exact Le.refl _ | assumption | exact (by repeat (first | exact Le.refl _ | assumption | apply Le.drop))))
      · refine ⟨fun x S c he hw hd hc hcu hm _ => ?_, trivial⟩
        obtain ⟨h0, h1, -⟩ := hd
        refine TOps.andNot (r := (noPart (F.evs (F.vars.toNat + i)) X : Nat)) h0 h1 (iandn_nat (by omega) (by omega)) rfl ?_
        exact TOps.fin (Nrm.draw x (fun _ _ _ => rfl) rfl (by first | exact Le.refl _ | assumption | exact (by repeat (first | exact Le.refl _ | assumption | apply Le.drop))))
      · refine ⟨fun x S c he hw hd hc hcu hm _ => ?_, trivial⟩
        refine TOps.indexAddrA (off' := 1) (he _ _ rfl) rfl Try.underlying49 ti48 (by omega) (by omega) rfl rfl ?_
        exact TOps.fin (Nrm.draw x (fun _ _ _ => rfl) rfl (by first | exact Le.refl _ | assumption | exact (by repeat (first | exact Le.refl _ | assumption | apply Le.drop))))
      · refine ⟨fun x S c he hw hd hc hcu hm _ => ?_, trivial⟩
        obtain ⟨h3, -⟩ := hd
        refine TOps.load1 h3 ti48 (Rd.fld r3 1 rfl) rfl ?_
        exact TOps.fin (Nrm.draw x (fun _ _ _ => rfl) rfl (by first | exact Le.refl _ | assumption | exact (by repeat (first | exact Le.refl _ | assumption | apply Le.drop))))
      · refine ⟨fun x S c he hw hd hc hcu hm _ => ?_, trivial⟩
        obtain ⟨h4, -⟩ := hd
        refine TOps.convI (r := (A1 : Int)) h4 Try.underlying48 Try.underlying3 (wrapI (by omega) (by omega)) rfl ?_
        exact TOps.fin (Nrm.draw x (fun _ _ _ => rfl) rfl (by first | exact Le.refl _ | assumption | exact (by repeat (first | exact Le.refl _ | assumption | apply Le.drop))))
      · refine ⟨fun x S c he hw hd hc hcu hm _ => ?_, trivial⟩
        refine TOps.field0 (he _ _ rfl) Try.underlying24 rfl rfl ti3 rfl rfl rfl ?_
        exact TOps.fin (Nrm.draw x (fun _ _ _ => rfl) rfl (by first | exact Le.refl _ | assumption | exact (by repeat (first | exact Le.refl _ | assumption | apply Le.drop))))
      · refine ⟨fun x S c he hw hd hc hcu hm _ => ?_, trivial⟩
        obtain ⟨h6, -⟩ := hd
        refine TOps.load1 h6 ti3 (by first | exact Rd.lit (by repeat (first | exact List.Mem.head _ | apply List.Mem.tail)) rfl | (repeat (first | assumption | exact Rd.fld (by assumption) 0 rfl | apply Rd.up))) rfl ?_
        exact TOps.fin (Nrm.draw x (fun _ _ _ => rfl) rfl (by first | exact Le.refl _ | assumption | exact (by repeat (first | exact Le.refl _ | assumption | apply Le.drop))))
      · refine ⟨fun x S c he hw hd hc hcu hm _ => ?_, trivial⟩
        obtain ⟨h7, -⟩ := hd
        refine TOps.shl (r := ((2 ^ F.vars.toNat : Nat) : Int)) rfl h7 (by omega) (ishl_one (by omega)) rfl ?_
        exact TOps.fin (Nrm.draw x (fun _ _ _ => rfl) rfl (by first | exact Le.refl _ | assumption | exact (by repeat (first | exact Le.refl _ | assumption | apply Le.drop))))
      · refine ⟨fun x S c he hw hd hc hcu hm _ => ?_, trivial⟩
        obtain ⟨h5, h8, -⟩ := hd
        refine TOps.rem h5 h8 (by omega) (tmod_nat A1 (2 ^ F.vars.toNat)) rfl ?_
        exact TOps.fin (Nrm.draw x (fun _ _ _ => rfl) rfl (by first | exact Le.refl _ | assumption | exact (by repeat (first | exact Le.refl _ | assumption | apply Le.drop))))
      · refine ⟨fun x S c he hw hd hc hcu hm _ => ?_, trivial⟩
        refine TOps.move (he _ _ rfl) rfl ?_
        exact TOps.fin (Nrm.draw x (fun _ _ _ => rfl) rfl (by first | exact Le.refl _ | assumption | exact (by repeat (first | exact Le.refl _ | assumption | apply Le.drop))))
      · refine ⟨fun x S c he hw hd hc hcu hm _ => ?_, trivial⟩
        obtain ⟨h9, h10, -⟩ := hd
        refine TOps.and (r := (A1 % 2 ^ F.vars.toNat &&& F.evs (F.vars.toNat + i) : Nat)) h9 h10 (iand_nat (by omega) (by omega)) rfl ?_
        exact TOps.fin (Nrm.draw x (fun _ _ _ => rfl) rfl (by first | exact Le.refl _ | assumption | exact (by repeat (first | exact Le.refl _ | assumption | apply Le.drop))))
      · refine ⟨fun x S c he hw hd hc hcu hm _ => ?_, trivial⟩
        obtain ⟨h2, h11, -⟩ := hd
        refine TOps.or (r := (Y : Int)) h2 h11 (by rw [hY]; exact ior_nat (Nat.lt_of_lt_of_le (noPart_lt hXlt) (by omega)) (Nat.lt_of_le_of_lt Nat.and_le_right (by omega))) rfl ?_
        exact TOps.fin (Nrm.draw x (fun _ _ _ => rfl) rfl (by first | exact Le.refl _ | assumption | exact (by repeat (first | exact Le.refl _ | assumption | apply Le.drop))))
      · refine ⟨fun x S c he hw hd hc hcu hm _ => ?_, trivial⟩
        obtain ⟨h12, h0, h1, h2, h3, h4, h5, h6, h7, h8, h9, h10, h11, _, -⟩ := hd
        refine TOps.assign h12 rfl ?_
        exact TOps.fin (Nrm.draw x (fun _ _ _ => rfl) rfl (by first | exact Le.refl _ | assumption | exact (by repeat (first | exact Le.refl _ | assumption | apply Le.drop))))
      ) ?_
    refine Nrm.next ?_
    refine Tri.seq (Tri.region ?_)
    refine TOps.loadN rfl ti24 (by first | exact Rd.all (by repeat (first | exact List.Mem.head _ | apply List.Mem.tail)) | (repeat (first | assumption | apply Rd.up))) rfl rfl ?_
    refine TOps.move rfl rfl ?_
    refine TOps.call (vs := [_, _]) Try.call26 ⟨rfl, rfl, trivial⟩ (fvalues_g hF0 hk (X : Int)) rfl ?_
    rintro _ _ ⟨vs, va, vcap, hvs, rfl, hva, rfl⟩
    obtain rfl : vs = F.nodeVals X := by rw [hvs, hsx]; rfl
    rw [hsx]
    have hrv : RdS (row va 4 1 vcap (bools (F.nodeVals X)) :: H3) va 0 (bools (F.nodeVals X)) := RdS.ofRowA (List.Mem.head _) hva
    have hF1 := hF0.le (Le.drop (e := row va 4 1 vcap (bools (F.nodeVals X))) (Le.refl _))
    have r1' := r1.up (e := row va 4 1 vcap (bools (F.nodeVals X)))
    have l5 : Le (row va 4 1 vcap (bools (F.nodeVals X)) :: H3) H3 := Le.drop (Le.refl _)
    generalize row va 4 1 vcap (bools (F.nodeVals X)) :: H3 = H4 at hrv hF1 r1' l5 ⊢
    refine TOps.move rfl rfl ?_
    refine TOps.extract rfl rfl rfl ?_
    refine TOps.extract rfl rfl rfl ?_
    refine TOps.assign rfl rfl ?_
    refine TOps.assign rfl rfl ?_
    refine TOps.next ?_
    refine Tri.seq (Tri.region ?_)
    refine TOps.loadN rfl ti24 (by first | exact Rd.all (by repeat (first | exact List.Mem.head _ | apply List.Mem.tail)) | (repeat (first | assumption | apply Rd.up))) rfl rfl ?_
    refine TOps.move rfl rfl ?_
    refine TOps.call (vs := [_, _]) Try.call26 ⟨rfl, rfl, trivial⟩ (fvalues_g hF1 hk (Y : Int)) rfl ?_
    rintro _ _ ⟨ws, wa, wcap, hws, rfl, hwa, rfl⟩
    obtain rfl : ws = F.nodeVals Y := by rw [hws, hsy]; rfl
    rw [hsy]
    have hrw : RdS (row wa 4 1 wcap (bools (F.nodeVals Y)) :: H4) wa 0 (bools (F.nodeVals Y)) := RdS.ofRowA (List.Mem.head _) hwa
    replace hrv := RdS.up (e := row wa 4 1 wcap (bools (F.nodeVals Y))) hrv
    replace hF1 := hF1.le (Le.drop (e := row wa 4 1 wcap (bools (F.nodeVals Y))) (Le.refl _))
    replace r1' := r1'.up (e := row wa 4 1 wcap (bools (F.nodeVals Y)))
    have l6 : Le (row wa 4 1 wcap (bools (F.nodeVals Y)) :: H4) H3 := Le.drop l5
    generalize row wa 4 1 wcap (bools (F.nodeVals Y)) :: H4 = H5 at hrv hrw hF1 r1' l6 ⊢
    refine TOps.move rfl rfl ?_
    refine TOps.extract rfl rfl rfl ?_
    refine TOps.extract rfl rfl rfl ?_
    refine TOps.assign rfl rfl ?_
    refine TOps.assign rfl rfl ?_
    refine TOps.next ?_
    refine Tri.seq (Tri.region ?_)
    refine TOps.loadN rfl ti24 (by first | exact Rd.all (by repeat (first | exact List.Mem.head _ | apply List.Mem.tail)) | (repeat (first | assumption | apply Rd.up))) rfl rfl ?_
    refine TOps.move rfl rfl ?_
    refine TOps.call (vs := [_, _]) Try.call27 ⟨rfl, rfl, trivial⟩ (value_g hF1 hk (X : Int)) rfl ?_
    rintro _ _ ⟨rfl, rfl⟩
    rw [hsx, show ((none : Option Int).isNone && F.value (X : Int)) = F.value (X : Int) from rfl]
    refine TOps.move rfl rfl ?_
    refine TOps.extract rfl rfl rfl ?_
    refine TOps.extract rfl rfl rfl ?_
    refine TOps.assign rfl rfl ?_
    refine TOps.assign rfl rfl ?_
    refine TOps.next ?_
    refine Tri.seq (Tri.region ?_)
    refine TOps.loadN rfl ti24 (by first | exact Rd.all (by repeat (first | exact List.Mem.head _ | apply List.Mem.tail)) | (repeat (first | assumption | apply Rd.up))) rfl rfl ?_
    refine TOps.move rfl rfl ?_
    refine TOps.call (vs := [_, _]) Try.call27 ⟨rfl, rfl, trivial⟩ (value_g hF1 hk (Y : Int)) rfl ?_
    rintro _ _ ⟨rfl, rfl⟩
    rw [hsy, show ((none : Option Int).isNone && F.value (Y : Int)) = F.value (Y : Int) from rfl]
    refine TOps.move rfl rfl ?_
    refine TOps.extract rfl rfl rfl ?_
    refine TOps.extract rfl rfl rfl ?_
    refine TOps.assign rfl rfl ?_
    refine TOps.assign rfl rfl ?_
    refine TOps.next ?_
    refine Tri.seq ?_
    obtain ⟨vb, rfl, -, hv1⟩ := RdS.at hrv (i := i) (by simp; omega)
    obtain ⟨wb, rfl, -, hw1⟩ := RdS.at hrw (i := i) (by simp; omega)
    rw [List.getElem_map, Nat.zero_add] at hv1 hw1
    rw [List.getD_eq_getElem?_getD, List.getElem?_eq_getElem (show i < (F.nodeVals X).length by omega), List.getD_eq_getElem?_getD, List.getElem?_eq_getElem (show i < (F.nodeVals Y).length by omega), Option.getD_some, Option.getD_some] at hlaw
    rw [hxl, hyl]
    generalize (F.nodeVals X)[i] = t1 at *
    generalize (F.nodeVals Y)[i] = t2 at *
    rcases (show (t1 == t2) = true ∨ (t1 == t2) = false from by cases t1 == t2 <;> simp) with qq | qq
    · skip
      refine Tri.drawC rfl [(2, .pointer (some ⟨b2, 0, none⟩)), (3, .pointer (some ⟨b3, 0, none⟩)), (7, .int .i64 X), (57, slV (some lb) 0 F.find.length lcap), (58, .int .i64 F.find.length), (59, .int .i64 k), (9, .int .i64 ((F.vars.toNat + i : Nat) : Int)), (13, slV (some vb) 0 F.nodes.length vcap), (14, errV 43 none), (15, slV (some wb) 0 F.nodes.length wcap), (16, errV 43 none), (17, .bool (F.value (X : Int))), (18, errV 43 none), (19, .bool (F.value (Y : Int))), (20, errV 43 none)] [] [_, _, _, _, _, _, _, _, _, _, _, _, _, _, _, _, _, _, _, _, _, _, _, _, _, _, _, _, _, _, _, _, _, _, _, _, _, _, _, _, _, _, _, _, _, _, _, _, _, _, _, _] (H5) [51] rfl ⟨rfl, rfl, rfl, rfl, rfl, rfl, rfl, rfl, rfl, rfl, rfl, rfl, rfl, rfl, rfl, trivial⟩ trivial (by repeat (first | exact Le.refl _ | assumption | apply Le.drop)) (by
        refine ⟨?_, ?_, ?_, ?_, ?_, ?_, ?_, ?_, ?_, ?_, ?_, ?_, ?_, ?_, ?_, ?_, ?_, ?_, ?_, ?_, ?_, ?_, ?_, ?_, ?_, ?_, ?_, ?_, ?_, ?_, ?_, ?_, ?_, ?_, ?_, ?_, ?_, ?_, ?_, ?_, ?_, ?_, ?_, ?_, ?_, ?_, ?_, ?_, ?_, ?_, ?_, ?_, trivial⟩
        · refine ⟨fun x S c he hw hd hc hcu hm _ => ?_, trivial⟩
          refine TOps.move (he _ _ rfl) rfl ?_
          exact TOps.fin (Nrm.draw x (fun _ _ _ => rfl) rfl (by first | exact Le.refl _ | assumption | exact (by repeat (first | exact Le.refl _ | assumption | apply Le.drop))))
        · refine ⟨fun x S c he hw hd hc hcu hm _ => ?_, trivial⟩
          obtain ⟨h0, -⟩ := hd
          refine TOps.neqNil (T := 43) (o := none) h0 Try.underlying28 rfl ?_
          exact TOps.fin (Nrm.draw x (fun _ _ _ => rfl) rfl (by first | exact Le.refl _ | assumption | exact (by repeat (first | exact Le.refl _ | assumption | apply Le.drop))))
        · refine ⟨fun x S c he hw hd hc hcu hm _ => ?_, trivial⟩
          obtain ⟨h1, -⟩ := hd
          refine TOps.move h1 rfl ?_
          exact TOps.fin (Nrm.draw x (fun _ _ _ => rfl) rfl (by first | exact Le.refl _ | assumption | exact (by repeat (first | exact Le.refl _ | assumption | apply Le.drop))))
        · refine ⟨fun x S c he hw hd hc hcu hm hgd => ?_, ⟨_, rfl⟩, .inl ⟨rfl, fun x => .inl rfl⟩⟩
          obtain ⟨h2, -⟩ := hd
          refine TOps.move (he _ _ rfl) rfl ?_
          exact TOps.fin (Nrm.draw x (fun _ _ _ => rfl) rfl (by first | exact Le.refl _ | assumption | exact (by repeat (first | exact Le.refl _ | assumption | apply Le.drop))))
        · refine ⟨fun x S c he hw hd hc hcu hm hgd => ?_, ⟨_, rfl⟩, .inl ⟨rfl, fun x => .inl rfl⟩⟩
          obtain ⟨h3, h2, -⟩ := hd
          refine TOps.neqNil (T := 43) (o := none) h3 Try.underlying28 rfl ?_
          exact TOps.fin (Nrm.draw x (fun _ _ _ => rfl) rfl (by first | exact Le.refl _ | assumption | exact (by repeat (first | exact Le.refl _ | assumption | apply Le.drop))))
        · refine ⟨fun x S c he hw hd hc hcu hm _ => ?_, trivial⟩
          obtain ⟨h2, h4, -⟩ := hd
          refine TOps.pick h2 rfl h4 rfl ?_
          exact TOps.fin (Nrm.draw x (fun _ _ _ => rfl) rfl (by first | exact Le.refl _ | assumption | exact (by repeat (first | exact Le.refl _ | assumption | apply Le.drop))))
        · refine ⟨fun x S c he hw hd hc hcu hm _ => ?_, trivial⟩
          obtain ⟨h5, h2, -⟩ := hd
          refine TOps.move h5 rfl ?_
          exact TOps.fin (Nrm.draw x (fun _ _ _ => rfl) rfl (by first | exact Le.refl _ | assumption | exact (by repeat (first | exact Le.refl _ | assumption | apply Le.drop))))
        · refine ⟨fun x S c he hw hd hc hcu hm hgd => ?_, ⟨_, rfl⟩, .inl ⟨rfl, fun x => .inl rfl⟩⟩
          obtain ⟨h6, -⟩ := hd
          refine TOps.move (he _ _ rfl) rfl ?_
          exact TOps.fin (Nrm.draw x (fun _ _ _ => rfl) rfl (by first | exact Le.refl _ | assumption | exact (by repeat (first | exact Le.refl _ | assumption | apply Le.drop))))
        · refine ⟨fun x S c he hw hd hc hcu hm hgd => ?_, ⟨_, rfl⟩, .inl ⟨rfl, fun x => .inl rfl⟩⟩
          obtain ⟨h7, h6, -⟩ := hd
          refine TOps.neqNil (T := 43) (o := none) h7 Try.underlying28 rfl ?_
          exact TOps.fin (Nrm.draw x (fun _ _ _ => rfl) rfl (by first | exact Le.refl _ | assumption | exact (by repeat (first | exact Le.refl _ | assumption | apply Le.drop))))
        · refine ⟨fun x S c he hw hd hc hcu hm _ => ?_, trivial⟩
          obtain ⟨h6, h8, -⟩ := hd
          refine TOps.pick h6 rfl h8 rfl ?_
          exact TOps.fin (Nrm.draw x (fun _ _ _ => rfl) rfl (by first | exact Le.refl _ | assumption | exact (by repeat (first | exact Le.refl _ | assumption | apply Le.drop))))
        · refine ⟨fun x S c he hw hd hc hcu hm _ => ?_, trivial⟩
          obtain ⟨h9, h6, -⟩ := hd
          refine TOps.move h9 rfl ?_
          exact TOps.fin (Nrm.draw x (fun _ _ _ => rfl) rfl (by first | exact Le.refl _ | assumption | exact (by repeat (first | exact Le.refl _ | assumption | apply Le.drop))))
        · refine ⟨fun x S c he hw hd hc hcu hm hgd => ?_, ⟨_, rfl⟩, .inl ⟨rfl, fun x => .inl rfl⟩⟩
          obtain ⟨h10, -⟩ := hd
          refine TOps.move (he _ _ rfl) rfl ?_
          exact TOps.fin (Nrm.draw x (fun _ _ _ => rfl) rfl (by first | exact Le.refl _ | assumption | exact (by repeat (first | exact Le.refl _ | assumption | apply Le.drop))))
        · refine ⟨fun x S c he hw hd hc hcu hm hgd => ?_, ⟨_, rfl⟩, .inl ⟨rfl, fun x => .inl rfl⟩⟩
          obtain ⟨h11, h10, -⟩ := hd
          refine TOps.neqNil (T := 43) (o := none) h11 Try.underlying28 rfl ?_
          exact TOps.fin (Nrm.draw x (fun _ _ _ => rfl) rfl (by first | exact Le.refl _ | assumption | exact (by repeat (first | exact Le.refl _ | assumption | apply Le.drop))))
        · refine ⟨fun x S c he hw hd hc hcu hm _ => ?_, trivial⟩
          obtain ⟨h10, h12, -⟩ := hd
          refine TOps.pick h10 rfl h12 rfl ?_
          exact TOps.fin (Nrm.draw x (fun _ _ _ => rfl) rfl (by first | exact Le.refl _ | assumption | exact (by repeat (first | exact Le.refl _ | assumption | apply Le.drop))))
        · refine ⟨fun x S c he hw hd hc hcu hm _ => ?_, trivial⟩
          obtain ⟨h13, h10, -⟩ := hd
          refine TOps.move h13 rfl ?_
          exact TOps.fin (Nrm.draw x (fun _ _ _ => rfl) rfl (by first | exact Le.refl _ | assumption | exact (by repeat (first | exact Le.refl _ | assumption | apply Le.drop))))
        · refine ⟨fun x S c he hw hd hc hcu hm hgd => ?_, ⟨_, rfl⟩, .inl ⟨rfl, fun x => .inl rfl⟩⟩
          obtain ⟨h14, -⟩ := hd
          refine TOps.move (he _ _ rfl) rfl ?_
          exact TOps.fin (Nrm.draw x (fun _ _ _ => rfl) rfl (by first | exact Le.refl _ | assumption | exact (by repeat (first | exact Le.refl _ | assumption | apply Le.drop))))
        · refine ⟨fun x S c he hw hd hc hcu hm hgd => ?_, ⟨_, rfl⟩, .inl ⟨rfl, fun x => .inl rfl⟩⟩
          obtain ⟨h15, h14, -⟩ := hd
          refine TOps.len h15 Try.underlying50 rfl ?_
          exact TOps.fin (Nrm.draw x (fun _ _ _ => rfl) rfl (by first | exact Le.refl _ | assumption | exact (by repeat (first | exact Le.refl _ | assumption | apply Le.drop))))
        · refine ⟨fun x S c he hw hd hc hcu hm hgd => ?_, ⟨_, rfl⟩, .inl ⟨rfl, fun x => .inl rfl⟩⟩
          obtain ⟨h14, -⟩ := hd
          first | refine TOps.fieldB 1 (he _ _ rfl) Try.underlying24 rfl rfl ti22 rfl rfl rfl ?_ | refine TOps.fieldN 1 (he _ _ rfl) Try.underlying24 rfl rfl ti22 rfl rfl rfl ?_
          exact TOps.fin (Nrm.draw x (fun _ _ _ => rfl) rfl (by first | exact Le.refl _ | assumption | exact (by repeat (first | exact Le.refl _ | assumption | apply Le.drop))))
        · refine ⟨fun x S c he hw hd hc hcu hm hgd => ?_, ⟨_, rfl⟩, .inl ⟨rfl, fun x => .inl rfl⟩⟩
          obtain ⟨h17, h14, -⟩ := hd
          refine TOps.load1 h17 ti22 (by first | exact Rd.lit (by repeat (first | exact List.Mem.head _ | apply List.Mem.tail)) rfl | (repeat (first | assumption | exact Rd.fld (by assumption) 1 rfl | apply Rd.up))) rfl ?_
          exact TOps.fin (Nrm.draw x (fun _ _ _ => rfl) rfl (by first | exact Le.refl _ | assumption | exact (by repeat (first | exact Le.refl _ | assumption | apply Le.drop))))
        · refine ⟨fun x S c he hw hd hc hcu hm hgd => ?_, ⟨_, rfl⟩, .inl ⟨rfl, fun x => .inl rfl⟩⟩
          obtain ⟨h18, h14, -⟩ := hd
          refine TOps.len h18 Try.underlying22 rfl ?_
          exact TOps.fin (Nrm.draw x (fun _ _ _ => rfl) rfl (by first | exact Le.refl _ | assumption | exact (by repeat (first | exact Le.refl _ | assumption | apply Le.drop))))
        · refine ⟨fun x S c he hw hd hc hcu hm hgd => ?_, ⟨_, rfl⟩, .inl ⟨rfl, fun x => .inl rfl⟩⟩
          obtain ⟨h16, h19, h14, -⟩ := hd
          refine TOps.neqIr (r := false) h16 h19 (by simp) rfl ?_
          exact TOps.fin (Nrm.draw x (fun _ _ _ => rfl) rfl (by first | exact Le.refl _ | assumption | exact (by repeat (first | exact Le.refl _ | assumption | apply Le.drop))))
        · refine ⟨fun x S c he hw hd hc hcu hm _ => ?_, trivial⟩
          obtain ⟨h14, h20, -⟩ := hd
          refine TOps.pick h14 rfl h20 rfl ?_
          exact TOps.fin (Nrm.draw x (fun _ _ _ => rfl) rfl (by first | exact Le.refl _ | assumption | exact (by repeat (first | exact Le.refl _ | assumption | apply Le.drop))))
        · refine ⟨fun x S c he hw hd hc hcu hm _ => ?_, trivial⟩
          obtain ⟨h21, h14, -⟩ := hd
          refine TOps.move h21 rfl ?_
          exact TOps.fin (Nrm.draw x (fun _ _ _ => rfl) rfl (by first | exact Le.refl _ | assumption | exact (by repeat (first | exact Le.refl _ | assumption | apply Le.drop))))
        · refine ⟨fun x S c he hw hd hc hcu hm hgd => ?_, ⟨_, rfl⟩, .inl ⟨rfl, fun x => .inl rfl⟩⟩
          obtain ⟨h22, -⟩ := hd
          refine TOps.move (he _ _ rfl) rfl ?_
          exact TOps.fin (Nrm.draw x (fun _ _ _ => rfl) rfl (by first | exact Le.refl _ | assumption | exact (by repeat (first | exact Le.refl _ | assumption | apply Le.drop))))
        · refine ⟨fun x S c he hw hd hc hcu hm hgd => ?_, ⟨_, rfl⟩, .inl ⟨rfl, fun x => .inl rfl⟩⟩
          obtain ⟨h23, h22, -⟩ := hd
          refine TOps.len h23 Try.underlying50 rfl ?_
          exact TOps.fin (Nrm.draw x (fun _ _ _ => rfl) rfl (by first | exact Le.refl _ | assumption | exact (by repeat (first | exact Le.refl _ | assumption | apply Le.drop))))
        · refine ⟨fun x S c he hw hd hc hcu hm hgd => ?_, ⟨_, rfl⟩, .inl ⟨rfl, fun x => .inl rfl⟩⟩
          obtain ⟨h22, -⟩ := hd
          first | refine TOps.fieldB 1 (he _ _ rfl) Try.underlying24 rfl rfl ti22 rfl rfl rfl ?_ | refine TOps.fieldN 1 (he _ _ rfl) Try.underlying24 rfl rfl ti22 rfl rfl rfl ?_
          exact TOps.fin (Nrm.draw x (fun _ _ _ => rfl) rfl (by first | exact Le.refl _ | assumption | exact (by repeat (first | exact Le.refl _ | assumption | apply Le.drop))))
        · refine ⟨fun x S c he hw hd hc hcu hm hgd => ?_, ⟨_, rfl⟩, .inl ⟨rfl, fun x => .inl rfl⟩⟩
          obtain ⟨h25, h22, -⟩ := hd
          refine TOps.load1 h25 ti22 (by first | exact Rd.lit (by repeat (first | exact List.Mem.head _ | apply List.Mem.tail)) rfl | (repeat (first | assumption | exact Rd.fld (by assumption) 1 rfl | apply Rd.up))) rfl ?_
          exact TOps.fin (Nrm.draw x (fun _ _ _ => rfl) rfl (by first | exact Le.refl _ | assumption | exact (by repeat (first | exact Le.refl _ | assumption | apply Le.drop))))
        · refine ⟨fun x S c he hw hd hc hcu hm hgd => ?_, ⟨_, rfl⟩, .inl ⟨rfl, fun x => .inl rfl⟩⟩
          obtain ⟨h26, h22, -⟩ := hd
          refine TOps.len h26 Try.underlying22 rfl ?_
          exact TOps.fin (Nrm.draw x (fun _ _ _ => rfl) rfl (by first | exact Le.refl _ | assumption | exact (by repeat (first | exact Le.refl _ | assumption | apply Le.drop))))
        · refine ⟨fun x S c he hw hd hc hcu hm hgd => ?_, ⟨_, rfl⟩, .inl ⟨rfl, fun x => .inl rfl⟩⟩
          obtain ⟨h24, h27, h22, -⟩ := hd
          refine TOps.neqIr (r := false) h24 h27 (by simp) rfl ?_
          exact TOps.fin (Nrm.draw x (fun _ _ _ => rfl) rfl (by first | exact Le.refl _ | assumption | exact (by repeat (first | exact Le.refl _ | assumption | apply Le.drop))))
        · refine ⟨fun x S c he hw hd hc hcu hm _ => ?_, trivial⟩
          obtain ⟨h22, h28, -⟩ := hd
          refine TOps.pick h22 rfl h28 rfl ?_
          exact TOps.fin (Nrm.draw x (fun _ _ _ => rfl) rfl (by first | exact Le.refl _ | assumption | exact (by repeat (first | exact Le.refl _ | assumption | apply Le.drop))))
        · refine ⟨fun x S c he hw hd hc hcu hm _ => ?_, trivial⟩
          obtain ⟨h29, h22, -⟩ := hd
          refine TOps.move h29 rfl ?_
          exact TOps.fin (Nrm.draw x (fun _ _ _ => rfl) rfl (by first | exact Le.refl _ | assumption | exact (by repeat (first | exact Le.refl _ | assumption | apply Le.drop))))
        · refine ⟨fun x S c he hw hd hc hcu hm hgd => ?_, ⟨_, rfl⟩, .inl ⟨rfl, fun x => .inl rfl⟩⟩
          obtain ⟨h30, -⟩ := hd
          refine TOps.move (he _ _ rfl) rfl ?_
          exact TOps.fin (Nrm.draw x (fun _ _ _ => rfl) rfl (by first | exact Le.refl _ | assumption | exact (by repeat (first | exact Le.refl _ | assumption | apply Le.drop))))
        · refine ⟨fun x S c he hw hd hc hcu hm hgd => ?_, ⟨_, rfl⟩, .inl ⟨rfl, fun x => .inl rfl⟩⟩
          obtain ⟨h30, -⟩ := hd
          refine TOps.move (he _ _ rfl) rfl ?_
          exact TOps.fin (Nrm.draw x (fun _ _ _ => rfl) rfl (by first | exact Le.refl _ | assumption | exact (by repeat (first | exact Le.refl _ | assumption | apply Le.drop))))
        · refine ⟨fun x S c he hw hd hc hcu hm hgd => ?_, ⟨_, rfl⟩, .inl ⟨rfl, fun x => .inl rfl⟩⟩
          obtain ⟨h30, -⟩ := hd
          refine TOps.field0 (he _ _ rfl) Try.underlying24 rfl rfl ti3 rfl rfl rfl ?_
          exact TOps.fin (Nrm.draw x (fun _ _ _ => rfl) rfl (by first | exact Le.refl _ | assumption | exact (by repeat (first | exact Le.refl _ | assumption | apply Le.drop))))
        · refine ⟨fun x S c he hw hd hc hcu hm hgd => ?_, ⟨_, rfl⟩, .inl ⟨rfl, fun x => .inl rfl⟩⟩
          obtain ⟨h33, h30, -⟩ := hd
          refine TOps.load1 h33 ti3 (by first | exact Rd.lit (by repeat (first | exact List.Mem.head _ | apply List.Mem.tail)) rfl | (repeat (first | assumption | exact Rd.fld (by assumption) 0 rfl | apply Rd.up))) rfl ?_
          exact TOps.fin (Nrm.draw x (fun _ _ _ => rfl) rfl (by first | exact Le.refl _ | assumption | exact (by repeat (first | exact Le.refl _ | assumption | apply Le.drop))))
        · refine ⟨fun x S c he hw hd hc hcu hm hgd => ?_, ⟨_, rfl⟩, .inl ⟨rfl, fun x => .inl rfl⟩⟩
          obtain ⟨h32, h34, h30, -⟩ := hd
          refine TOps.sub (r := (i : Int)) h32 h34 (by rw [wrapI (by omega) (by omega)]; omega) rfl ?_
          exact TOps.fin (Nrm.draw x (fun _ _ _ => rfl) rfl (by first | exact Le.refl _ | assumption | exact (by repeat (first | exact Le.refl _ | assumption | apply Le.drop))))
        · refine ⟨fun x S c he hw hd hc hcu hm hgd => ?_, ⟨_, rfl⟩, .inl ⟨rfl, fun x => .inl rfl⟩⟩
          obtain ⟨h31, h35, h30, -⟩ := hd
          refine TOps.indexAddr (off' := i) h31 h35 Try.underlying50 ti4 (by omega) (by omega) (by simp) rfl ?_
          exact TOps.fin (Nrm.draw x (fun _ _ _ => rfl) rfl (by first | exact Le.refl _ | assumption | exact (by repeat (first | exact Le.refl _ | assumption | apply Le.drop))))
        · refine ⟨fun x S c he hw hd hc hcu hm hgd => ?_, ⟨_, rfl⟩, .inl ⟨rfl, fun x => .inl rfl⟩⟩
          obtain ⟨h36, h30, -⟩ := hd
          refine TOps.load1 h36 ti4 hv1 rfl ?_
          exact TOps.fin (Nrm.draw x (fun _ _ _ => rfl) rfl (by first | exact Le.refl _ | assumption | exact (by repeat (first | exact Le.refl _ | assumption | apply Le.drop))))
        · refine ⟨fun x S c he hw hd hc hcu hm hgd => ?_, ⟨_, rfl⟩, .inl ⟨rfl, fun x => .inl rfl⟩⟩
          obtain ⟨h30, -⟩ := hd
          refine TOps.move (he _ _ rfl) rfl ?_
          exact TOps.fin (Nrm.draw x (fun _ _ _ => rfl) rfl (by first | exact Le.refl _ | assumption | exact (by repeat (first | exact Le.refl _ | assumption | apply Le.drop))))
        · refine ⟨fun x S c he hw hd hc hcu hm hgd => ?_, ⟨_, rfl⟩, .inl ⟨rfl, fun x => .inl rfl⟩⟩
          obtain ⟨h30, -⟩ := hd
          refine TOps.move (he _ _ rfl) rfl ?_
          exact TOps.fin (Nrm.draw x (fun _ _ _ => rfl) rfl (by first | exact Le.refl _ | assumption | exact (by repeat (first | exact Le.refl _ | assumption | apply Le.drop))))
        · refine ⟨fun x S c he hw hd hc hcu hm hgd => ?_, ⟨_, rfl⟩, .inl ⟨rfl, fun x => .inl rfl⟩⟩
          obtain ⟨h30, -⟩ := hd
          refine TOps.field0 (he _ _ rfl) Try.underlying24 rfl rfl ti3 rfl rfl rfl ?_
          exact TOps.fin (Nrm.draw x (fun _ _ _ => rfl) rfl (by first | exact Le.refl _ | assumption | exact (by repeat (first | exact Le.refl _ | assumption | apply Le.drop))))
        · refine ⟨fun x S c he hw hd hc hcu hm hgd => ?_, ⟨_, rfl⟩, .inl ⟨rfl, fun x => .inl rfl⟩⟩
          obtain ⟨h40, h30, -⟩ := hd
          refine TOps.load1 h40 ti3 (by first | exact Rd.lit (by repeat (first | exact List.Mem.head _ | apply List.Mem.tail)) rfl | (repeat (first | assumption | exact Rd.fld (by assumption) 0 rfl | apply Rd.up))) rfl ?_
          exact TOps.fin (Nrm.draw x (fun _ _ _ => rfl) rfl (by first | exact Le.refl _ | assumption | exact (by repeat (first | exact Le.refl _ | assumption | apply Le.drop))))
        · refine ⟨fun x S c he hw hd hc hcu hm hgd => ?_, ⟨_, rfl⟩, .inl ⟨rfl, fun x => .inl rfl⟩⟩
          obtain ⟨h39, h41, h30, -⟩ := hd
          refine TOps.sub (r := (i : Int)) h39 h41 (by rw [wrapI (by omega) (by omega)]; omega) rfl ?_
          exact TOps.fin (Nrm.draw x (fun _ _ _ => rfl) rfl (by first | exact Le.refl _ | assumption | exact (by repeat (first | exact Le.refl _ | assumption | apply Le.drop))))
        · refine ⟨fun x S c he hw hd hc hcu hm hgd => ?_, ⟨_, rfl⟩, .inl ⟨rfl, fun x => .inl rfl⟩⟩
          obtain ⟨h38, h42, h30, -⟩ := hd
          refine TOps.indexAddr (off' := i) h38 h42 Try.underlying50 ti4 (by omega) (by omega) (by simp) rfl ?_
          exact TOps.fin (Nrm.draw x (fun _ _ _ => rfl) rfl (by first | exact Le.refl _ | assumption | exact (by repeat (first | exact Le.refl _ | assumption | apply Le.drop))))
        · refine ⟨fun x S c he hw hd hc hcu hm hgd => ?_, ⟨_, rfl⟩, .inl ⟨rfl, fun x => .inl rfl⟩⟩
          obtain ⟨h43, h30, -⟩ := hd
          refine TOps.load1 h43 ti4 hw1 rfl ?_
          exact TOps.fin (Nrm.draw x (fun _ _ _ => rfl) rfl (by first | exact Le.refl _ | assumption | exact (by repeat (first | exact Le.refl _ | assumption | apply Le.drop))))
        · refine ⟨fun x S c he hw hd hc hcu hm hgd => ?_, ⟨_, rfl⟩, .inl ⟨rfl, fun x => .inl rfl⟩⟩
          obtain ⟨h37, h44, h30, -⟩ := hd
          refine TOps.eqlBr h37 h44 qq Try.underlying4 rfl ?_
          exact TOps.fin (Nrm.draw x (fun _ _ _ => rfl) rfl (by first | exact Le.refl _ | assumption | exact (by repeat (first | exact Le.refl _ | assumption | apply Le.drop))))
        · refine ⟨fun x S c he hw hd hc hcu hm hgd => ?_, ⟨_, rfl⟩, .inl ⟨rfl, fun x => .inl rfl⟩⟩
          obtain ⟨h45, h30, _, -⟩ := hd
          refine TOps.move h45 rfl ?_
          exact TOps.fin (Nrm.draw x (fun _ _ _ => rfl) rfl (by first | exact Le.refl _ | assumption | exact (by repeat (first | exact Le.refl _ | assumption | apply Le.drop))))
        · refine ⟨fun x S c he hw hd hc hcu hm hgd => ?_, ⟨_, rfl⟩, .inl ⟨rfl, fun x => .inl rfl⟩⟩
          obtain ⟨h46, -⟩ := hd
          refine TOps.move (he _ _ rfl) rfl ?_
          exact TOps.fin (Nrm.draw x (fun _ _ _ => rfl) rfl (by first | exact Le.refl _ | assumption | exact (by repeat (first | exact Le.refl _ | assumption | apply Le.drop))))
        · refine ⟨fun x S c he hw hd hc hcu hm hgd => ?_, ⟨_, rfl⟩, .inl ⟨rfl, fun x => .inl rfl⟩⟩
          obtain ⟨h46, -⟩ := hd
          refine TOps.move (he _ _ rfl) rfl ?_
          exact TOps.fin (Nrm.draw x (fun _ _ _ => rfl) rfl (by first | exact Le.refl _ | assumption | exact (by repeat (first | exact Le.refl _ | assumption | apply Le.drop))))
        · refine ⟨fun x S c he hw hd hc hcu hm hgd => ?_, ⟨_, rfl⟩, .inl ⟨rfl, fun x => .inl rfl⟩⟩
          obtain ⟨h47, h48, h46, -⟩ := hd
          refine TOps.neqBr (r := false) h47 h48 (by rw [hlaw (by simpa using qq)]; simp) Try.underlying4 rfl ?_
          exact TOps.fin (Nrm.draw x (fun _ _ _ => rfl) rfl (by first | exact Le.refl _ | assumption | exact (by repeat (first | exact Le.refl _ | assumption | apply Le.drop))))
        · refine ⟨fun x S c he hw hd hc hcu hm hgd => ?_, ⟨_, rfl⟩, .inl ⟨rfl, fun x => .inl rfl⟩⟩
          obtain ⟨h46, h49, h30, -⟩ := hd
          refine TOps.pickr (r := .bool false) h46 h49 rfl rfl rfl ?_
          exact TOps.fin (Nrm.draw x (fun _ _ _ => rfl) rfl (by first | exact Le.refl _ | assumption | exact (by repeat (first | exact Le.refl _ | assumption | apply Le.drop))))
        · refine ⟨fun x S c he hw hd hc hcu hm _ => ?_, trivial⟩
          obtain ⟨h30, h50, -⟩ := hd
          refine TOps.pickr (r := .bool false) h30 rfl h50 rfl rfl ?_
          exact TOps.fin (Nrm.draw x (fun _ _ _ => rfl) rfl (by first | exact Le.refl _ | assumption | exact (by repeat (first | exact Le.refl _ | assumption | apply Le.drop))))
        ) ?_
      refine Nrm.next ?_
      refine Tri.cond rfl (fun hc4 => ?_) (fun hc4 => ?_)
      · try simp only [decide_eq_true_eq, decide_eq_false_iff_not, Bool.and_eq_true, Bool.or_eq_true, Bool.not_eq_true', Bool.and_eq_false_iff, Bool.or_eq_false_iff, Bool.not_eq_false', Int.not_lt, Int.not_le, ne_eq, Decidable.not_not, Option.isSome_iff_ne_none, Option.isNone_iff_eq_none] at hc4
        have hfalse : False := by simp at hc4
        refine Tri.seq (Tri.region ?_)
        refine TOps.assign rfl rfl ?_
        refine TOps.next ?_
        exact hfalse.elim
      try simp only [decide_eq_true_eq, decide_eq_false_iff_not, Bool.and_eq_true, Bool.or_eq_true, Bool.not_eq_true', Bool.and_eq_false_iff, Bool.or_eq_false_iff, Bool.not_eq_false', Int.not_lt, Int.not_le, ne_eq, Decidable.not_not, Option.isSome_iff_ne_none, Option.isNone_iff_eq_none] at hc4
      refine Tri.fin ?_
      refine Nrm.body () trivial ⟨rfl, rfl, rfl, rfl, rfl, rfl, trivial⟩ l6
    · skip
      refine Tri.drawC rfl [(2, .pointer (some ⟨b2, 0, none⟩)), (3, .pointer (some ⟨b3, 0, none⟩)), (7, .int .i64 X), (57, slV (some lb) 0 F.find.length lcap), (58, .int .i64 F.find.length), (59, .int .i64 k), (9, .int .i64 ((F.vars.toNat + i : Nat) : Int)), (13, slV (some vb) 0 F.nodes.length vcap), (14, errV 43 none), (15, slV (some wb) 0 F.nodes.length wcap), (16, errV 43 none), (17, .bool (F.value (X : Int))), (18, errV 43 none), (19, .bool (F.value (Y : Int))), (20, errV 43 none)] [] [_, _, _, _, _, _, _, _, _, _, _, _, _, _, _, _, _, _, _, _, _, _, _, _, _, _, _, _, _, _, _, _, _, _, _, _, _, _, _, _, _, _, _, _, _, _, _, _, _, _, _, _] (H5) [51] rfl ⟨rfl, rfl, rfl, rfl, rfl, rfl, rfl, rfl, rfl, rfl, rfl, rfl, rfl, rfl, rfl, trivial⟩ trivial (by repeat (first | exact Le.refl _ | assumption | apply Le.drop)) (by
        refine ⟨?_, ?_, ?_, ?_, ?_, ?_, ?_, ?_, ?_, ?_, ?_, ?_, ?_, ?_, ?_, ?_, ?_, ?_, ?_, ?_, ?_, ?_, ?_, ?_, ?_, ?_, ?_, ?_, ?_, ?_, ?_, ?_, ?_, ?_, ?_, ?_, ?_, ?_, ?_, ?_, ?_, ?_, ?_, ?_, ?_, ?_, ?_, ?_, ?_, ?_, ?_, ?_, trivial⟩
        · refine ⟨fun x S c he hw hd hc hcu hm _ => ?_, trivial⟩
          refine TOps.move (he _ _ rfl) rfl ?_
          exact TOps.fin (Nrm.draw x (fun _ _ _ => rfl) rfl (by first | exact Le.refl _ | assumption | exact (by repeat (first | exact Le.refl _ | assumption | apply Le.drop))))
        · refine ⟨fun x S c he hw hd hc hcu hm _ => ?_, trivial⟩
          obtain ⟨h0, -⟩ := hd
          refine TOps.neqNil (T := 43) (o := none) h0 Try.underlying28 rfl ?_
          exact TOps.fin (Nrm.draw x (fun _ _ _ => rfl) rfl (by first | exact Le.refl _ | assumption | exact (by repeat (first | exact Le.refl _ | assumption | apply Le.drop))))
        · refine ⟨fun x S c he hw hd hc hcu hm _ => ?_, trivial⟩
          obtain ⟨h1, -⟩ := hd
          refine TOps.move h1 rfl ?_
          exact TOps.fin (Nrm.draw x (fun _ _ _ => rfl) rfl (by first | exact Le.refl _ | assumption | exact (by repeat (first | exact Le.refl _ | assumption | apply Le.drop))))
        · refine ⟨fun x S c he hw hd hc hcu hm hgd => ?_, ⟨_, rfl⟩, .inl ⟨rfl, fun x => .inl rfl⟩⟩
          obtain ⟨h2, -⟩ := hd
          refine TOps.move (he _ _ rfl) rfl ?_
          exact TOps.fin (Nrm.draw x (fun _ _ _ => rfl) rfl (by first | exact Le.refl _ | assumption | exact (by repeat (first | exact Le.refl _ | assumption | apply Le.drop))))
        · refine ⟨fun x S c he hw hd hc hcu hm hgd => ?_, ⟨_, rfl⟩, .inl ⟨rfl, fun x => .inl rfl⟩⟩
          obtain ⟨h3, h2, -⟩ := hd
          refine TOps.neqNil (T := 43) (o := none) h3 Try.underlying28 rfl ?_
          exact TOps.fin (Nrm.draw x (fun _ _ _ => rfl) rfl (by first | exact Le.refl _ | assumption | exact (by repeat (first | exact Le.refl _ | assumption | apply Le.drop))))
        · refine ⟨fun x S c he hw hd hc hcu hm _ => ?_, trivial⟩
          obtain ⟨h2, h4, -⟩ := hd
          refine TOps.pick h2 rfl h4 rfl ?_
          exact TOps.fin (Nrm.draw x (fun _ _ _ => rfl) rfl (by first | exact Le.refl _ | assumption | exact (by repeat (first | exact Le.refl _ | assumption | apply Le.drop))))
        · refine ⟨fun x S c he hw hd hc hcu hm _ => ?_, trivial⟩
          obtain ⟨h5, h2, -⟩ := hd
          refine TOps.move h5 rfl ?_
          exact TOps.fin (Nrm.draw x (fun _ _ _ => rfl) rfl (by first | exact Le.refl _ | assumption | exact (by repeat (first | exact Le.refl _ | assumption | apply Le.drop))))
        · refine ⟨fun x S c he hw hd hc hcu hm hgd => ?_, ⟨_, rfl⟩, .inl ⟨rfl, fun x => .inl rfl⟩⟩
          obtain ⟨h6, -⟩ := hd
          refine TOps.move (he _ _ rfl) rfl ?_
          exact TOps.fin (Nrm.draw x (fun _ _ _ => rfl) rfl (by first | exact Le.refl _ | assumption | exact (by repeat (first | exact Le.refl _ | assumption | apply Le.drop))))
        · refine ⟨fun x S c he hw hd hc hcu hm hgd => ?_, ⟨_, rfl⟩, .inl ⟨rfl, fun x => .inl rfl⟩⟩
          obtain ⟨h7, h6, -⟩ := hd
          refine TOps.neqNil (T := 43) (o := none) h7 Try.underlying28 rfl ?_
          exact TOps.fin (Nrm.draw x (fun _ _ _ => rfl) rfl (by first | exact Le.refl _ | assumption | exact (by repeat (first | exact Le.refl _ | assumption | apply Le.drop))))
        · refine ⟨fun x S c he hw hd hc hcu hm _ => ?_, trivial⟩
          obtain ⟨h6, h8, -⟩ := hd
          refine TOps.pick h6 rfl h8 rfl ?_
          exact TOps.fin (Nrm.draw x (fun _ _ _ => rfl) rfl (by first | exact Le.refl _ | assumption | exact (by repeat (first | exact Le.refl _ | assumption | apply Le.drop))))
        · refine ⟨fun x S c he hw hd hc hcu hm _ => ?_, trivial⟩
          obtain ⟨h9, h6, -⟩ := hd
          refine TOps.move h9 rfl ?_
          exact TOps.fin (Nrm.draw x (fun _ _ _ => rfl) rfl (by first | exact Le.refl _ | assumption | exact (by repeat (first | exact Le.refl _ | assumption | apply Le.drop))))
        · refine ⟨fun x S c he hw hd hc hcu hm hgd => ?_, ⟨_, rfl⟩, .inl ⟨rfl, fun x => .inl rfl⟩⟩
          obtain ⟨h10, -⟩ := hd
          refine TOps.move (he _ _ rfl) rfl ?_
          exact TOps.fin (Nrm.draw x (fun _ _ _ => rfl) rfl (by first | exact Le.refl _ | assumption | exact (by repeat (first | exact Le.refl _ | assumption | apply Le.drop))))
        · refine ⟨fun x S c he hw hd hc hcu hm hgd => ?_, ⟨_, rfl⟩, .inl ⟨rfl, fun x => .inl rfl⟩⟩
          obtain ⟨h11, h10, -⟩ := hd
          refine TOps.neqNil (T := 43) (o := none) h11 Try.underlying28 rfl ?_
          exact TOps.fin (Nrm.draw x (fun _ _ _ => rfl) rfl (by first | exact Le.refl _ | assumption | exact (by repeat (first | exact Le.refl _ | assumption | apply Le.drop))))
        · refine ⟨fun x S c he hw hd hc hcu hm _ => ?_, trivial⟩
          obtain ⟨h10, h12, -⟩ := hd
          refine TOps.pick h10 rfl h12 rfl ?_
          exact TOps.fin (Nrm.draw x (fun _ _ _ => rfl) rfl (by first | exact Le.refl _ | assumption | exact (by repeat (first | exact Le.refl _ | assumption | apply Le.drop))))
        · refine ⟨fun x S c he hw hd hc hcu hm _ => ?_, trivial⟩
          obtain ⟨h13, h10, -⟩ := hd
          refine TOps.move h13 rfl ?_
          exact TOps.fin (Nrm.draw x (fun _ _ _ => rfl) rfl (by first | exact Le.refl _ | assumption | exact (by repeat (first | exact Le.refl _ | assumption | apply Le.drop))))
        · refine ⟨fun x S c he hw hd hc hcu hm hgd => ?_, ⟨_, rfl⟩, .inl ⟨rfl, fun x => .inl rfl⟩⟩
          obtain ⟨h14, -⟩ := hd
          refine TOps.move (he _ _ rfl) rfl ?_
          exact TOps.fin (Nrm.draw x (fun _ _ _ => rfl) rfl (by first | exact Le.refl _ | assumption | exact (by repeat (first | exact Le.refl _ | assumption | apply Le.drop))))
        · refine ⟨fun x S c he hw hd hc hcu hm hgd => ?_, ⟨_, rfl⟩, .inl ⟨rfl, fun x => .inl rfl⟩⟩
          obtain ⟨h15, h14, -⟩ := hd
          refine TOps.len h15 Try.underlying50 rfl ?_
          exact TOps.fin (Nrm.draw x (fun _ _ _ => rfl) rfl (by first | exact Le.refl _ | assumption | exact (by repeat (first | exact Le.refl _ | assumption | apply Le.drop))))
        · refine ⟨fun x S c he hw hd hc hcu hm hgd => ?_, ⟨_, rfl⟩, .inl ⟨rfl, fun x => .inl rfl⟩⟩
          obtain ⟨h14, -⟩ := hd
          first | refine TOps.fieldB 1 (he _ _ rfl) Try.underlying24 rfl rfl ti22 rfl rfl rfl ?_ | refine TOps.fieldN 1 (he _ _ rfl) Try.underlying24 rfl rfl ti22 rfl rfl rfl ?_
          exact TOps.fin (Nrm.draw x (fun _ _ _ => rfl) rfl (by first | exact Le.refl _ | assumption | exact (by repeat (first | exact Le.refl _ | assumption | apply Le.drop))))
        · refine ⟨fun x S c he hw hd hc hcu hm hgd => ?_, ⟨_, rfl⟩, .inl ⟨rfl, fun x => .inl rfl⟩⟩
          obtain ⟨h17, h14, -⟩ := hd
          refine TOps.load1 h17 ti22 (by first | exact Rd.lit (by repeat (first | exact List.Mem.head _ | apply List.Mem.tail)) rfl | (repeat (first | assumption | exact Rd.fld (by assumption) 1 rfl | apply Rd.up))) rfl ?_
          exact TOps.fin (Nrm.draw x (fun _ _ _ => rfl) rfl (by first | exact Le.refl _ | assumption | exact (by repeat (first | exact Le.refl _ | assumption | apply Le.drop))))
        · refine ⟨fun x S c he hw hd hc hcu hm hgd => ?_, ⟨_, rfl⟩, .inl ⟨rfl, fun x => .inl rfl⟩⟩
          obtain ⟨h18, h14, -⟩ := hd
          refine TOps.len h18 Try.underlying22 rfl ?_
          exact TOps.fin (Nrm.draw x (fun _ _ _ => rfl) rfl (by first | exact Le.refl _ | assumption | exact (by repeat (first | exact Le.refl _ | assumption | apply Le.drop))))
        · refine ⟨fun x S c he hw hd hc hcu hm hgd => ?_, ⟨_, rfl⟩, .inl ⟨rfl, fun x => .inl rfl⟩⟩
          obtain ⟨h16, h19, h14, -⟩ := hd
          refine TOps.neqIr (r := false) h16 h19 (by simp) rfl ?_
          exact TOps.fin (Nrm.draw x (fun _ _ _ => rfl) rfl (by first | exact Le.refl _ | assumption | exact (by repeat (first | exact Le.refl _ | assumption | apply Le.drop))))
        · refine ⟨fun x S c he hw hd hc hcu hm _ => ?_, trivial⟩
          obtain ⟨h14, h20, -⟩ := hd
          refine TOps.pick h14 rfl h20 rfl ?_
          exact TOps.fin (Nrm.draw x (fun _ _ _ => rfl) rfl (by first | exact Le.refl _ | assumption | exact (by repeat (first | exact Le.refl _ | assumption | apply Le.drop))))
        · refine ⟨fun x S c he hw hd hc hcu hm _ => ?_, trivial⟩
          obtain ⟨h21, h14, -⟩ := hd
          refine TOps.move h21 rfl ?_
          exact TOps.fin (Nrm.draw x (fun _ _ _ => rfl) rfl (by first | exact Le.refl _ | assumption | exact (by repeat (first | exact Le.refl _ | assumption | apply Le.drop))))
        · refine ⟨fun x S c he hw hd hc hcu hm hgd => ?_, ⟨_, rfl⟩, .inl ⟨rfl, fun x => .inl rfl⟩⟩
          obtain ⟨h22, -⟩ := hd
          refine TOps.move (he _ _ rfl) rfl ?_
          exact TOps.fin (Nrm.draw x (fun _ _ _ => rfl) rfl (by first | exact Le.refl _ | assumption | exact (by repeat (first | exact Le.refl _ | assumption | apply Le.drop))))
        · refine ⟨fun x S c he hw hd hc hcu hm hgd => ?_, ⟨_, rfl⟩, .inl ⟨rfl, fun x => .inl rfl⟩⟩
          obtain ⟨h23, h22, -⟩ := hd
          refine TOps.len h23 Try.underlying50 rfl ?_
          exact TOps.fin (Nrm.draw x (fun _ _ _ => rfl) rfl (by first | exact Le.refl _ | assumption | exact (by repeat (first | exact Le.refl _ | assumption | apply Le.drop))))
        · refine ⟨fun x S c he hw hd hc hcu hm hgd => ?_, ⟨_, rfl⟩, .inl ⟨rfl, fun x => .inl rfl⟩⟩
          obtain ⟨h22, -⟩ := hd
          first | refine TOps.fieldB 1 (he _ _ rfl) Try.underlying24 rfl rfl ti22 rfl rfl rfl ?_ | refine TOps.fieldN 1 (he _ _ rfl) Try.underlying24 rfl rfl ti22 rfl rfl rfl ?_
          exact TOps.fin (Nrm.draw x (fun _ _ _ => rfl) rfl (by first | exact Le.refl _ | assumption | exact (by repeat (first | exact Le.refl _ | assumption | apply Le.drop))))
        · refine ⟨fun x S c he hw hd hc hcu hm hgd => ?_, ⟨_, rfl⟩, .inl ⟨rfl, fun x => .inl rfl⟩⟩
          obtain ⟨h25, h22, -⟩ := hd
          refine TOps.load1 h25 ti22 (by first | exact Rd.lit (by repeat (first | exact List.Mem.head _ | apply List.Mem.tail)) rfl | (repeat (first | assumption | exact Rd.fld (by assumption) 1 rfl | apply Rd.up))) rfl ?_
          exact TOps.fin (Nrm.draw x (fun _ _ _ => rfl) rfl (by first | exact Le.refl _ | assumption | exact (by repeat (first | exact Le.refl _ | assumption | apply Le.drop))))
        · refine ⟨fun x S c he hw hd hc hcu hm hgd => ?_, ⟨_, rfl⟩, .inl ⟨rfl, fun x => .inl rfl⟩⟩
          obtain ⟨h26, h22, -⟩ := hd
          refine TOps.len h26 Try.underlying22 rfl ?_
          exact TOps.fin (Nrm.draw x (fun _ _ _ => rfl) rfl (by first | exact Le.refl _ | assumption | exact (by repeat (first | exact Le.refl _ | assumption | apply Le.drop))))
        · refine ⟨fun x S c he hw hd hc hcu hm hgd => ?_, ⟨_, rfl⟩, .inl ⟨rfl, fun x => .inl rfl⟩⟩
          obtain ⟨h24, h27, h22, -⟩ := hd
          refine TOps.neqIr (r := false) h24 h27 (by simp) rfl ?_
          exact TOps.fin (Nrm.draw x (fun _ _ _ => rfl) rfl (by first | exact Le.refl _ | assumption | exact (by repeat (first | exact Le.refl _ | assumption | apply Le.drop))))
        · refine ⟨fun x S c he hw hd hc hcu hm _ => ?_, trivial⟩
          obtain ⟨h22, h28, -⟩ := hd
          refine TOps.pick h22 rfl h28 rfl ?_
          exact TOps.fin (Nrm.draw x (fun _ _ _ => rfl) rfl (by first | exact Le.refl _ | assumption | exact (by repeat (first | exact Le.refl _ | assumption | apply Le.drop))))
        · refine ⟨fun x S c he hw hd hc hcu hm _ => ?_, trivial⟩
          obtain ⟨h29, h22, -⟩ := hd
          refine TOps.move h29 rfl ?_
          exact TOps.fin (Nrm.draw x (fun _ _ _ => rfl) rfl (by first | exact Le.refl _ | assumption | exact (by repeat (first | exact Le.refl _ | assumption | apply Le.drop))))
        · refine ⟨fun x S c he hw hd hc hcu hm hgd => ?_, ⟨_, rfl⟩, .inl ⟨rfl, fun x => .inl rfl⟩⟩
          obtain ⟨h30, -⟩ := hd
          refine TOps.move (he _ _ rfl) rfl ?_
          exact TOps.fin (Nrm.draw x (fun _ _ _ => rfl) rfl (by first | exact Le.refl _ | assumption | exact (by repeat (first | exact Le.refl _ | assumption | apply Le.drop))))
        · refine ⟨fun x S c he hw hd hc hcu hm hgd => ?_, ⟨_, rfl⟩, .inl ⟨rfl, fun x => .inl rfl⟩⟩
          obtain ⟨h30, -⟩ := hd
          refine TOps.move (he _ _ rfl) rfl ?_
          exact TOps.fin (Nrm.draw x (fun _ _ _ => rfl) rfl (by first | exact Le.refl _ | assumption | exact (by repeat (first | exact Le.refl _ | assumption | apply Le.drop))))
        · refine ⟨fun x S c he hw hd hc hcu hm hgd => ?_, ⟨_, rfl⟩, .inl ⟨rfl, fun x => .inl rfl⟩⟩
          obtain ⟨h30, -⟩ := hd
          refine TOps.field0 (he _ _ rfl) Try.underlying24 rfl rfl ti3 rfl rfl rfl ?_
          exact TOps.fin (Nrm.draw x (fun _ _ _ => rfl) rfl (by first | exact Le.refl _ | assumption | exact (by repeat (first | exact Le.refl _ | assumption | apply Le.drop))))
        · refine ⟨fun x S c he hw hd hc hcu hm hgd => ?_, ⟨_, rfl⟩, .inl ⟨rfl, fun x => .inl rfl⟩⟩
          obtain ⟨h33, h30, -⟩ := hd
          refine TOps.load1 h33 ti3 (by first | exact Rd.lit (by repeat (first | exact List.Mem.head _ | apply List.Mem.tail)) rfl | (repeat (first | assumption | exact Rd.fld (by assumption) 0 rfl | apply Rd.up))) rfl ?_
          exact TOps.fin (Nrm.draw x (fun _ _ _ => rfl) rfl (by first | exact Le.refl _ | assumption | exact (by repeat (first | exact Le.refl _ | assumption | apply Le.drop))))
        · refine ⟨fun x S c he hw hd hc hcu hm hgd => ?_, ⟨_, rfl⟩, .inl ⟨rfl, fun x => .inl rfl⟩⟩
          obtain ⟨h32, h34, h30, -⟩ := hd
          refine TOps.sub (r := (i : Int)) h32 h34 (by rw [wrapI (by omega) (by omega)]; omega) rfl ?_
          exact TOps.fin (Nrm.draw x (fun _ _ _ => rfl) rfl (by first | exact Le.refl _ | assumption | exact (by repeat (first | exact Le.refl _ | assumption | apply Le.drop))))
        · refine ⟨fun x S c he hw hd hc hcu hm hgd => ?_, ⟨_, rfl⟩, .inl ⟨rfl, fun x => .inl rfl⟩⟩
          obtain ⟨h31, h35, h30, -⟩ := hd
          refine TOps.indexAddr (off' := i) h31 h35 Try.underlying50 ti4 (by omega) (by omega) (by simp) rfl ?_
          exact TOps.fin (Nrm.draw x (fun _ _ _ => rfl) rfl (by first | exact Le.refl _ | assumption | exact (by repeat (first | exact Le.refl _ | assumption | apply Le.drop))))
        · refine ⟨fun x S c he hw hd hc hcu hm hgd => ?_, ⟨_, rfl⟩, .inl ⟨rfl, fun x => .inl rfl⟩⟩
          obtain ⟨h36, h30, -⟩ := hd
          refine TOps.load1 h36 ti4 hv1 rfl ?_
          exact TOps.fin (Nrm.draw x (fun _ _ _ => rfl) rfl (by first | exact Le.refl _ | assumption | exact (by repeat (first | exact Le.refl _ | assumption | apply Le.drop))))
        · refine ⟨fun x S c he hw hd hc hcu hm hgd => ?_, ⟨_, rfl⟩, .inl ⟨rfl, fun x => .inl rfl⟩⟩
          obtain ⟨h30, -⟩ := hd
          refine TOps.move (he _ _ rfl) rfl ?_
          exact TOps.fin (Nrm.draw x (fun _ _ _ => rfl) rfl (by first | exact Le.refl _ | assumption | exact (by repeat (first | exact Le.refl _ | assumption | apply Le.drop))))
        · refine ⟨fun x S c he hw hd hc hcu hm hgd => ?_, ⟨_, rfl⟩, .inl ⟨rfl, fun x => .inl rfl⟩⟩
          obtain ⟨h30, -⟩ := hd
          refine TOps.move (he _ _ rfl) rfl ?_
          exact TOps.fin (Nrm.draw x (fun _ _ _ => rfl) rfl (by first | exact Le.refl _ | assumption | exact (by repeat (first | exact Le.refl _ | assumption | apply Le.drop))))
        · refine ⟨fun x S c he hw hd hc hcu hm hgd => ?_, ⟨_, rfl⟩, .inl ⟨rfl, fun x => .inl rfl⟩⟩
          obtain ⟨h30, -⟩ := hd
          refine TOps.field0 (he _ _ rfl) Try.underlying24 rfl rfl ti3 rfl rfl rfl ?_
          exact TOps.fin (Nrm.draw x (fun _ _ _ => rfl) rfl (by first | exact Le.refl _ | assumption | exact (by repeat (first | exact Le.refl _ | assumption | apply Le.drop))))
        · refine ⟨fun x S c he hw hd hc hcu hm hgd => ?_, ⟨_, rfl⟩, .inl ⟨rfl, fun x => .inl rfl⟩⟩
          obtain ⟨h40, h30, -⟩ := hd
          refine TOps.load1 h40 ti3 (by first | exact Rd.lit (by repeat (first | exact List.Mem.head _ | apply List.Mem.tail)) rfl | (repeat (first | assumption | exact Rd.fld (by assumption) 0 rfl | apply Rd.up))) rfl ?_
          exact TOps.fin (Nrm.draw x (fun _ _ _ => rfl) rfl (by first | exact Le.refl _ | assumption | exact (by repeat (first | exact Le.refl _ | assumption | apply Le.drop))))
        · refine ⟨fun x S c he hw hd hc hcu hm hgd => ?_, ⟨_, rfl⟩, .inl ⟨rfl, fun x => .inl rfl⟩⟩
          obtain ⟨h39, h41, h30, -⟩ := hd
          refine TOps.sub (r := (i : Int)) h39 h41 (by rw [wrapI (by omega) (by omega)]; omega) rfl ?_
          exact TOps.fin (Nrm.draw x (fun _ _ _ => rfl) rfl (by first | exact Le.refl _ | assumption | exact (by repeat (first | exact Le.refl _ | assumption | apply Le.drop))))
        · refine ⟨fun x S c he hw hd hc hcu hm hgd => ?_, ⟨_, rfl⟩, .inl ⟨rfl, fun x => .inl rfl⟩⟩
          obtain ⟨h38, h42, h30, -⟩ := hd
          refine TOps.indexAddr (off' := i) h38 h42 Try.underlying50 ti4 (by omega) (by omega) (by simp) rfl ?_
          exact TOps.fin (Nrm.draw x (fun _ _ _ => rfl) rfl (by first | exact Le.refl _ | assumption | exact (by repeat (first | exact Le.refl _ | assumption | apply Le.drop))))
        · refine ⟨fun x S c he hw hd hc hcu hm hgd => ?_, ⟨_, rfl⟩, .inl ⟨rfl, fun x => .inl rfl⟩⟩
          obtain ⟨h43, h30, -⟩ := hd
          refine TOps.load1 h43 ti4 hw1 rfl ?_
          exact TOps.fin (Nrm.draw x (fun _ _ _ => rfl) rfl (by first | exact Le.refl _ | assumption | exact (by repeat (first | exact Le.refl _ | assumption | apply Le.drop))))
        · refine ⟨fun x S c he hw hd hc hcu hm hgd => ?_, ⟨_, rfl⟩, .inl ⟨rfl, fun x => .inl rfl⟩⟩
          obtain ⟨h37, h44, h30, -⟩ := hd
          refine TOps.eqlBr h37 h44 qq Try.underlying4 rfl ?_
          exact TOps.fin (Nrm.draw x (fun _ _ _ => rfl) rfl (by first | exact Le.refl _ | assumption | exact (by repeat (first | exact Le.refl _ | assumption | apply Le.drop))))
        · refine ⟨fun x S c he hw hd hc hcu hm hgd => ?_, ⟨_, rfl⟩, .inl ⟨rfl, fun x => .inl rfl⟩⟩
          obtain ⟨h45, h30, _, -⟩ := hd
          refine TOps.move h45 rfl ?_
          exact TOps.fin (Nrm.draw x (fun _ _ _ => rfl) rfl (by first | exact Le.refl _ | assumption | exact (by repeat (first | exact Le.refl _ | assumption | apply Le.drop))))
        · refine ⟨fun x S c he hw hd hc hcu hm hgd => ?_, ⟨_, rfl⟩, .inl ⟨rfl, fun x => .inr ⟨.inl rfl, rfl⟩⟩⟩
          exact absurd hgd (by first | (intro h; cases h; done) | simp_all)
        · refine ⟨fun x S c he hw hd hc hcu hm hgd => ?_, ⟨_, rfl⟩, .inl ⟨rfl, fun x => .inr ⟨.inl rfl, rfl⟩⟩⟩
          exact absurd hgd (by first | (intro h; cases h; done) | simp_all)
        · refine ⟨fun x S c he hw hd hc hcu hm hgd => ?_, ⟨_, rfl⟩, .inl ⟨rfl, fun x => .inr ⟨.inl rfl, rfl⟩⟩⟩
          exact absurd hgd (by first | (intro h; cases h; done) | simp_all)
        · refine ⟨fun x S c he hw hd hc hcu hm hgd => ?_, ⟨_, rfl⟩, .inl ⟨rfl, fun x => .inl rfl⟩⟩
          obtain ⟨h46, h49, h30, -⟩ := hd
          refine TOps.pickr (r := .bool false) h46 h49 rfl rfl rfl ?_
          exact TOps.fin (Nrm.draw x (fun _ _ _ => rfl) rfl (by first | exact Le.refl _ | assumption | exact (by repeat (first | exact Le.refl _ | assumption | apply Le.drop))))
        · refine ⟨fun x S c he hw hd hc hcu hm _ => ?_, trivial⟩
          obtain ⟨h30, h50, -⟩ := hd
          refine TOps.pickr (r := .bool false) h30 rfl h50 rfl rfl ?_
          exact TOps.fin (Nrm.draw x (fun _ _ _ => rfl) rfl (by first | exact Le.refl _ | assumption | exact (by repeat (first | exact Le.refl _ | assumption | apply Le.drop))))
        ) ?_
      refine Nrm.next ?_
      refine Tri.cond rfl (fun hc4 => ?_) (fun hc4 => ?_)
      · try simp only [decide_eq_true_eq, decide_eq_false_iff_not, Bool.and_eq_true, Bool.or_eq_true, Bool.not_eq_true', Bool.and_eq_false_iff, Bool.or_eq_false_iff, Bool.not_eq_false', Int.not_lt, Int.not_le, ne_eq, Decidable.not_not, Option.isSome_iff_ne_none, Option.isNone_iff_eq_none] at hc4
        have hfalse : False := by simp at hc4
        refine Tri.seq (Tri.region ?_)
        refine TOps.assign rfl rfl ?_
        refine TOps.next ?_
        exact hfalse.elim
      try simp only [decide_eq_true_eq, decide_eq_false_iff_not, Bool.and_eq_true, Bool.or_eq_true, Bool.not_eq_true', Bool.and_eq_false_iff, Bool.or_eq_false_iff, Bool.not_eq_false', Int.not_lt, Int.not_le, ne_eq, Decidable.not_not, Option.isSome_iff_ne_none, Option.isNone_iff_eq_none] at hc4
      refine Tri.fin ?_
      refine Nrm.body () trivial ⟨rfl, rfl, rfl, rfl, rfl, rfl, trivial⟩ l6
  refine Nrm.of hS hM ?_
  refine Nrm.next ?_
  refine Tri.seq (Tri.region ?_)
  refine TOps.assign rfl rfl ?_
  refine TOps.next ?_
  refine Tri.ret1 (H' := H) Try.results7 (fun _ _ h => h) (.tmp rfl) l4 ⟨rfl, rfl⟩
end Go.Proofs
