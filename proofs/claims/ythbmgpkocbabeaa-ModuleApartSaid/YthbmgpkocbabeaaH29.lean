import Derived.Test.YthbmgpkocbabeaaC29
import Derived.Test.YthbmgpkocbabeaaGL32
namespace Go.Proofs
open Go.GL
set_option linter.unusedVariables false
set_option linter.unusedSimpArgs false
theorem moduleApart_g {H : List Ent} {fv : Value} {F : Fm} (hF : RF H fv F) (hk : F.ok) :
    Gives Try.prog 5 [fv] H (R1 (.bool true) H) := by
  have hF0 := hF
  obtain ⟨na, off, ncap, nsp, rfl, hN⟩ := hF
  refine Gives.enter Try.func5 rfl (by exact Try.ntmps5) rfl ?_
  refine Tri.seq (Tri.region ?_)
  refine TOps.boxN rfl ti24 rfl rfl (fun b1 => ?_)
  refine TOps.hide (fun H1 l1 s1 r1 => ?_)
  replace hF0 := hF0.le l1; replace hN := hN.le l1
  refine TOps.assign rfl rfl ?_
  refine TOps.next ?_
  refine Tri.seq ?_
  refine Tri.seq (Tri.region ?_)
  refine TOps.call (vs := []) Try.call9 trivial (awake29_g) rfl ?_
  rintro _ _ ⟨rfl, rfl⟩
  refine TOps.not rfl rfl ?_
  refine TOps.move rfl rfl ?_
  refine' TOps.orB 2 rfl rfl rfl rfl (fun hg1_2 => ?_) ?_; rotate_left
  · have hg1_2' := hg1_2
    try simp only [decide_eq_true_eq, decide_eq_false_iff_not, Bool.and_eq_true, Bool.or_eq_true, Bool.not_eq_true', Bool.and_eq_false_iff, Bool.or_eq_false_iff, Bool.not_eq_false', Int.not_lt, Int.not_le, ne_eq, Decidable.not_not] at hg1_2'
    refine TOps.strip 2 false rfl rfl hg1_2 rfl ?_
    refine TOps.loadN rfl ti24 (by first | exact Rd.all (by repeat (first | exact List.Mem.head _ | apply List.Mem.tail)) | (repeat (first | assumption | apply Rd.up))) rfl rfl ?_
    refine TOps.call (vs := [_]) Try.call10 ⟨rfl, trivial⟩ (heavy_g hF0 hk) rfl ?_
    rintro _ _ ⟨rfl, rfl⟩
    refine TOps.blk rfl (by repeat (first | exact Ext.refl _ | refine Ext.cons rfl ?_)) (by repeat (first | exact Le.refl _ | apply Le.drop))
  refine TOps.move rfl rfl ?_
  refine' TOps.orB 3 rfl rfl rfl rfl (fun hg1_6 => ?_) ?_; rotate_left
  · have hg1_6' := hg1_6
    try simp only [decide_eq_true_eq, decide_eq_false_iff_not, Bool.and_eq_true, Bool.or_eq_true, Bool.not_eq_true', Bool.and_eq_false_iff, Bool.or_eq_false_iff, Bool.not_eq_false', Int.not_lt, Int.not_le, ne_eq, Decidable.not_not] at hg1_6'
    refine TOps.strip 6 false rfl rfl hg1_6 rfl ?_
    refine TOps.loadN rfl ti24 (by first | exact Rd.all (by repeat (first | exact List.Mem.head _ | apply List.Mem.tail)) | (repeat (first | assumption | apply Rd.up))) rfl rfl ?_
    refine TOps.call (vs := [_]) Try.call11 ⟨rfl, trivial⟩ (check_g hF0 hk) rfl ?_
    rintro _ _ ⟨rfl, rfl⟩
    refine TOps.neqNil rfl Try.underlying28 rfl ?_
    refine TOps.blk rfl (by repeat (first | exact Ext.refl _ | refine Ext.cons rfl ?_)) (by repeat (first | exact Le.refl _ | apply Le.drop))
  refine TOps.next ?_
  refine Tri.cond rfl (fun hc1 => ?_) (fun hc1 => ?_)
  · try simp only [decide_eq_true_eq, decide_eq_false_iff_not, Bool.and_eq_true, Bool.or_eq_true, Bool.not_eq_true', Bool.and_eq_false_iff, Bool.or_eq_false_iff, Bool.not_eq_false', Int.not_lt, Int.not_le, ne_eq, Decidable.not_not, Option.isSome_iff_ne_none, Option.isNone_iff_eq_none] at hc1
    refine Tri.seq (Tri.region ?_)
    refine TOps.call (vs := []) Try.call9 trivial (awake29_g) rfl ?_
    rintro _ _ ⟨rfl, rfl⟩
    refine TOps.assign rfl rfl ?_
    refine TOps.next ?_
    refine Tri.ret1 (H' := H) Try.results5 (fun _ _ h => h) (.tmp rfl) l1 ⟨rfl, rfl⟩
  try simp only [decide_eq_true_eq, decide_eq_false_iff_not, Bool.and_eq_true, Bool.or_eq_true, Bool.not_eq_true', Bool.and_eq_false_iff, Bool.or_eq_false_iff, Bool.not_eq_false', Int.not_lt, Int.not_le, ne_eq, Decidable.not_not, Option.isSome_iff_ne_none, Option.isNone_iff_eq_none] at hc1
  have he : F.err = none := by simpa using hc1.2
  have hg := (Fm.good_iff F).1 he
  have g0 := hg.v0; have g1 := hg.v1; have g2 := hg.n1; have gt := hg.topLt
  have hfl := F.find_len
  refine Tri.fin ?_
  refine Nrm.next ?_
  refine Tri.seq (Tri.region ?_)
  refine TOps.loadN rfl ti24 (by first | exact Rd.all (by repeat (first | exact List.Mem.head _ | apply List.Mem.tail)) | (repeat (first | assumption | apply Rd.up))) rfl rfl ?_
  refine TOps.call (vs := [_]) Try.call12 ⟨rfl, trivial⟩ (find_g hF0 hk) rfl ?_
  rintro _ _ ⟨xs, la, lcap, hxs, rfl, hla, rfl⟩
  obtain rfl : xs = F.find := by rw [hxs, he]; rfl
  rw [he]
  replace hF0 := hF0.le (Le.drop (e := row la 3 1 lcap (nats F.find)) (Le.refl _)); replace hN := hN.le (Le.drop (e := row la 3 1 lcap (nats F.find)) (Le.refl _)); replace r1 := r1.up (e := row la 3 1 lcap (nats F.find))
  have hlr : RdS (row la 3 1 lcap (nats F.find) :: H1) la 0 (nats F.find) := RdS.ofRowA (List.Mem.head _) hla
  refine TOps.rowCapA (List.Mem.head _) (fun hcap => ?_)
  rw [List.length_map] at hcap
  generalize hH2 : row la 3 1 lcap (nats F.find) :: H1 = H2 at *
  have l2 : Le H2 H := by rw [← hH2]; exact Le.drop l1
  refine TOps.move rfl rfl ?_
  refine TOps.extract rfl rfl rfl ?_
  refine TOps.extract rfl rfl rfl ?_
  refine TOps.assign rfl rfl ?_
  refine TOps.assign rfl rfl ?_
  refine TOps.next ?_
  refine Tri.seq ?_
  refine Tri.seq (Tri.region ?_)
  refine TOps.move rfl rfl ?_
  refine TOps.neqNil (T := 43) (o := none) rfl Try.underlying28 rfl ?_
  refine TOps.next ?_
  refine Tri.cond rfl (fun hc2 => ?_) (fun hc2 => ?_)
  · try simp only [decide_eq_true_eq, decide_eq_false_iff_not, Bool.and_eq_true, Bool.or_eq_true, Bool.not_eq_true', Bool.and_eq_false_iff, Bool.or_eq_false_iff, Bool.not_eq_false', Int.not_lt, Int.not_le, ne_eq, Decidable.not_not, Option.isSome_iff_ne_none, Option.isNone_iff_eq_none] at hc2
    have hfalse : False := by simp at hc2
    refine Tri.seq (Tri.region ?_)
    refine TOps.assign rfl rfl ?_
    refine TOps.next ?_
    exact hfalse.elim
  try simp only [decide_eq_true_eq, decide_eq_false_iff_not, Bool.and_eq_true, Bool.or_eq_true, Bool.not_eq_true', Bool.and_eq_false_iff, Bool.or_eq_false_iff, Bool.not_eq_false', Int.not_lt, Int.not_le, ne_eq, Decidable.not_not, Option.isSome_iff_ne_none, Option.isNone_iff_eq_none] at hc2
  refine Tri.fin ?_
  refine Nrm.next ?_
  refine Tri.seq ?_
  refine Tri.seq (Tri.region ?_)
  obtain ⟨qs, hqs, hys⟩ := hN.cells
  have hcl := nsCells_length F.nodes qs hqs.1
  have hco := nsCells_one' F.nodes qs
  refine TOps.move rfl rfl ?_
  refine TOps.len rfl Try.underlying30 rfl ?_
  refine TOps.move rfl rfl ?_
  refine TOps.next ?_
  refine Tri.range (X := Unit) (fun x k => [(1, .pointer (some ⟨b1, 0, none⟩)), (3, slV la 0 F.find.length lcap), (31, slV la 0 F.find.length lcap)]) (fun x k => H2) (fun x k => True) (by omega) rfl rfl rfl (fun _ _ => ⟨rfl, rfl, rfl, rfl⟩) () trivial ⟨rfl, rfl, rfl, trivial⟩ (by repeat (first | exact Le.refl _ | assumption | apply Le.drop)) (fun k x hlt hp => ?_) (fun x ac wc hp hS hM => ?_)
  · skip
    obtain ⟨lb, rfl, -, hl⟩ := nats_at hlr hlt
    rw [Nat.zero_add] at hl
    have hlk := Fm.find_lt hlt
    have hmem := List.getElem_mem hlt
    obtain ⟨i, hi, bi, mi, hie⟩ := Fm.mem_find.1 hmem
    rw [hie] at hmem hl hlk
    have hlaw := law_apart hg hi hmem
    have hek := F.evs_lt (F.vars.toNat + i)
    have h24 := pow24 (k := F.vars.toNat) (by omega)
    have hgc := Fm.cutAt_good hg i
    have hec := (Fm.good_iff _).2 hgc
    have hsl := (F.cutAt i).support_lt
    rw [show (F.cutAt i).vars = F.vars from rfl] at hsl
    refine Tri.seq (Tri.region ?_)
    refine TOps.indexAddr (off' := k) rfl rfl Try.underlying30 ti3 (by omega) (by omega) (by simp) rfl ?_
    refine TOps.load1 rfl ti3 (by first | exact Rd.lit (by repeat (first | exact List.Mem.head _ | apply List.Mem.tail)) rfl | (repeat (first | assumption | apply Rd.up))) rfl ?_
    refine TOps.assign rfl rfl ?_
    refine TOps.next ?_
    refine Tri.seq ?_
    refine Tri.seq (Tri.region ?_)
    refine TOps.move rfl rfl ?_
    first | refine TOps.fieldB 2 rfl Try.underlying24 rfl rfl ti3 rfl rfl rfl ?_ | refine TOps.fieldN 2 rfl Try.underlying24 rfl rfl ti3 rfl rfl rfl ?_
    refine TOps.load1 rfl ti3 (by first | exact Rd.lit (by repeat (first | exact List.Mem.head _ | apply List.Mem.tail)) rfl | (repeat (first | assumption | exact Rd.fld (by assumption) 2 rfl | apply Rd.up))) rfl ?_
    refine TOps.eqlI rfl rfl rfl ?_
    refine TOps.next ?_
    refine Tri.cond rfl (fun hc3 => ?_) (fun hc3 => ?_)
    · try simp only [decide_eq_true_eq, decide_eq_false_iff_not, Bool.and_eq_true, Bool.or_eq_true, Bool.not_eq_true', Bool.and_eq_false_iff, Bool.or_eq_false_iff, Bool.not_eq_false', Int.not_lt, Int.not_le, ne_eq, Decidable.not_not, Option.isSome_iff_ne_none, Option.isNone_iff_eq_none] at hc3
      refine Tri.exitTo ?_
      repeat (with_reducible first | refine ExitTo.blk ?_ | refine ExitTo.blkNe rfl ?_ | refine ExitTo.body ?_ | refine ExitTo.brk rfl ?_ | refine ExitTo.bodyNe rfl rfl ?_ | refine ExitTo.seq ?_ | refine ExitTo.loop ?_)
      refine Nrm.body () trivial ⟨rfl, rfl, rfl, rfl, rfl, trivial⟩ (by repeat (first | exact Le.refl _ | assumption | apply Le.drop))
    try simp only [decide_eq_true_eq, decide_eq_false_iff_not, Bool.and_eq_true, Bool.or_eq_true, Bool.not_eq_true', Bool.and_eq_false_iff, Bool.or_eq_false_iff, Bool.not_eq_false', Int.not_lt, Int.not_le, ne_eq, Decidable.not_not, Option.isSome_iff_ne_none, Option.isNone_iff_eq_none] at hc3
    refine Tri.fin ?_
    refine Nrm.next ?_
    refine Tri.seq (Tri.region ?_)
    refine TOps.loadN rfl ti24 (by first | exact Rd.all (by repeat (first | exact List.Mem.head _ | apply List.Mem.tail)) | (repeat (first | assumption | apply Rd.up))) rfl rfl ?_
    refine TOps.move rfl rfl ?_
    refine TOps.call (vs := [_, _]) Try.call13 ⟨rfl, rfl, trivial⟩ (mBelowOk_g hF0 hg (F.vars.toNat + i) hlk) rfl ?_
    rintro _ _ ⟨rfl, rfl⟩
    refine TOps.move rfl rfl ?_
    refine TOps.extract rfl rfl rfl ?_
    refine TOps.extract rfl rfl rfl ?_
    refine TOps.assign rfl rfl ?_
    refine TOps.assign rfl rfl ?_
    refine TOps.next ?_
    refine Tri.seq ?_
    refine Tri.seq (Tri.region ?_)
    refine TOps.move rfl rfl ?_
    refine TOps.neqNil (T := 43) (o := none) rfl Try.underlying28 rfl ?_
    refine TOps.move rfl rfl ?_
    refine' TOps.orB 4 rfl rfl rfl rfl (fun hg11_2 => ?_) ?_; rotate_left
    · have hg11_2' := hg11_2
      try simp only [decide_eq_true_eq, decide_eq_false_iff_not, Bool.and_eq_true, Bool.or_eq_true, Bool.not_eq_true', Bool.and_eq_false_iff, Bool.or_eq_false_iff, Bool.not_eq_false', Int.not_lt, Int.not_le, ne_eq, Decidable.not_not] at hg11_2'
      refine TOps.strip 2 false rfl rfl hg11_2 rfl ?_
      refine TOps.move rfl rfl ?_
      refine TOps.field0 rfl Try.underlying24 rfl rfl ti3 rfl rfl rfl ?_
      refine TOps.load1 rfl ti3 (by first | exact Rd.lit (by repeat (first | exact List.Mem.head _ | apply List.Mem.tail)) rfl | (repeat (first | assumption | exact Rd.fld (by assumption) 0 rfl | apply Rd.up))) rfl ?_
      refine TOps.lss rfl rfl rfl ?_
      refine TOps.blk rfl (by repeat (first | exact Ext.refl _ | refine Ext.cons rfl ?_)) (by repeat (first | exact Le.refl _ | apply Le.drop))
    refine TOps.move rfl rfl ?_
    refine' TOps.orB 8 rfl rfl rfl rfl (fun hg11_8 => ?_) ?_; rotate_left
    · have hg11_8' := hg11_8
      try simp only [decide_eq_true_eq, decide_eq_false_iff_not, Bool.and_eq_true, Bool.or_eq_true, Bool.not_eq_true', Bool.and_eq_false_iff, Bool.or_eq_false_iff, Bool.not_eq_false', Int.not_lt, Int.not_le, ne_eq, Decidable.not_not] at hg11_8'
      refine TOps.strip 8 false rfl rfl hg11_8 rfl ?_
      refine TOps.move rfl rfl ?_
      refine TOps.field0 rfl Try.underlying24 rfl rfl ti3 rfl rfl rfl ?_
      refine TOps.load1 rfl ti3 (by first | exact Rd.lit (by repeat (first | exact List.Mem.head _ | apply List.Mem.tail)) rfl | (repeat (first | assumption | exact Rd.fld (by assumption) 0 rfl | apply Rd.up))) rfl ?_
      first | refine TOps.fieldB 1 rfl Try.underlying24 rfl rfl ti22 rfl rfl rfl ?_ | refine TOps.fieldN 1 rfl Try.underlying24 rfl rfl ti22 rfl rfl rfl ?_
      refine TOps.load1 rfl ti22 (by first | exact Rd.lit (by repeat (first | exact List.Mem.head _ | apply List.Mem.tail)) rfl | (repeat (first | assumption | exact Rd.fld (by assumption) 1 rfl | apply Rd.up))) rfl ?_
      refine TOps.len rfl Try.underlying22 rfl ?_
      refine TOps.add (r := F.vars + F.nodes.length) rfl rfl (by rw [wrapI (by omega) (by omega)]) rfl ?_
      refine TOps.geq rfl rfl rfl ?_
      refine TOps.blk rfl (by repeat (first | exact Ext.refl _ | refine Ext.cons rfl ?_)) (by repeat (first | exact Le.refl _ | apply Le.drop))
    refine TOps.next ?_
    refine Tri.cond rfl (fun hc4 => ?_) (fun hc4 => ?_)
    · try simp only [decide_eq_true_eq, decide_eq_false_iff_not, Bool.and_eq_true, Bool.or_eq_true, Bool.not_eq_true', Bool.and_eq_false_iff, Bool.or_eq_false_iff, Bool.not_eq_false', Int.not_lt, Int.not_le, ne_eq, Decidable.not_not, Option.isSome_iff_ne_none, Option.isNone_iff_eq_none] at hc4
      have hfalse : False := by
        rcases hc4 with (h | h) | h
        · simp at h
        · omega
        · omega
      refine Tri.seq (Tri.region ?_)
      refine TOps.assign rfl rfl ?_
      refine TOps.next ?_
      exact hfalse.elim
    try simp only [decide_eq_true_eq, decide_eq_false_iff_not, Bool.and_eq_true, Bool.or_eq_true, Bool.not_eq_true', Bool.and_eq_false_iff, Bool.or_eq_false_iff, Bool.not_eq_false', Int.not_lt, Int.not_le, ne_eq, Decidable.not_not, Option.isSome_iff_ne_none, Option.isNone_iff_eq_none] at hc4
    refine Tri.fin ?_
    refine Nrm.next ?_
    refine Tri.seq (Tri.region ?_)
    refine TOps.loadN rfl ti24 (by first | exact Rd.all (by repeat (first | exact List.Mem.head _ | apply List.Mem.tail)) | (repeat (first | assumption | apply Rd.up))) rfl rfl ?_
    refine TOps.alloc ti24 rfl (fun b9 => ?_)
    refine TOps.storeN rfl rfl ti24 rfl rfl (by repeat (first | exact Upd.here | apply Upd.there)) (by first | decide | (simp; done) | (simp; omega)) ?_
    refine TOps.next ?_
    refine Tri.seq (Tri.region ?_)
    refine TOps.buildSlice0 Try.underlying22 ti34 rfl (fun b66 => ?_)
    first | refine TOps.fieldB 1 rfl Try.underlying24 rfl rfl ti22 rfl rfl rfl ?_ | refine TOps.fieldN 1 rfl Try.underlying24 rfl rfl ti22 rfl rfl rfl ?_
    refine TOps.load1 rfl ti22 (by first | exact Rd.lit (by repeat (first | exact List.Mem.head _ | apply List.Mem.tail)) rfl | (repeat (first | assumption | exact Rd.fld (by assumption) 1 rfl | apply Rd.up))) rfl ?_
    refine TOps.append (ys := nsCells F.nodes qs) rfl rfl Try.underlying22 ti34 rfl (fun _ _ => Upd.here) (RdS.le hys (Le.drop (Le.drop (Le.refl _)))) hcl rfl hco (by omega) (by omega) rfl (fun a' cap' ha' => ?_)
    obtain ⟨nb', rfl⟩ := ha' (by intro h0; rw [h0] at hcl; simp at hcl; omega)
    first | refine TOps.fieldB 1 rfl Try.underlying24 rfl rfl ti22 rfl rfl rfl ?_ | refine TOps.fieldN 1 rfl Try.underlying24 rfl rfl ti22 rfl rfl rfl ?_
    refine TOps.store1 rfl rfl ti22 rfl rfl (by repeat (first | exact Upd.here | apply Upd.there)) (by first | decide | (simp; done) | (simp; omega) | exact (show (1 : Nat) < 3 by decide)) ?_
    refine TOps.next ?_
    refine Tri.seq (Tri.region ?_)
    first | refine TOps.fieldB 1 rfl Try.underlying24 rfl rfl ti22 rfl rfl rfl ?_ | refine TOps.fieldN 1 rfl Try.underlying24 rfl rfl ti22 rfl rfl rfl ?_
    refine TOps.load1 rfl ti22 (by first | exact Rd.lit (by repeat (first | exact List.Mem.head _ | apply List.Mem.tail)) rfl | (repeat (first | assumption | exact Rd.fld (by assumption) 1 rfl | apply Rd.up))) rfl ?_
    refine TOps.move rfl rfl ?_
    refine TOps.field0 rfl Try.underlying24 rfl rfl ti3 rfl rfl rfl ?_
    refine TOps.load1 rfl ti3 (by first | exact Rd.lit (by repeat (first | exact List.Mem.head _ | apply List.Mem.tail)) rfl | (repeat (first | assumption | exact Rd.fld (by assumption) 0 rfl | apply Rd.up))) rfl ?_
    refine TOps.sub (r := (i : Int)) rfl rfl (by rw [wrapI (by omega) (by omega)]; omega) rfl ?_
    refine TOps.buildStruct (vs := [(0, _)]) (xs := [_, _, _]) [(0, 1), (1, 1), (2, 1)] Try.underlying34 ti34 (fun w => by simp) ⟨rfl, rfl, trivial⟩ rfl rfl ?_
    refine TOps.indexAddr (off' := i * 3) rfl rfl Try.underlying22 ti34 (by omega) (by omega) (by simp) rfl ?_
    refine TOps.storeN rfl rfl ti34 rfl rfl (by repeat (first | exact Upd.here | apply Upd.there)) (by simp; omega) ?_
    refine TOps.next ?_
    refine Tri.seq (Tri.region ?_)
    have hA : ArgsIn H2 (F.cutAt i).nodes (qs.set i (none, 0, 0, none)) := ArgsIn.set hqs RInts.nil
    have hRF : ∀ (c : Nat) (e : Ent), RF (row (some nb') 34 3 c (setL ([] ++ nsCells F.nodes qs) (i * 3) [.int .i64 0, .int .i64 0, slV none 0 0 0]) :: e :: H2) (.agg (List.toArray [.int .i64 F.vars, slV (some nb') 0 (0 + F.nodes.length) cap', .int .i64 F.top])) (F.cutAt i) := fun c e => ⟨some nb', 0, cap', none, by simp [Fm.cutAt], RNodes.ofA (E := 34) (sz := 3) (cap := c) (qs := qs.set i (none, 0, 0, none)) (by unfold Fm.cutAt; rw [nsCells_set _ _ _ _ _ hqs.1 hi]; exact List.Mem.head _) (hA.le (Le.drop (Le.drop (Le.refl _)))) (fun _ => ⟨_, rfl⟩)⟩
    refine TOps.loadN rfl ti24 (by first | exact Rd.all (by repeat (first | exact List.Mem.head _ | apply List.Mem.tail)) | (repeat (first | assumption | apply Rd.up))) rfl rfl ?_
    refine TOps.call (vs := [_]) Try.call21 ⟨rfl, trivial⟩ (support_g (hRF _ _) hgc.ok) rfl ?_
    rintro _ _ ⟨rfl, rfl⟩
    rw [show (bif (F.cutAt i).err.isNone then ((F.cutAt i).support : Int) else 0) = (F.cutAt i).support from by rw [hec]; rfl, hec]
    refine TOps.move rfl rfl ?_
    refine TOps.extract rfl rfl rfl ?_
    refine TOps.extract rfl rfl rfl ?_
    refine TOps.assign rfl rfl ?_
    refine TOps.assign rfl rfl ?_
    refine TOps.next ?_
    refine Tri.seq (Tri.region ?_)
    refine TOps.move rfl rfl ?_
    refine TOps.neqNil (T := 43) (o := none) rfl Try.underlying28 rfl ?_
    refine TOps.move rfl rfl ?_
    refine' TOps.orB 4 rfl rfl rfl rfl (fun hg17_2 => ?_) ?_; rotate_left
    · have hg17_2' := hg17_2
      try simp only [decide_eq_true_eq, decide_eq_false_iff_not, Bool.and_eq_true, Bool.or_eq_true, Bool.not_eq_true', Bool.and_eq_false_iff, Bool.or_eq_false_iff, Bool.not_eq_false', Int.not_lt, Int.not_le, ne_eq, Decidable.not_not] at hg17_2'
      refine TOps.strip 2 false rfl rfl hg17_2 rfl ?_
      refine TOps.move rfl rfl ?_
      refine TOps.move rfl rfl ?_
      refine TOps.and (r := 0) rfl rfl (by rw [iand_nat (by omega) (by omega), hlaw]; rfl) rfl ?_
      refine TOps.neqI rfl rfl rfl ?_
      refine TOps.blk rfl (by repeat (first | exact Ext.refl _ | refine Ext.cons rfl ?_)) (by repeat (first | exact Le.refl _ | apply Le.drop))
    refine TOps.next ?_
    refine Tri.cond rfl (fun hc5 => ?_) (fun hc5 => ?_)
    · try simp only [decide_eq_true_eq, decide_eq_false_iff_not, Bool.and_eq_true, Bool.or_eq_true, Bool.not_eq_true', Bool.and_eq_false_iff, Bool.or_eq_false_iff, Bool.not_eq_false', Int.not_lt, Int.not_le, ne_eq, Decidable.not_not, Option.isSome_iff_ne_none, Option.isNone_iff_eq_none] at hc5
      have hfalse : False := by simp at hc5
      refine Tri.seq (Tri.region ?_)
      refine TOps.assign rfl rfl ?_
      refine TOps.next ?_
      exact hfalse.elim
    try simp only [decide_eq_true_eq, decide_eq_false_iff_not, Bool.and_eq_true, Bool.or_eq_true, Bool.not_eq_true', Bool.and_eq_false_iff, Bool.or_eq_false_iff, Bool.not_eq_false', Int.not_lt, Int.not_le, ne_eq, Decidable.not_not, Option.isSome_iff_ne_none, Option.isNone_iff_eq_none] at hc5
    refine Tri.fin ?_
    refine Nrm.body () trivial ⟨rfl, rfl, rfl, rfl, rfl, trivial⟩ (by repeat (first | exact Le.refl _ | assumption | apply Le.drop))
  refine Nrm.of hS hM ?_
  refine Nrm.next ?_
  refine Tri.seq (Tri.region ?_)
  refine TOps.assign rfl rfl ?_
  refine TOps.next ?_
  refine Tri.ret1 (H' := H) Try.results5 (fun _ _ h => h) (.tmp rfl) l2 ⟨rfl, rfl⟩
end Go.Proofs
