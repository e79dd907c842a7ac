import Derived.Test.YtpeobpgfbjghjaaC55
namespace Go.Proofs
open Go.GL
set_option linter.unusedVariables false
set_option linter.unusedSimpArgs false
theorem monitorAlone_g {H : List Ent} {fv : Value} {F : Fm} (hF : RF H fv F) (hk : F.ok) {l : List (Int × Int)} {aa sp : Option Nat} {ao acap : Nat} (hr : RdS H aa ao (actCells l) sp) (hl : l.length ≤ 9223372036854775807) (hb : ∀ a ∈ l, 0 ≤ a.1 ∧ a.1 ≤ 255) :
    Gives Try.prog 3 [fv, slV aa ao l.length acap sp] H (R1 (.bool true) H) := by
  have hF0 := hF
  obtain ⟨na, off, cap, nsp, rfl, hN⟩ := hF
  refine Gives.enter Try.func3 rfl (by exact Try.ntmps3) rfl ?_
  refine Tri.seq (Tri.region ?_)
  refine TOps.boxN rfl ti24 rfl rfl (fun b2 => ?_)
  refine TOps.hide (fun H1 l1 s1 r1 => ?_)
  replace hF0 := hF0.le l1; replace hr := RdS.le hr l1
  refine TOps.assign rfl rfl ?_
  refine TOps.next ?_
  refine Tri.seq ?_
  refine Tri.seq (Tri.region ?_)
  refine TOps.call (vs := []) Try.call8 trivial (awake55_g) rfl ?_
  rintro _ _ ⟨rfl, rfl⟩
  refine TOps.not rfl rfl ?_
  refine TOps.move rfl rfl ?_
  refine' TOps.orB 3 rfl rfl rfl rfl (fun hg1_2 => ?_) ?_; rotate_left
  · have hg1_2' := hg1_2
    try simp only [decide_eq_true_eq, decide_eq_false_iff_not, Bool.and_eq_true, Bool.or_eq_true, Bool.not_eq_true', Bool.and_eq_false_iff, Bool.or_eq_false_iff, Bool.not_eq_false', Int.not_lt, Int.not_le, ne_eq, Decidable.not_not] at hg1_2'
    refine TOps.strip 2 false rfl rfl hg1_2 rfl ?_
    refine TOps.loadN rfl ti24 (by first | exact Rd.all (by repeat (first | exact List.Mem.head _ | apply List.Mem.tail)) | (repeat (first | assumption | apply Rd.up))) rfl rfl ?_
    refine TOps.call (vs := [_]) Try.call9 ⟨rfl, trivial⟩ (light_g hF0 hk) rfl ?_
    rintro _ _ ⟨rfl, rfl⟩
    refine TOps.not rfl rfl ?_
    refine TOps.blk rfl (by repeat (first | exact Ext.refl _ | refine Ext.cons rfl ?_)) (by repeat (first | exact Le.refl _ | apply Le.drop))
  refine TOps.move rfl rfl ?_
  refine' TOps.orB 3 rfl rfl rfl rfl (fun hg1_7 => ?_) ?_; rotate_left
  · have hg1_7' := hg1_7
    try simp only [decide_eq_true_eq, decide_eq_false_iff_not, Bool.and_eq_true, Bool.or_eq_true, Bool.not_eq_true', Bool.and_eq_false_iff, Bool.or_eq_false_iff, Bool.not_eq_false', Int.not_lt, Int.not_le, ne_eq, Decidable.not_not] at hg1_7'
    refine TOps.strip 7 false rfl rfl hg1_7 rfl ?_
    refine TOps.move rfl rfl ?_
    refine TOps.len rfl Try.underlying25 rfl ?_
    refine TOps.gtr rfl rfl rfl ?_
    refine TOps.blk rfl (by repeat (first | exact Ext.refl _ | refine Ext.cons rfl ?_)) (by repeat (first | exact Le.refl _ | apply Le.drop))
  refine TOps.move rfl rfl ?_
  refine' TOps.orB 3 rfl rfl rfl rfl (fun hg1_12 => ?_) ?_; rotate_left
  · have hg1_12' := hg1_12
    try simp only [decide_eq_true_eq, decide_eq_false_iff_not, Bool.and_eq_true, Bool.or_eq_true, Bool.not_eq_true', Bool.and_eq_false_iff, Bool.or_eq_false_iff, Bool.not_eq_false', Int.not_lt, Int.not_le, ne_eq, Decidable.not_not] at hg1_12'
    refine TOps.strip 12 false rfl rfl hg1_12 rfl ?_
    refine TOps.loadN rfl ti24 (by first | exact Rd.all (by repeat (first | exact List.Mem.head _ | apply List.Mem.tail)) | (repeat (first | assumption | apply Rd.up))) rfl rfl ?_
    refine TOps.call (vs := [_]) Try.call10 ⟨rfl, trivial⟩ (check_g hF0 hk) rfl ?_
    rintro _ _ ⟨rfl, rfl⟩
    refine TOps.neqNil rfl Try.underlying29 rfl ?_
    refine TOps.blk rfl (by repeat (first | exact Ext.refl _ | refine Ext.cons rfl ?_)) (by repeat (first | exact Le.refl _ | apply Le.drop))
  refine TOps.next ?_
  refine Tri.cond rfl (fun hc1 => ?_) (fun hc1 => ?_)
  · try simp only [decide_eq_true_eq, decide_eq_false_iff_not, Bool.and_eq_true, Bool.or_eq_true, Bool.not_eq_true', Bool.and_eq_false_iff, Bool.or_eq_false_iff, Bool.not_eq_false', Int.not_lt, Int.not_le, ne_eq, Decidable.not_not, Option.isSome_iff_ne_none, Option.isNone_iff_eq_none] at hc1
    refine Tri.seq (Tri.region ?_)
    refine TOps.call (vs := []) Try.call8 trivial (awake55_g) rfl ?_
    rintro _ _ ⟨rfl, rfl⟩
    refine TOps.assign rfl rfl ?_
    refine TOps.next ?_
    refine Tri.ret1 (H' := H) Try.results3 (fun _ _ h => h) (.tmp rfl) l1 ⟨rfl, rfl⟩
  try simp only [decide_eq_true_eq, decide_eq_false_iff_not, Bool.and_eq_true, Bool.or_eq_true, Bool.not_eq_true', Bool.and_eq_false_iff, Bool.or_eq_false_iff, Bool.not_eq_false', Int.not_lt, Int.not_le, ne_eq, Decidable.not_not, Option.isSome_iff_ne_none, Option.isNone_iff_eq_none] at hc1
  have he : F.err = none := by simpa using hc1.2
  have hg := (Fm.good_iff F).1 he
  have g0 := hg.v0; have g1 := hg.v1
  obtain ⟨v, hv⟩ := Int.eq_ofNat_of_zero_le g0
  have hvn : F.vars.toNat = v := by omega
  have h24 := pow24 (show v ≤ 24 by omega)
  refine Tri.fin ?_
  refine Nrm.next ?_
  refine Tri.seq (Tri.region ?_)
  refine TOps.loadN rfl ti24 (by first | exact Rd.all (by repeat (first | exact List.Mem.head _ | apply List.Mem.tail)) | (repeat (first | assumption | apply Rd.up))) rfl rfl ?_
  refine TOps.move rfl rfl ?_
  refine TOps.call (vs := [_, _]) Try.call11 ⟨rfl, rfl, trivial⟩ (played_g hF0 hg hr hl hb) rfl ?_
  rintro _ _ ⟨m, nv, la, lcap, H2, rfl, l2, s2, hF2, hla, rfl⟩
  have hok := (Reach.acts F l).ok
  generalize F.acts l = Z at *
  have hr3 : Rd (row (some m) 70 5 1 [.int .i64 F.vars, nv, .int .i64 F.top, .int .i64 Z.f, slV la 0 Z.log.length lcap] :: row la 42 3 lcap (logCells Z.log) :: H2) m 0 [.int .i64 F.vars, nv, .int .i64 F.top, .int .i64 Z.f, slV la 0 Z.log.length lcap] := Rd.all (List.Mem.head _)
  have l3 : Le (row (some m) 70 5 1 [.int .i64 F.vars, nv, .int .i64 F.top, .int .i64 Z.f, slV la 0 Z.log.length lcap] :: row la 42 3 lcap (logCells Z.log) :: H2) H2 := Le.drop (Le.drop (Le.refl _))
  generalize row (some m) 70 5 1 [.int .i64 F.vars, nv, .int .i64 F.top, .int .i64 Z.f, slV la 0 Z.log.length lcap] :: row la 42 3 lcap (logCells Z.log) :: H2 = H3 at *
  replace hF2 := hF2.le l3; replace l3 := l3.trans l2; replace hF0 := hF0.le l3; replace r1 := r1.le l3; replace l3 := l3.trans l1
  have hff := hok.lt
  have hcl := F.crit_lt Z.f
  have hhl := F.heal_lt Z.f
  have hco := Fm.crit_off hff
  have hho := F.heal_on Z.f
  have hab : ∀ i, i < v → (F.crit Z.f ||| F.heal Z.f).testBit i = (F.value ((Z.f ^^^ 2 ^ i : Nat) : Int) != F.value (Z.f : Nat)) := fun i hi => Fm.alone_bit hff (by omega)
  have hfz := hff
  rw [hvn] at hfz hcl hhl
  have hol : F.crit Z.f ||| F.heal Z.f < 2 ^ v := Nat.or_lt_two_pow hcl hhl
  rw [hv] at r1 hF0
  refine TOps.assign rfl rfl ?_
  refine TOps.next ?_
  refine Tri.seq ?_
  refine Tri.seq (Tri.region ?_)
  refine TOps.move rfl rfl ?_
  refine TOps.eqlPtrNil rfl Try.underlying31 rfl ?_
  refine TOps.next ?_
  refine Tri.cond rfl (fun hc2 => ?_) (fun hc2 => ?_)
  · exact absurd hc2 (by first | decide | simp)
  try simp only [decide_eq_true_eq, decide_eq_false_iff_not, Bool.and_eq_true, Bool.or_eq_true, Bool.not_eq_true', Bool.and_eq_false_iff, Bool.or_eq_false_iff, Bool.not_eq_false', Int.not_lt, Int.not_le, ne_eq, Decidable.not_not, Option.isSome_iff_ne_none, Option.isNone_iff_eq_none] at hc2
  refine Tri.fin ?_
  refine Nrm.next ?_
  refine Tri.seq (Tri.region ?_)
  refine TOps.move rfl rfl ?_
  refine TOps.call (vs := [_]) Try.call12 ⟨rfl, trivial⟩ (mfailed_g hr3 hF2 hg hff) rfl ?_
  rintro _ _ ⟨rfl, rfl⟩
  refine TOps.move rfl rfl ?_
  refine TOps.call (vs := [_]) Try.call13 ⟨rfl, trivial⟩ (mcritical_g hr3 hF2 hg hff) rfl ?_
  rintro _ _ ⟨rfl, rfl⟩
  refine TOps.move rfl rfl ?_
  refine TOps.call (vs := [_]) Try.call14 ⟨rfl, trivial⟩ (mhealing_g hr3 hF2 hg hff) rfl ?_
  rintro _ _ ⟨rfl, rfl⟩
  refine TOps.move rfl rfl ?_
  refine TOps.call (vs := [_]) Try.call15 ⟨rfl, trivial⟩ (mtop_g hr3 hF2 hg hff) rfl ?_
  rintro _ _ ⟨rfl, rfl⟩
  refine TOps.assign rfl rfl ?_
  refine TOps.assign rfl rfl ?_
  refine TOps.assign rfl rfl ?_
  refine TOps.assign rfl rfl ?_
  generalize F.crit Z.f = C at *
  generalize F.heal Z.f = L at *
  refine TOps.next ?_
  refine Tri.seq ?_
  refine Tri.seq (Tri.region ?_)
  refine TOps.move rfl rfl ?_
  refine TOps.move rfl rfl ?_
  refine TOps.and (r := 0) rfl rfl (by rw [iand_nat (by omega) (by omega), hco]; rfl) rfl ?_
  refine TOps.neqIr (r := false) rfl rfl rfl rfl ?_
  refine TOps.move rfl rfl ?_
  refine' TOps.orB 4 rfl rfl rfl rfl (fun hg7_4 => ?_) ?_; rotate_left
  · have hg7_4' := hg7_4
    try simp only [decide_eq_true_eq, decide_eq_false_iff_not, Bool.and_eq_true, Bool.or_eq_true, Bool.not_eq_true', Bool.and_eq_false_iff, Bool.or_eq_false_iff, Bool.not_eq_false', Int.not_lt, Int.not_le, ne_eq, Decidable.not_not] at hg7_4'
    refine TOps.strip 4 false rfl rfl hg7_4 rfl ?_
    refine TOps.move rfl rfl ?_
    refine TOps.move rfl rfl ?_
    refine TOps.andNot (r := 0) rfl rfl (by rw [iandn_nat (by omega) (by omega), hho]; rfl) rfl ?_
    refine TOps.neqIr (r := false) rfl rfl rfl rfl ?_
    refine TOps.blk rfl (by repeat (first | exact Ext.refl _ | refine Ext.cons rfl ?_)) (by repeat (first | exact Le.refl _ | apply Le.drop))
  refine TOps.move rfl rfl ?_
  refine' TOps.orB 2 rfl rfl rfl rfl (fun hg7_10 => ?_) ?_; rotate_left
  · have hg7_10' := hg7_10
    try simp only [decide_eq_true_eq, decide_eq_false_iff_not, Bool.and_eq_true, Bool.or_eq_true, Bool.not_eq_true', Bool.and_eq_false_iff, Bool.or_eq_false_iff, Bool.not_eq_false', Int.not_lt, Int.not_le, ne_eq, Decidable.not_not] at hg7_10'
    refine TOps.strip 10 false rfl rfl hg7_10 rfl ?_
    refine TOps.move rfl rfl ?_
    refine TOps.lssr (r := false) rfl rfl (decide_eq_false (by omega)) rfl ?_
    refine TOps.blk rfl (by repeat (first | exact Ext.refl _ | refine Ext.cons rfl ?_)) (by repeat (first | exact Le.refl _ | apply Le.drop))
  refine TOps.move rfl rfl ?_
  refine' TOps.orB 5 rfl rfl rfl rfl (fun hg7_14 => ?_) ?_; rotate_left
  · have hg7_14' := hg7_14
    try simp only [decide_eq_true_eq, decide_eq_false_iff_not, Bool.and_eq_true, Bool.or_eq_true, Bool.not_eq_true', Bool.and_eq_false_iff, Bool.or_eq_false_iff, Bool.not_eq_false', Int.not_lt, Int.not_le, ne_eq, Decidable.not_not] at hg7_14'
    refine TOps.strip 14 false rfl rfl hg7_14 rfl ?_
    refine TOps.move rfl rfl ?_
    refine TOps.field0 rfl Try.underlying24 rfl rfl ti3 rfl rfl rfl ?_
    refine TOps.load1 rfl ti3 (r1.fld 0 rfl) rfl ?_
    refine TOps.shl (r := ((2 ^ v : Nat) : Int)) rfl rfl (by omega) (by rw [Int.toNat_natCast]; exact ishl_one (by omega)) rfl ?_
    refine TOps.geqr (r := false) rfl rfl (decide_eq_false (by omega)) rfl ?_
    refine TOps.blk rfl (by repeat (first | exact Ext.refl _ | refine Ext.cons rfl ?_)) (by repeat (first | exact Le.refl _ | apply Le.drop))
  refine TOps.next ?_
  refine Tri.cond rfl (fun hc3 => ?_) (fun hc3 => ?_)
  · try simp only [decide_eq_true_eq, decide_eq_false_iff_not, Bool.and_eq_true, Bool.or_eq_true, Bool.not_eq_true', Bool.and_eq_false_iff, Bool.or_eq_false_iff, Bool.not_eq_false', Int.not_lt, Int.not_le, ne_eq, Decidable.not_not, Option.isSome_iff_ne_none, Option.isNone_iff_eq_none] at hc3
    have hfalse : False := by simp at hc3
    refine Tri.seq (Tri.region ?_)
    refine TOps.assign rfl rfl ?_
    refine TOps.next ?_
    exact hfalse.elim
  try simp only [decide_eq_true_eq, decide_eq_false_iff_not, Bool.and_eq_true, Bool.or_eq_true, Bool.not_eq_true', Bool.and_eq_false_iff, Bool.or_eq_false_iff, Bool.not_eq_false', Int.not_lt, Int.not_le, ne_eq, Decidable.not_not, Option.isSome_iff_ne_none, Option.isNone_iff_eq_none] at hc3
  refine Tri.fin ?_
  refine Nrm.next ?_
  refine Tri.seq ?_
  refine Tri.seq (Tri.region ?_)
  refine TOps.field0 rfl Try.underlying24 rfl rfl ti3 rfl rfl rfl ?_
  refine TOps.load1 rfl ti3 (r1.fld 0 rfl) rfl ?_
  refine TOps.move rfl rfl ?_
  refine TOps.next ?_
  refine Tri.range (X := Unit) (fun x k => [(2, .pointer (some ⟨b2, 0, none⟩)), (6, .int .i64 Z.f), (7, .int .i64 (C : Nat)), (8, .int .i64 (L : Nat)), (9, .bool (F.value (Z.f : Nat)))]) (fun x k => H3) (fun x k => True) (by omega) rfl rfl rfl (fun _ _ => ⟨rfl, rfl, rfl, rfl⟩) () trivial ⟨rfl, rfl, rfl, rfl, rfl, trivial⟩ (by repeat (first | exact Le.refl _ | assumption | apply Le.drop)) (fun k x hlt hp => ?_) (fun x ac wc hp hS hM => ?_)
  · skip
    have hbit := bit_step (C ||| L) k (by omega)
    have hak := hab k (by omega)
    have h2k : 2 ^ k < 2 ^ v := Nat.pow_lt_pow_right (by decide) (by omega)
    have hxl : Z.f ^^^ 2 ^ k < 2 ^ v := xor_bit_lt hfz (by omega)
    have hse := Fm.setErr_of hg (x := Z.f ^^^ 2 ^ k) (by rw [hvn]; exact hxl)
    have hsp : ∀ x : Bool, decide ((if x then (1 : Int) else 0) = 1) = x := fun x => by cases x <;> rfl
    refine Tri.seq (Tri.region ?_)
    refine TOps.move rfl rfl ?_
    refine TOps.assign rfl rfl ?_
    refine TOps.next ?_
    refine Tri.seq ?_
    refine Tri.drawC rfl [(2, .pointer (some ⟨b2, 0, none⟩)), (6, .int .i64 Z.f), (7, .int .i64 (C : Nat)), (8, .int .i64 (L : Nat)), (9, .bool (F.value (Z.f : Nat))), (66, .int .i64 v), (67, .int .i64 k), (10, .int .i64 k)] [] [_, _, _, _, _, _, _, _, _, _, _] (H3) [9, 10] rfl ⟨rfl, rfl, rfl, rfl, rfl, rfl, rfl, rfl, trivial⟩ trivial (by repeat (first | exact Le.refl _ | assumption | apply Le.drop)) (by
      refine ⟨?_, ?_, ?_, ?_, ?_, ?_, ?_, ?_, ?_, ?_, ?_, trivial⟩
      · refine ⟨fun x S c he hw hd hc hcu hm _ => ?_, trivial⟩
        refine TOps.loadN (he _ _ rfl) ti24 (by first | exact Rd.all (by repeat (first | exact List.Mem.head _ | apply List.Mem.tail)) | (repeat (first | assumption | apply Rd.up))) rfl rfl ?_
        exact TOps.fin (Nrm.draw x (fun _ _ _ => rfl) rfl (by first | exact Le.refl _ | assumption | exact (by repeat (first | exact Le.refl _ | assumption | apply Le.drop))))
      · refine ⟨fun x S c he hw hd hc hcu hm _ => ?_, trivial⟩
        refine TOps.move (he _ _ rfl) rfl ?_
        exact TOps.fin (Nrm.draw x (fun _ _ _ => rfl) rfl (by first | exact Le.refl _ | assumption | exact (by repeat (first | exact Le.refl _ | assumption | apply Le.drop))))
      · refine ⟨fun x S c he hw hd hc hcu hm _ => ?_, trivial⟩
        refine TOps.move (he _ _ rfl) rfl ?_
        exact TOps.fin (Nrm.draw x (fun _ _ _ => rfl) rfl (by first | exact Le.refl _ | assumption | exact (by repeat (first | exact Le.refl _ | assumption | apply Le.drop))))
      · refine ⟨fun x S c he hw hd hc hcu hm _ => ?_, trivial⟩
        obtain ⟨h2, -⟩ := hd
        refine TOps.shl (r := ((2 ^ k : Nat) : Int)) rfl h2 (by omega) (by rw [Int.toNat_natCast]; exact ishl_one (by omega)) rfl ?_
        exact TOps.fin (Nrm.draw x (fun _ _ _ => rfl) rfl (by first | exact Le.refl _ | assumption | exact (by repeat (first | exact Le.refl _ | assumption | apply Le.drop))))
      · refine ⟨fun x S c he hw hd hc hcu hm _ => ?_, trivial⟩
        obtain ⟨h1, h3, -⟩ := hd
        refine TOps.xor (r := ((Z.f ^^^ 2 ^ k : Nat) : Int)) h1 h3 (ixor_nat (by omega) (by omega)) rfl ?_
        exact TOps.fin (Nrm.draw x (fun _ _ _ => rfl) rfl (by first | exact Le.refl _ | assumption | exact (by repeat (first | exact Le.refl _ | assumption | apply Le.drop))))
      · refine ⟨fun x S c he hw hd hc hcu hm _ => ?_, trivial⟩
        obtain ⟨h0, h4, -⟩ := hd
        refine TOps.call (vs := [_, _]) Try.call16 ⟨h0, h4, trivial⟩ (value_g hF0 hk ((Z.f ^^^ 2 ^ k : Nat) : Int)) rfl ?_
        rintro _ _ ⟨rfl, rfl⟩
        exact TOps.fin (Nrm.draw x (fun _ _ _ => rfl) rfl (by first | exact Le.refl _ | assumption | exact (by repeat (first | exact Le.refl _ | assumption | apply Le.drop))))
      · refine ⟨fun x S c he hw hd hc hcu hm _ => ?_, trivial⟩
        obtain ⟨h5, -⟩ := hd
        refine TOps.move h5 rfl ?_
        exact TOps.fin (Nrm.draw x (fun _ _ _ => rfl) rfl (by first | exact Le.refl _ | assumption | exact (by repeat (first | exact Le.refl _ | assumption | apply Le.drop))))
      · refine ⟨fun x S c he hw hd hc hcu hm _ => ?_, trivial⟩
        obtain ⟨h6, -⟩ := hd
        refine TOps.extract h6 rfl rfl ?_
        exact TOps.fin (Nrm.draw x (fun _ _ _ => rfl) rfl (by first | exact Le.refl _ | assumption | exact (by repeat (first | exact Le.refl _ | assumption | apply Le.drop))))
      · refine ⟨fun x S c he hw hd hc hcu hm _ => ?_, trivial⟩
        obtain ⟨h6, -⟩ := hd
        refine TOps.extract h6 rfl rfl ?_
        exact TOps.fin (Nrm.draw x (fun _ _ _ => rfl) rfl (by first | exact Le.refl _ | assumption | exact (by repeat (first | exact Le.refl _ | assumption | apply Le.drop))))
      · refine ⟨fun x S c he hw hd hc hcu hm _ => ?_, trivial⟩
        obtain ⟨h7, h5, h0, h1, h2, h3, h4, _, h6, _, -⟩ := hd
        refine TOps.assign h7 rfl ?_
        exact TOps.fin (Nrm.draw x (fun _ _ _ => rfl) rfl (by first | exact Le.refl _ | assumption | exact (by repeat (first | exact Le.refl _ | assumption | apply Le.drop))))
      · refine ⟨fun x S c he hw hd hc hcu hm _ => ?_, trivial⟩
        obtain ⟨h8, h9, h0, h1, h2, h3, h4, h5, h6, h7, _, _, -⟩ := hd
        refine TOps.assign h8 rfl ?_
        exact TOps.fin (Nrm.draw x (fun _ _ _ => rfl) rfl (by first | exact Le.refl _ | assumption | exact (by repeat (first | exact Le.refl _ | assumption | apply Le.drop))))
      ) ?_
    rw [hse, show ((none : Option Int).isNone && F.value ((Z.f ^^^ 2 ^ k : Nat) : Int)) = F.value ((Z.f ^^^ 2 ^ k : Nat) : Int) from rfl]
    refine Nrm.next ?_
    refine Tri.seq (Tri.region ?_)
    refine TOps.move rfl rfl ?_
    refine TOps.neqNil (T := 47) (o := none) rfl Try.underlying29 rfl ?_
    refine TOps.move rfl rfl ?_
    refine' TOps.orB 11 rfl rfl rfl rfl (fun hg13_2 => ?_) ?_; rotate_left
    · have hg13_2' := hg13_2
      try simp only [decide_eq_true_eq, decide_eq_false_iff_not, Bool.and_eq_true, Bool.or_eq_true, Bool.not_eq_true', Bool.and_eq_false_iff, Bool.or_eq_false_iff, Bool.not_eq_false', Int.not_lt, Int.not_le, ne_eq, Decidable.not_not] at hg13_2'
      refine TOps.strip 2 false rfl rfl hg13_2 rfl ?_
      refine TOps.move rfl rfl ?_
      refine TOps.move rfl rfl ?_
      refine TOps.neqB rfl rfl Try.underlying4 rfl ?_
      refine TOps.move rfl rfl ?_
      refine TOps.move rfl rfl ?_
      refine TOps.or (r := ((C ||| L : Nat) : Int)) rfl rfl (ior_nat (by omega) (by omega)) rfl ?_
      refine TOps.move rfl rfl ?_
      refine TOps.shr rfl rfl (by omega) rfl rfl ?_
      refine TOps.and (r := if (C ||| L).testBit k then 1 else 0) rfl rfl (by rw [Int.toNat_natCast]; exact hbit) rfl ?_
      refine TOps.eqlIr (r := (C ||| L).testBit k) rfl rfl (hsp _) rfl ?_
      refine TOps.neqBr2 (r := false) rfl rfl (by rw [hak]; simp) Try.underlying4 rfl ?_
      refine TOps.blk rfl (by repeat (first | exact Ext.refl _ | refine Ext.cons rfl ?_)) (by repeat (first | exact Le.refl _ | apply Le.drop))
    refine TOps.next ?_
    refine Tri.cond rfl (fun hc4 => ?_) (fun hc4 => ?_)
    · try simp only [decide_eq_true_eq, decide_eq_false_iff_not, Bool.and_eq_true, Bool.or_eq_true, Bool.not_eq_true', Bool.and_eq_false_iff, Bool.or_eq_false_iff, Bool.not_eq_false', Int.not_lt, Int.not_le, ne_eq, Decidable.not_not, Option.isSome_iff_ne_none, Option.isNone_iff_eq_none] at hc4
      have hfalse : False := by simp at hc4
      refine Tri.seq (Tri.region ?_)
      refine TOps.assign rfl rfl ?_
      refine TOps.next ?_
      exact hfalse.elim
    try simp only [decide_eq_true_eq, decide_eq_false_iff_not, Bool.and_eq_true, Bool.or_eq_true, Bool.not_eq_true', Bool.and_eq_false_iff, Bool.or_eq_false_iff, Bool.not_eq_false', Int.not_lt, Int.not_le, ne_eq, Decidable.not_not, Option.isSome_iff_ne_none, Option.isNone_iff_eq_none] at hc4
    refine Tri.fin ?_
    refine Nrm.body () trivial ⟨rfl, rfl, rfl, rfl, rfl, rfl, rfl, trivial⟩ (by repeat (first | exact Le.refl _ | assumption | apply Le.drop))
  refine Nrm.of hS hM ?_
  refine Nrm.next ?_
  refine Tri.seq (Tri.region ?_)
  refine TOps.assign rfl rfl ?_
  refine TOps.next ?_
  refine Tri.ret1 (H' := H) Try.results3 (fun _ _ h => h) (.tmp rfl) l3 ⟨rfl, rfl⟩
theorem monitorReplays_g {H : List Ent} {fv : Value} {F : Fm} (hF : RF H fv F) (hk : F.ok) {l : List (Int × Int)} {aa sp : Option Nat} {ao acap : Nat} (hr : RdS H aa ao (actCells l) sp) (hl : l.length ≤ 9223372036854775807) (hb : ∀ a ∈ l, 0 ≤ a.1 ∧ a.1 ≤ 255) :
    Gives Try.prog 4 [fv, slV aa ao l.length acap sp] H (R1 (.bool true) H) := by
  have hF0 := hF
  obtain ⟨na, off, cap, nsp, rfl, hN⟩ := hF
  refine Gives.enter Try.func4 rfl (by exact Try.ntmps4) rfl ?_
  refine Tri.seq (Tri.region ?_)
  refine TOps.boxN rfl ti24 rfl rfl (fun b2 => ?_)
  refine TOps.hide (fun H1 l1 s1 r1 => ?_)
  replace hF0 := hF0.le l1; replace hr := RdS.le hr l1
  refine TOps.assign rfl rfl ?_
  refine TOps.next ?_
  refine Tri.seq ?_
  refine Tri.seq (Tri.region ?_)
  refine TOps.call (vs := []) Try.call8 trivial (awake55_g) rfl ?_
  rintro _ _ ⟨rfl, rfl⟩
  refine TOps.not rfl rfl ?_
  refine TOps.move rfl rfl ?_
  refine' TOps.orB 3 rfl rfl rfl rfl (fun hg1_2 => ?_) ?_; rotate_left
  · have hg1_2' := hg1_2
    try simp only [decide_eq_true_eq, decide_eq_false_iff_not, Bool.and_eq_true, Bool.or_eq_true, Bool.not_eq_true', Bool.and_eq_false_iff, Bool.or_eq_false_iff, Bool.not_eq_false', Int.not_lt, Int.not_le, ne_eq, Decidable.not_not] at hg1_2'
    refine TOps.strip 2 false rfl rfl hg1_2 rfl ?_
    refine TOps.loadN rfl ti24 (by first | exact Rd.all (by repeat (first | exact List.Mem.head _ | apply List.Mem.tail)) | (repeat (first | assumption | apply Rd.up))) rfl rfl ?_
    refine TOps.call (vs := [_]) Try.call9 ⟨rfl, trivial⟩ (light_g hF0 hk) rfl ?_
    rintro _ _ ⟨rfl, rfl⟩
    refine TOps.not rfl rfl ?_
    refine TOps.blk rfl (by repeat (first | exact Ext.refl _ | refine Ext.cons rfl ?_)) (by repeat (first | exact Le.refl _ | apply Le.drop))
  refine TOps.move rfl rfl ?_
  refine' TOps.orB 3 rfl rfl rfl rfl (fun hg1_7 => ?_) ?_; rotate_left
  · have hg1_7' := hg1_7
    try simp only [decide_eq_true_eq, decide_eq_false_iff_not, Bool.and_eq_true, Bool.or_eq_true, Bool.not_eq_true', Bool.and_eq_false_iff, Bool.or_eq_false_iff, Bool.not_eq_false', Int.not_lt, Int.not_le, ne_eq, Decidable.not_not] at hg1_7'
    refine TOps.strip 7 false rfl rfl hg1_7 rfl ?_
    refine TOps.move rfl rfl ?_
    refine TOps.len rfl Try.underlying25 rfl ?_
    refine TOps.gtr rfl rfl rfl ?_
    refine TOps.blk rfl (by repeat (first | exact Ext.refl _ | refine Ext.cons rfl ?_)) (by repeat (first | exact Le.refl _ | apply Le.drop))
  refine TOps.move rfl rfl ?_
  refine' TOps.orB 3 rfl rfl rfl rfl (fun hg1_12 => ?_) ?_; rotate_left
  · have hg1_12' := hg1_12
    try simp only [decide_eq_true_eq, decide_eq_false_iff_not, Bool.and_eq_true, Bool.or_eq_true, Bool.not_eq_true', Bool.and_eq_false_iff, Bool.or_eq_false_iff, Bool.not_eq_false', Int.not_lt, Int.not_le, ne_eq, Decidable.not_not] at hg1_12'
    refine TOps.strip 12 false rfl rfl hg1_12 rfl ?_
    refine TOps.loadN rfl ti24 (by first | exact Rd.all (by repeat (first | exact List.Mem.head _ | apply List.Mem.tail)) | (repeat (first | assumption | apply Rd.up))) rfl rfl ?_
    refine TOps.call (vs := [_]) Try.call10 ⟨rfl, trivial⟩ (check_g hF0 hk) rfl ?_
    rintro _ _ ⟨rfl, rfl⟩
    refine TOps.neqNil rfl Try.underlying29 rfl ?_
    refine TOps.blk rfl (by repeat (first | exact Ext.refl _ | refine Ext.cons rfl ?_)) (by repeat (first | exact Le.refl _ | apply Le.drop))
  refine TOps.next ?_
  refine Tri.cond rfl (fun hc1 => ?_) (fun hc1 => ?_)
  · try simp only [decide_eq_true_eq, decide_eq_false_iff_not, Bool.and_eq_true, Bool.or_eq_true, Bool.not_eq_true', Bool.and_eq_false_iff, Bool.or_eq_false_iff, Bool.not_eq_false', Int.not_lt, Int.not_le, ne_eq, Decidable.not_not, Option.isSome_iff_ne_none, Option.isNone_iff_eq_none] at hc1
    refine Tri.seq (Tri.region ?_)
    refine TOps.call (vs := []) Try.call8 trivial (awake55_g) rfl ?_
    rintro _ _ ⟨rfl, rfl⟩
    refine TOps.assign rfl rfl ?_
    refine TOps.next ?_
    refine Tri.ret1 (H' := H) Try.results4 (fun _ _ h => h) (.tmp rfl) l1 ⟨rfl, rfl⟩
  try simp only [decide_eq_true_eq, decide_eq_false_iff_not, Bool.and_eq_true, Bool.or_eq_true, Bool.not_eq_true', Bool.and_eq_false_iff, Bool.or_eq_false_iff, Bool.not_eq_false', Int.not_lt, Int.not_le, ne_eq, Decidable.not_not, Option.isSome_iff_ne_none, Option.isNone_iff_eq_none] at hc1
  have he : F.err = none := by simpa using hc1.2
  have hg := (Fm.good_iff F).1 he
  refine Tri.fin ?_
  refine Nrm.next ?_
  refine Tri.seq (Tri.region ?_)
  refine TOps.loadN rfl ti24 (by first | exact Rd.all (by repeat (first | exact List.Mem.head _ | apply List.Mem.tail)) | (repeat (first | assumption | apply Rd.up))) rfl rfl ?_
  refine TOps.move rfl rfl ?_
  refine TOps.call (vs := [_, _]) Try.call11 ⟨rfl, rfl, trivial⟩ (played_g hF0 hg hr hl hb) rfl ?_
  rintro _ _ ⟨m, nv, la, lcap, H2, rfl, l2, s2, hF2, hla, rfl⟩
  have hrc := Reach.acts F l
  obtain ⟨lg, hlg⟩ : ∃ lg, F.acts l = Mo.st lg := ⟨_, Mo.eta _ hrc.st⟩
  rw [hlg] at hrc hla ⊢
  have hlgl : (Mo.st lg).log = lg := rfl
  have hok := hrc.ok
  have hll : lg.length ≤ 4096 := hok.len
  have hff := hok.lt
  have hr3 : Rd (row (some m) 70 5 1 [.int .i64 F.vars, nv, .int .i64 F.top, .int .i64 (Mo.st lg).f, slV la 0 (Mo.st lg).log.length lcap] :: row la 42 3 lcap (logCells (Mo.st lg).log) :: H2) m 0 [.int .i64 F.vars, nv, .int .i64 F.top, .int .i64 (Mo.st lg).f, slV la 0 lg.length lcap] := Rd.all (List.Mem.head _)
  have hl3 : RdS (row (some m) 70 5 1 [.int .i64 F.vars, nv, .int .i64 F.top, .int .i64 (Mo.st lg).f, slV la 0 (Mo.st lg).log.length lcap] :: row la 42 3 lcap (logCells (Mo.st lg).log) :: H2) la 0 (logCells lg) := RdS.ofRowA (List.Mem.tail _ (List.Mem.head _)) (fun h => hla (fun h0 => h (by rw [show lg = [] from h0]; rfl)))
  have l3 : Le (row (some m) 70 5 1 [.int .i64 F.vars, nv, .int .i64 F.top, .int .i64 (Mo.st lg).f, slV la 0 (Mo.st lg).log.length lcap] :: row la 42 3 lcap (logCells (Mo.st lg).log) :: H2) H2 := Le.drop (Le.drop (Le.refl _))
  generalize row (some m) 70 5 1 [.int .i64 F.vars, nv, .int .i64 F.top, .int .i64 (Mo.st lg).f, slV la 0 (Mo.st lg).log.length lcap] :: row la 42 3 lcap (logCells (Mo.st lg).log) :: H2 = H3 at *
  replace hF2 := hF2.le l3; replace l3 := l3.trans l2; replace hF0 := hF0.le l3; replace r1 := r1.le l3; replace l3 := l3.trans l1
  refine TOps.assign rfl rfl ?_
  refine TOps.next ?_
  refine Tri.seq (Tri.region ?_)
  refine TOps.loadN rfl ti24 (by first | exact Rd.all (by repeat (first | exact List.Mem.head _ | apply List.Mem.tail)) | (repeat (first | assumption | apply Rd.up))) rfl rfl ?_
  refine TOps.call (vs := [_]) Try.call17 ⟨rfl, trivial⟩ (newOk_g hF0 hg) rfl ?_
  rintro _ _ ⟨q, qv, H4, rfl, l4, s4, hQ4, rfl⟩
  replace hF2 := hF2.le l4; replace hF0 := hF0.le l4; replace r1 := r1.le l4; replace hr3 := hr3.le l4; replace hl3 := RdS.le hl3 l4; replace l4 := l4.trans l3
  refine TOps.move rfl rfl ?_
  refine TOps.extract rfl rfl rfl ?_
  refine TOps.extract rfl rfl rfl ?_
  refine TOps.assign rfl rfl ?_
  refine TOps.assign rfl rfl ?_
  refine TOps.next ?_
  refine Tri.seq ?_
  refine Tri.seq (Tri.region ?_)
  refine TOps.move rfl rfl ?_
  refine TOps.eqlPtrNil rfl Try.underlying31 rfl ?_
  refine TOps.move rfl rfl ?_
  refine' TOps.orB 2 rfl rfl rfl rfl (fun hg5_2 => ?_) ?_; rotate_left
  · have hg5_2' := hg5_2
    try simp only [decide_eq_true_eq, decide_eq_false_iff_not, Bool.and_eq_true, Bool.or_eq_true, Bool.not_eq_true', Bool.and_eq_false_iff, Bool.or_eq_false_iff, Bool.not_eq_false', Int.not_lt, Int.not_le, ne_eq, Decidable.not_not] at hg5_2'
    refine TOps.strip 2 false rfl rfl hg5_2 rfl ?_
    refine TOps.move rfl rfl ?_
    refine TOps.neqNil (T := 47) (o := none) rfl Try.underlying29 rfl ?_
    refine TOps.blk rfl (by repeat (first | exact Ext.refl _ | refine Ext.cons rfl ?_)) (by repeat (first | exact Le.refl _ | apply Le.drop))
  refine TOps.next ?_
  refine Tri.cond rfl (fun hc2 => ?_) (fun hc2 => ?_)
  · try simp only [decide_eq_true_eq, decide_eq_false_iff_not, Bool.and_eq_true, Bool.or_eq_true, Bool.not_eq_true', Bool.and_eq_false_iff, Bool.or_eq_false_iff, Bool.not_eq_false', Int.not_lt, Int.not_le, ne_eq, Decidable.not_not, Option.isSome_iff_ne_none, Option.isNone_iff_eq_none] at hc2
    have hfalse : False := by simp at hc2
    refine Tri.seq (Tri.region ?_)
    refine TOps.assign rfl rfl ?_
    refine TOps.next ?_
    exact hfalse.elim
  try simp only [decide_eq_true_eq, decide_eq_false_iff_not, Bool.and_eq_true, Bool.or_eq_true, Bool.not_eq_true', Bool.and_eq_false_iff, Bool.or_eq_false_iff, Bool.not_eq_false', Int.not_lt, Int.not_le, ne_eq, Decidable.not_not, Option.isSome_iff_ne_none, Option.isNone_iff_eq_none] at hc2
  refine Tri.fin ?_
  refine Nrm.next ?_
  refine Tri.seq ?_
  refine Tri.seq (Tri.region ?_)
  refine TOps.move rfl rfl ?_
  refine TOps.call (vs := [_]) Try.call18 ⟨rfl, trivial⟩ (mlog_g (hr3.le (Le.drop (Le.drop (Le.refl _)))) (RdS.le hl3 (Le.drop (Le.drop (Le.refl _)))) hll) rfl ?_
  rintro _ _ ⟨ka, kcap, rfl, hka, rfl⟩
  refine TOps.le (H' := row (some q) 70 5 1 [.int .i64 F.vars, qv, .int .i64 F.top, .int .i64 Mo.zero.f, slV none 0 Mo.zero.log.length 0] :: row none 42 3 0 (logCells Mo.zero.log) :: row ka 42 3 kcap (logCells lg) :: H4) (Sp.le (by repeat (first | exact Sp.refl _ | exact Sp.sub (by assumption) | refine Sp.cons (by repeat (first | exact Pick.here | apply Pick.there)) ?_ | exact Sp.nil | apply Sp.skip))) ?_
  have hl5 : RdS (row ka 42 3 kcap (logCells lg) :: H4) ka 0 (logCells lg) := RdS.ofRowA (List.Mem.head _) hka
  have l5 : Le (row ka 42 3 kcap (logCells lg) :: H4) H4 := Le.drop (Le.refl _)
  generalize row ka 42 3 kcap (logCells lg) :: H4 = H5 at *
  replace hF2 := hF2.le l5; replace hF0 := hF0.le l5; replace r1 := r1.le l5; replace hr3 := hr3.le l5; replace hl3 := RdS.le hl3 l5; replace hQ4 := hQ4.le l5; replace l5 := l5.trans l4
  refine TOps.len rfl Try.underlying39 rfl ?_
  refine TOps.move rfl rfl ?_
  refine TOps.next ?_
  refine Tri.range (X := Option Nat × Nat) (fun x k => [(2, .pointer (some ⟨b2, 0, none⟩)), (5, .pointer (some ⟨m, 0, none⟩)), (6, .pointer (some ⟨q, 0, none⟩)), (47, slV ka 0 lg.length kcap)]) (fun x k => row (some q) 70 5 1 [.int .i64 F.vars, qv, .int .i64 F.top, .int .i64 (Mo.st (lg.take k)).f, slV x.1 0 (Mo.st (lg.take k)).log.length x.2] :: row x.1 42 3 x.2 (logCells (Mo.st (lg.take k)).log) :: H5) (fun x k => (Mo.st (lg.take k)).log ≠ [] → ∃ b, x.1 = some b) (by omega) rfl rfl rfl (fun _ _ => ⟨rfl, rfl, rfl, rfl⟩) (none, 0) (fun h => absurd rfl h) ⟨rfl, rfl, rfl, rfl, trivial⟩ (Le.refl _) (fun k x hlt hp => ?_) (fun x ac wc hp hS hM => ?_)
  · skip
    obtain ⟨xa, xcap⟩ := x
    dsimp only at hp ⊢
    obtain ⟨p1, rfl, -, q1⟩ := hl5.blk (k := k * 3) (ws := plCells lg[k]) (by simp [plCells]) (logCells_get hlt)
    rw [Nat.zero_add] at q1
    obtain ⟨hs1, hs2, hs3⟩ := hrc.step (k := k) hlt
    replace hs1 : F.playErr (Mo.st (lg.take k)) lg[k].ev lg[k].fl = none := hs1
    replace hs2 : F.playTop (Mo.st (lg.take k)) lg[k].ev lg[k].fl = lg[k].top := hs2
    replace hs3 : F.play (Mo.st (lg.take k)) lg[k].ev lg[k].fl = Mo.st (lg.take (k + 1)) := hs3
    have hokk : MoOk F (Mo.st (lg.take k)) := (hrc.take k).ok
    generalize Mo.st (lg.take k) = Z at *
    generalize lg[k] = pk at *
    refine Tri.seq (Tri.region ?_)
    refine TOps.indexAddr (off' := k * 3) rfl rfl Try.underlying39 ti42 (by omega) (by omega) (by simp) rfl ?_
    refine TOps.loadN rfl ti42 (Rd.up (Rd.up q1)) rfl rfl ?_
    refine TOps.alloc ti42 rfl (fun b9 => ?_)
    refine TOps.storeN rfl rfl ti42 rfl rfl (by repeat (first | exact Upd.here | apply Upd.there)) (by first | decide | (simp; done) | (simp; omega)) ?_
    refine TOps.le (H' := row (some q) 70 5 1 [.int .i64 F.vars, qv, .int .i64 F.top, .int .i64 Z.f, slV xa 0 Z.log.length xcap] :: row xa 42 3 xcap (logCells Z.log) :: row (some b9) 42 3 1 [.int .i64 pk.ev, .bool pk.fl, .bool pk.top] :: H5) (Sp.le (by repeat (first | exact Sp.refl _ | exact Sp.sub (by assumption) | refine Sp.cons (by repeat (first | exact Pick.here | apply Pick.there)) ?_ | exact Sp.nil | apply Sp.skip))) ?_
    have hQ5 : RF (row (some b9) 42 3 1 [.int .i64 pk.ev, .bool pk.fl, .bool pk.top] :: H5) (.agg (List.toArray [.int .i64 F.vars, qv, .int .i64 F.top])) F := hQ4.le (Le.drop (Le.refl _))
    refine TOps.next ?_
    refine Tri.seq (Tri.region ?_)
    refine TOps.assign rfl rfl ?_
    refine TOps.next ?_
    refine Tri.seq (Tri.region ?_)
    refine TOps.assign rfl rfl ?_
    refine TOps.next ?_
    refine Tri.seq ?_
    refine Tri.seq (Tri.region ?_)
    first | refine TOps.fieldB 1 rfl Try.underlying42 rfl rfl ti4 rfl rfl rfl ?_ | refine TOps.fieldN 1 rfl Try.underlying42 rfl rfl ti4 rfl rfl rfl ?_
    refine TOps.load1 rfl ti4 (by first | exact Rd.lit (by repeat (first | exact List.Mem.head _ | apply List.Mem.tail)) rfl | (repeat (first | assumption | exact Rd.fld (by assumption) 1 rfl | apply Rd.up))) rfl ?_
    refine TOps.next ?_
    refine Tri.cond rfl (fun hc3 => ?_) (fun hc3 => ?_)
    · try simp only [decide_eq_true_eq, decide_eq_false_iff_not, Bool.and_eq_true, Bool.or_eq_true, Bool.not_eq_true', Bool.and_eq_false_iff, Bool.or_eq_false_iff, Bool.not_eq_false', Int.not_lt, Int.not_le, ne_eq, Decidable.not_not, Option.isSome_iff_ne_none, Option.isNone_iff_eq_none] at hc3
      rw [show pk.fl = true from hc3] at hs1 hs2 hs3
      refine Tri.region ?_
      refine TOps.move rfl rfl ?_
      refine TOps.field0 rfl Try.underlying42 rfl rfl ti3 rfl rfl rfl ?_
      refine TOps.load1 rfl ti3 (by first | exact Rd.lit (by repeat (first | exact List.Mem.head _ | apply List.Mem.tail)) rfl | (repeat (first | assumption | exact Rd.fld (by assumption) 0 rfl | apply Rd.up))) rfl ?_
      refine TOps.call (vs := [_, _]) Try.call19 ⟨rfl, rfl, trivial⟩ (mfail_g hQ5 hg hokk hp pk.ev) rfl ?_
      rintro _ _ ⟨la', lcap', hla', rfl, rfl⟩
      rw [hs1, hs2, hs3]
      refine TOps.move rfl rfl ?_
      refine TOps.extract rfl rfl rfl ?_
      refine TOps.extract rfl rfl rfl ?_
      refine TOps.assign rfl rfl ?_
      refine TOps.assign rfl rfl ?_
      refine TOps.fin ?_
      refine Nrm.next ?_
      refine Tri.seq (Tri.region ?_)
      refine TOps.move rfl rfl ?_
      refine TOps.neqNil (T := 47) (o := none) rfl Try.underlying29 rfl ?_
      refine TOps.move rfl rfl ?_
      refine' TOps.orB 4 rfl rfl rfl rfl (fun hg15_2 => ?_) ?_; rotate_left
      · have hg15_2' := hg15_2
        try simp only [decide_eq_true_eq, decide_eq_false_iff_not, Bool.and_eq_true, Bool.or_eq_true, Bool.not_eq_true', Bool.and_eq_false_iff, Bool.or_eq_false_iff, Bool.not_eq_false', Int.not_lt, Int.not_le, ne_eq, Decidable.not_not] at hg15_2'
        refine TOps.strip 2 false rfl rfl hg15_2 rfl ?_
        refine TOps.move rfl rfl ?_
        first | refine TOps.fieldB 2 rfl Try.underlying42 rfl rfl ti4 rfl rfl rfl ?_ | refine TOps.fieldN 2 rfl Try.underlying42 rfl rfl ti4 rfl rfl rfl ?_
        refine TOps.load1 rfl ti4 (by first | exact Rd.lit (by repeat (first | exact List.Mem.head _ | apply List.Mem.tail)) rfl | (repeat (first | assumption | exact Rd.fld (by assumption) 2 rfl | apply Rd.up))) rfl ?_
        refine TOps.neqBr2 (r := false) rfl rfl (by simp) Try.underlying4 rfl ?_
        refine TOps.blk rfl (by repeat (first | exact Ext.refl _ | refine Ext.cons rfl ?_)) (by repeat (first | exact Le.refl _ | apply Le.drop))
      refine TOps.next ?_
      refine Tri.cond rfl (fun hc4 => ?_) (fun hc4 => ?_)
      · try simp only [decide_eq_true_eq, decide_eq_false_iff_not, Bool.and_eq_true, Bool.or_eq_true, Bool.not_eq_true', Bool.and_eq_false_iff, Bool.or_eq_false_iff, Bool.not_eq_false', Int.not_lt, Int.not_le, ne_eq, Decidable.not_not, Option.isSome_iff_ne_none, Option.isNone_iff_eq_none] at hc4
        have hfalse : False := by simp at hc4
        refine Tri.seq (Tri.region ?_)
        refine TOps.assign rfl rfl ?_
        refine TOps.next ?_
        exact hfalse.elim
      try simp only [decide_eq_true_eq, decide_eq_false_iff_not, Bool.and_eq_true, Bool.or_eq_true, Bool.not_eq_true', Bool.and_eq_false_iff, Bool.or_eq_false_iff, Bool.not_eq_false', Int.not_lt, Int.not_le, ne_eq, Decidable.not_not, Option.isSome_iff_ne_none, Option.isNone_iff_eq_none] at hc4
      refine Tri.fin ?_
      refine Nrm.body (la', lcap') (by rw [hs3] at hla'; exact hla') ⟨rfl, rfl, rfl, rfl, rfl, rfl, trivial⟩ (Sp.le (by repeat (first | exact Sp.refl _ | exact Sp.sub (by assumption) | refine Sp.cons (by repeat (first | exact Pick.here | apply Pick.there)) ?_ | exact Sp.nil | apply Sp.skip)))
    try simp only [decide_eq_true_eq, decide_eq_false_iff_not, Bool.and_eq_true, Bool.or_eq_true, Bool.not_eq_true', Bool.and_eq_false_iff, Bool.or_eq_false_iff, Bool.not_eq_false', Int.not_lt, Int.not_le, ne_eq, Decidable.not_not, Option.isSome_iff_ne_none, Option.isNone_iff_eq_none] at hc3
    rw [show pk.fl = false from hc3] at hs1 hs2 hs3
    refine Tri.region ?_
    refine TOps.move rfl rfl ?_
    refine TOps.field0 rfl Try.underlying42 rfl rfl ti3 rfl rfl rfl ?_
    refine TOps.load1 rfl ti3 (by first | exact Rd.lit (by repeat (first | exact List.Mem.head _ | apply List.Mem.tail)) rfl | (repeat (first | assumption | exact Rd.fld (by assumption) 0 rfl | apply Rd.up))) rfl ?_
    refine TOps.call (vs := [_, _]) Try.call20 ⟨rfl, rfl, trivial⟩ (mrepair_g hQ5 hg hokk hp pk.ev) rfl ?_
    rintro _ _ ⟨la', lcap', hla', rfl, rfl⟩
    rw [hs1, hs2, hs3]
    refine TOps.move rfl rfl ?_
    refine TOps.extract rfl rfl rfl ?_
    refine TOps.extract rfl rfl rfl ?_
    refine TOps.assign rfl rfl ?_
    refine TOps.assign rfl rfl ?_
    refine TOps.fin ?_
    refine Nrm.next ?_
    refine Tri.seq (Tri.region ?_)
    refine TOps.move rfl rfl ?_
    refine TOps.neqNil (T := 47) (o := none) rfl Try.underlying29 rfl ?_
    refine TOps.move rfl rfl ?_
    refine' TOps.orB 4 rfl rfl rfl rfl (fun hg15_2 => ?_) ?_; rotate_left
    · have hg15_2' := hg15_2
      try simp only [decide_eq_true_eq, decide_eq_false_iff_not, Bool.and_eq_true, Bool.or_eq_true, Bool.not_eq_true', Bool.and_eq_false_iff, Bool.or_eq_false_iff, Bool.not_eq_false', Int.not_lt, Int.not_le, ne_eq, Decidable.not_not] at hg15_2'
      refine TOps.strip 2 false rfl rfl hg15_2 rfl ?_
      refine TOps.move rfl rfl ?_
      first | refine TOps.fieldB 2 rfl Try.underlying42 rfl rfl ti4 rfl rfl rfl ?_ | refine TOps.fieldN 2 rfl Try.underlying42 rfl rfl ti4 rfl rfl rfl ?_
      refine TOps.load1 rfl ti4 (by first | exact Rd.lit (by repeat (first | exact List.Mem.head _ | apply List.Mem.tail)) rfl | (repeat (first | assumption | exact Rd.fld (by assumption) 2 rfl | apply Rd.up))) rfl ?_
      refine TOps.neqBr2 (r := false) rfl rfl (by simp) Try.underlying4 rfl ?_
      refine TOps.blk rfl (by repeat (first | exact Ext.refl _ | refine Ext.cons rfl ?_)) (by repeat (first | exact Le.refl _ | apply Le.drop))
    refine TOps.next ?_
    refine Tri.cond rfl (fun hc5 => ?_) (fun hc5 => ?_)
    · try simp only [decide_eq_true_eq, decide_eq_false_iff_not, Bool.and_eq_true, Bool.or_eq_true, Bool.not_eq_true', Bool.and_eq_false_iff, Bool.or_eq_false_iff, Bool.not_eq_false', Int.not_lt, Int.not_le, ne_eq, Decidable.not_not, Option.isSome_iff_ne_none, Option.isNone_iff_eq_none] at hc5
      have hfalse : False := by simp at hc5
      refine Tri.seq (Tri.region ?_)
      refine TOps.assign rfl rfl ?_
      refine TOps.next ?_
      exact hfalse.elim
    try simp only [decide_eq_true_eq, decide_eq_false_iff_not, Bool.and_eq_true, Bool.or_eq_true, Bool.not_eq_true', Bool.and_eq_false_iff, Bool.or_eq_false_iff, Bool.not_eq_false', Int.not_lt, Int.not_le, ne_eq, Decidable.not_not, Option.isSome_iff_ne_none, Option.isNone_iff_eq_none] at hc5
    refine Tri.fin ?_
    refine Nrm.body (la', lcap') (by rw [hs3] at hla'; exact hla') ⟨rfl, rfl, rfl, rfl, rfl, rfl, trivial⟩ (Sp.le (by repeat (first | exact Sp.refl _ | exact Sp.sub (by assumption) | refine Sp.cons (by repeat (first | exact Pick.here | apply Pick.there)) ?_ | exact Sp.nil | apply Sp.skip)))
  rw [List.take_length] at hM hp
  obtain ⟨xa, xcap⟩ := x
  dsimp only at hp hM ⊢
  have hse := Fm.setErr_of hg hff
  have hL7 : ∀ (a b : Ent), Le (a :: b :: H5) H5 := fun a b => Le.drop (Le.drop (Le.refl _))
  have hlx : RdS (row (some q) 70 5 1 [.int .i64 F.vars, qv, .int .i64 F.top, .int .i64 (Mo.st lg).f, slV xa 0 (Mo.st lg).log.length xcap] :: row xa 42 3 xcap (logCells (Mo.st lg).log) :: H5) xa 0 (logCells lg) := RdS.ofRowA (List.Mem.tail _ (List.Mem.head _)) (fun h => hp (fun h0 => h (by rw [show lg = [] from h0]; rfl)))
  refine Nrm.of hS hM ?_
  refine Nrm.next ?_
  refine Tri.seq ?_
  refine Tri.drawC rfl [(2, .pointer (some ⟨b2, 0, none⟩)), (5, .pointer (some ⟨m, 0, none⟩)), (6, .pointer (some ⟨q, 0, none⟩))] [] [_, _, _, _, _, _, _, _, _] (row (some q) 70 5 1 [.int .i64 F.vars, qv, .int .i64 F.top, .int .i64 (Mo.st lg).f, slV xa 0 (Mo.st lg).log.length xcap] :: row xa 42 3 xcap (logCells (Mo.st lg).log) :: H5) [7, 8] rfl ⟨rfl, rfl, rfl, trivial⟩ trivial (by repeat (first | exact Le.refl _ | assumption | apply Le.drop)) (by
    refine ⟨?_, ?_, ?_, ?_, ?_, ?_, ?_, ?_, ?_, trivial⟩
    · refine ⟨fun x S c he hw hd hc hcu hm _ => ?_, trivial⟩
      refine TOps.loadN (he _ _ rfl) ti24 (by first | exact Rd.all (by repeat (first | exact List.Mem.head _ | apply List.Mem.tail)) | (repeat (first | assumption | apply Rd.up))) rfl rfl ?_
      exact TOps.fin (Nrm.draw x (fun _ _ _ => rfl) rfl (by first | exact Le.refl _ | assumption | exact (by repeat (first | exact Le.refl _ | assumption | apply Le.drop))))
    · refine ⟨fun x S c he hw hd hc hcu hm _ => ?_, trivial⟩
      refine TOps.move (he _ _ rfl) rfl ?_
      exact TOps.fin (Nrm.draw x (fun _ _ _ => rfl) rfl (by first | exact Le.refl _ | assumption | exact (by repeat (first | exact Le.refl _ | assumption | apply Le.drop))))
    · refine ⟨fun x S c he hw hd hc hcu hm _ => ?_, trivial⟩
      obtain ⟨h1, -⟩ := hd
      refine TOps.call (vs := [_]) Try.call12 ⟨h1, trivial⟩ (mfailed_g (hr3.le (hL7 _ _)) (hF2.le (hL7 _ _)) hg hff) rfl ?_
      rintro _ _ ⟨rfl, rfl⟩
      exact TOps.fin (Nrm.draw x (fun _ _ _ => rfl) rfl (by first | exact Le.refl _ | assumption | exact (by repeat (first | exact Le.refl _ | assumption | apply Le.drop))))
    · refine ⟨fun x S c he hw hd hc hcu hm _ => ?_, trivial⟩
      obtain ⟨h0, h2, _, -⟩ := hd
      refine TOps.call (vs := [_, _]) Try.call16 ⟨h0, h2, trivial⟩ (value_g (hF0.le (hL7 _ _)) hk ((Mo.st lg).f : Int)) rfl ?_
      rintro _ _ ⟨rfl, rfl⟩
      exact TOps.fin (Nrm.draw x (fun _ _ _ => rfl) rfl (by first | exact Le.refl _ | assumption | exact (by repeat (first | exact Le.refl _ | assumption | apply Le.drop))))
    · refine ⟨fun x S c he hw hd hc hcu hm _ => ?_, trivial⟩
      obtain ⟨h3, -⟩ := hd
      refine TOps.move h3 rfl ?_
      exact TOps.fin (Nrm.draw x (fun _ _ _ => rfl) rfl (by first | exact Le.refl _ | assumption | exact (by repeat (first | exact Le.refl _ | assumption | apply Le.drop))))
    · refine ⟨fun x S c he hw hd hc hcu hm _ => ?_, trivial⟩
      obtain ⟨h4, -⟩ := hd
      refine TOps.extract h4 rfl rfl ?_
      exact TOps.fin (Nrm.draw x (fun _ _ _ => rfl) rfl (by first | exact Le.refl _ | assumption | exact (by repeat (first | exact Le.refl _ | assumption | apply Le.drop))))
    · refine ⟨fun x S c he hw hd hc hcu hm _ => ?_, trivial⟩
      obtain ⟨h4, -⟩ := hd
      refine TOps.extract h4 rfl rfl ?_
      exact TOps.fin (Nrm.draw x (fun _ _ _ => rfl) rfl (by first | exact Le.refl _ | assumption | exact (by repeat (first | exact Le.refl _ | assumption | apply Le.drop))))
    · refine ⟨fun x S c he hw hd hc hcu hm _ => ?_, trivial⟩
      obtain ⟨h5, h3, h0, h1, h2, _, h4, _, -⟩ := hd
      refine TOps.assign h5 rfl ?_
      exact TOps.fin (Nrm.draw x (fun _ _ _ => rfl) rfl (by first | exact Le.refl _ | assumption | exact (by repeat (first | exact Le.refl _ | assumption | apply Le.drop))))
    · refine ⟨fun x S c he hw hd hc hcu hm _ => ?_, trivial⟩
      obtain ⟨h6, h7, h0, h1, h2, h3, h4, h5, _, _, -⟩ := hd
      refine TOps.assign h6 rfl ?_
      exact TOps.fin (Nrm.draw x (fun _ _ _ => rfl) rfl (by first | exact Le.refl _ | assumption | exact (by repeat (first | exact Le.refl _ | assumption | apply Le.drop))))
    ) ?_
  rw [hse, show ((none : Option Int).isNone && F.value ((Mo.st lg).f : Nat)) = F.value ((Mo.st lg).f : Nat) from rfl]
  refine Nrm.next ?_
  refine Tri.seq ?_
  refine Tri.seq (Tri.region ?_)
  refine TOps.move rfl rfl ?_
  refine TOps.neqNil (T := 47) (o := none) rfl Try.underlying29 rfl ?_
  refine TOps.move rfl rfl ?_
  refine' TOps.orB 4 rfl rfl rfl rfl (fun hg19_2 => ?_) ?_; rotate_left
  · have hg19_2' := hg19_2
    try simp only [decide_eq_true_eq, decide_eq_false_iff_not, Bool.and_eq_true, Bool.or_eq_true, Bool.not_eq_true', Bool.and_eq_false_iff, Bool.or_eq_false_iff, Bool.not_eq_false', Int.not_lt, Int.not_le, ne_eq, Decidable.not_not] at hg19_2'
    refine TOps.strip 2 false rfl rfl hg19_2 rfl ?_
    refine TOps.move rfl rfl ?_
    refine TOps.move rfl rfl ?_
    refine TOps.call (vs := [_]) Try.call15 ⟨rfl, trivial⟩ (mtop_g (hr3.le (hL7 _ _)) (hF2.le (hL7 _ _)) hg hff) rfl ?_
    rintro _ _ ⟨rfl, rfl⟩
    refine TOps.neqBr2 (r := false) rfl rfl (by simp) Try.underlying4 rfl ?_
    refine TOps.blk rfl (by repeat (first | exact Ext.refl _ | refine Ext.cons rfl ?_)) (by repeat (first | exact Le.refl _ | apply Le.drop))
  refine TOps.move rfl rfl ?_
  refine' TOps.orB 5 rfl rfl rfl rfl (fun hg19_8 => ?_) ?_; rotate_left
  · have hg19_8' := hg19_8
    try simp only [decide_eq_true_eq, decide_eq_false_iff_not, Bool.and_eq_true, Bool.or_eq_true, Bool.not_eq_true', Bool.and_eq_false_iff, Bool.or_eq_false_iff, Bool.not_eq_false', Int.not_lt, Int.not_le, ne_eq, Decidable.not_not] at hg19_8'
    refine TOps.strip 8 false rfl rfl hg19_8 rfl ?_
    refine TOps.move rfl rfl ?_
    refine TOps.call (vs := [_]) Try.call12 ⟨rfl, trivial⟩ (mfailed_g (F := F) (nv := qv) (f := (Mo.st lg).f) (Rd.all (List.Mem.head _)) (hQ4.le (hL7 _ _)) hg hff) rfl ?_
    rintro _ _ ⟨rfl, rfl⟩
    refine TOps.move rfl rfl ?_
    refine TOps.call (vs := [_]) Try.call12 ⟨rfl, trivial⟩ (mfailed_g (hr3.le (hL7 _ _)) (hF2.le (hL7 _ _)) hg hff) rfl ?_
    rintro _ _ ⟨rfl, rfl⟩
    refine TOps.neqIr (r := false) rfl rfl (by simp) rfl ?_
    refine TOps.blk rfl (by repeat (first | exact Ext.refl _ | refine Ext.cons rfl ?_)) (by repeat (first | exact Le.refl _ | apply Le.drop))
  refine TOps.move rfl rfl ?_
  refine' TOps.orB 4 rfl rfl rfl rfl (fun hg19_15 => ?_) ?_; rotate_left
  · have hg19_15' := hg19_15
    try simp only [decide_eq_true_eq, decide_eq_false_iff_not, Bool.and_eq_true, Bool.or_eq_true, Bool.not_eq_true', Bool.and_eq_false_iff, Bool.or_eq_false_iff, Bool.not_eq_false', Int.not_lt, Int.not_le, ne_eq, Decidable.not_not] at hg19_15'
    refine TOps.strip 15 false rfl rfl hg19_15 rfl ?_
    refine TOps.move rfl rfl ?_
    refine TOps.call (vs := [_]) Try.call15 ⟨rfl, trivial⟩ (mtop_g (F := F) (nv := qv) (f := (Mo.st lg).f) (Rd.all (List.Mem.head _)) (hQ4.le (hL7 _ _)) hg hff) rfl ?_
    rintro _ _ ⟨rfl, rfl⟩
    refine TOps.move rfl rfl ?_
    refine TOps.neqBr2 (r := false) rfl rfl (by simp) Try.underlying4 rfl ?_
    refine TOps.blk rfl (by repeat (first | exact Ext.refl _ | refine Ext.cons rfl ?_)) (by repeat (first | exact Le.refl _ | apply Le.drop))
  refine TOps.move rfl rfl ?_
  refine' TOps.orB 6 rfl rfl rfl rfl (fun hg19_21 => ?_) ?_; rotate_left
  · have hg19_21' := hg19_21
    try simp only [decide_eq_true_eq, decide_eq_false_iff_not, Bool.and_eq_true, Bool.or_eq_true, Bool.not_eq_true', Bool.and_eq_false_iff, Bool.or_eq_false_iff, Bool.not_eq_false', Int.not_lt, Int.not_le, ne_eq, Decidable.not_not] at hg19_21'
    refine TOps.strip 21 false rfl rfl hg19_21 rfl ?_
    refine TOps.move rfl rfl ?_
    refine TOps.call (vs := [_]) Try.call18 ⟨rfl, trivial⟩ (mlog_g (l := lg) (Rd.all (List.Mem.head _)) hlx hll) rfl ?_
    rintro _ _ ⟨ua, ucap, rfl, hua, rfl⟩
    refine TOps.move rfl rfl ?_
    refine TOps.call (vs := [_]) Try.call18 ⟨rfl, trivial⟩ (mlog_g ((hr3.le (hL7 _ _)).up) (RdS.up (RdS.le hl3 (hL7 _ _))) hll) rfl ?_
    rintro _ _ ⟨wa, wcap, rfl, hwa, rfl⟩
    refine TOps.call (vs := [_, _]) Try.call21 ⟨rfl, rfl, trivial⟩ (samePlayed_g (l := lg) (RdS.up (RdS.ofRowA (List.Mem.head _) hua)) (RdS.ofRowA (List.Mem.head _) hwa) rfl rfl (by omega)) rfl ?_
    rintro _ _ ⟨rfl, rfl⟩
    refine TOps.not rfl rfl ?_
    refine TOps.blk rfl (by repeat (first | exact Ext.refl _ | refine Ext.cons rfl ?_)) (by repeat (first | exact Le.refl _ | apply Le.drop))
  refine TOps.next ?_
  refine Tri.cond rfl (fun hc6 => ?_) (fun hc6 => ?_)
  · try simp only [decide_eq_true_eq, decide_eq_false_iff_not, Bool.and_eq_true, Bool.or_eq_true, Bool.not_eq_true', Bool.and_eq_false_iff, Bool.or_eq_false_iff, Bool.not_eq_false', Int.not_lt, Int.not_le, ne_eq, Decidable.not_not, Option.isSome_iff_ne_none, Option.isNone_iff_eq_none] at hc6
    have hfalse : False := by simp at hc6
    refine Tri.seq (Tri.region ?_)
    refine TOps.assign rfl rfl ?_
    refine TOps.next ?_
    exact hfalse.elim
  try simp only [decide_eq_true_eq, decide_eq_false_iff_not, Bool.and_eq_true, Bool.or_eq_true, Bool.not_eq_true', Bool.and_eq_false_iff, Bool.or_eq_false_iff, Bool.not_eq_false', Int.not_lt, Int.not_le, ne_eq, Decidable.not_not, Option.isSome_iff_ne_none, Option.isNone_iff_eq_none] at hc6
  refine Tri.fin ?_
  refine Nrm.next ?_
  refine Tri.seq ?_
  refine Tri.seq (Tri.region ?_)
  refine TOps.move rfl rfl ?_
  refine TOps.call (vs := [_]) Try.call18 ⟨rfl, trivial⟩ (mlog_g (l := lg) (hr3.le (hL7 _ _)) (RdS.le hl3 (hL7 _ _)) hll) rfl ?_
  rintro _ _ ⟨ta, tcap, rfl, hta, rfl⟩
  refine TOps.le (H' := row (some q) 70 5 1 [.int .i64 F.vars, qv, .int .i64 F.top, .int .i64 (Mo.st lg).f, slV xa 0 (Mo.st lg).log.length xcap] :: row xa 42 3 xcap (logCells (Mo.st lg).log) :: H5) (Le.drop (Le.refl _)) ?_
  refine TOps.len rfl Try.underlying39 rfl ?_
  refine TOps.move rfl rfl ?_
  refine TOps.next ?_
  refine Tri.range (X := Unit) (fun y j => [(6, .pointer (some ⟨q, 0, none⟩))]) (fun y j => row (some q) 70 5 1 [.int .i64 F.vars, qv, .int .i64 F.top, .int .i64 (Mo.st (lg.take (lg.length - j))).f, slV xa 0 (Mo.st (lg.take (lg.length - j))).log.length xcap] :: row xa 42 3 xcap (logCells (Mo.st (lg.take (lg.length - j))).log) :: H5) (fun y j => (Mo.st (lg.take (lg.length - j))).log ≠ [] → ∃ b, xa = some b) (by omega) rfl rfl rfl (fun _ _ => ⟨rfl, rfl, rfl, rfl⟩) () (by rw [Nat.sub_zero, List.take_length]; exact hp) ⟨rfl, trivial⟩ (by rw [Nat.sub_zero, List.take_length]; exact Le.refl _) (fun j y hltj hpj => ?_) (fun y ac wc hpj hS hM => ?_)
  · skip
    have hjj : lg.length - j = (lg.length - (j + 1)) + 1 := by omega
    have hun := Mo.st_undo lg (k := lg.length - (j + 1)) (by omega)
    rw [← hjj] at hun
    have hokj : MoOk F (Mo.st (lg.take (lg.length - j))) := (hrc.take _).ok
    have hue : (Mo.st (lg.take (lg.length - j))).undoErr = none := by
      refine if_neg (fun h => ?_)
      have h2 : (lg.take (lg.length - j)).length = 0 := by rw [show lg.take (lg.length - j) = [] from h]; rfl
      rw [List.length_take] at h2; omega
    refine Tri.seq (Tri.region ?_)
    refine TOps.move rfl rfl ?_
    refine TOps.call (vs := [_]) Try.call22 ⟨rfl, trivial⟩ (mundo_g hg hokj hpj) rfl ?_
    rintro _ _ ⟨hla', rfl, rfl⟩
    rw [hue]
    rw [hun]
    rw [hun] at hla'
    refine TOps.neqNil (T := 47) (o := none) rfl Try.underlying29 rfl ?_
    refine TOps.next ?_
    refine Tri.cond rfl (fun hc7 => ?_) (fun hc7 => ?_)
    · try simp only [decide_eq_true_eq, decide_eq_false_iff_not, Bool.and_eq_true, Bool.or_eq_true, Bool.not_eq_true', Bool.and_eq_false_iff, Bool.or_eq_false_iff, Bool.not_eq_false', Int.not_lt, Int.not_le, ne_eq, Decidable.not_not, Option.isSome_iff_ne_none, Option.isNone_iff_eq_none] at hc7
      have hfalse : False := by simp at hc7
      refine Tri.seq (Tri.region ?_)
      refine TOps.assign rfl rfl ?_
      refine TOps.next ?_
      exact hfalse.elim
    try simp only [decide_eq_true_eq, decide_eq_false_iff_not, Bool.and_eq_true, Bool.or_eq_true, Bool.not_eq_true', Bool.and_eq_false_iff, Bool.or_eq_false_iff, Bool.not_eq_false', Int.not_lt, Int.not_le, ne_eq, Decidable.not_not, Option.isSome_iff_ne_none, Option.isNone_iff_eq_none] at hc7
    refine Tri.fin ?_
    refine Nrm.body () hla' ⟨rfl, rfl, rfl, trivial⟩ (Le.refl _)
  rw [Nat.sub_self, List.take_zero] at hM
  have hp0 : (Mo.st ([] : List Pl)).log ≠ [] → ∃ b, xa = some b := fun h => absurd rfl h
  have hl0 : RdS (row (some q) 70 5 1 [.int .i64 F.vars, qv, .int .i64 F.top, .int .i64 (Mo.st List.nil).f, slV xa 0 (Mo.st List.nil).log.length xcap] :: row xa 42 3 xcap (logCells (Mo.st List.nil).log) :: H5) xa 0 (logCells []) := RdS.nil
  have hz : (Mo.st ([] : List Pl)).f < 2 ^ F.vars.toNat := Nat.two_pow_pos _
  refine Nrm.of hS hM ?_
  refine Nrm.next ?_
  refine Tri.seq (Tri.region ?_)
  refine TOps.move rfl rfl ?_
  refine TOps.call (vs := [_]) Try.call12 ⟨rfl, trivial⟩ (mfailed_g (F := F) (nv := qv) (f := (Mo.st List.nil).f) (Rd.all (List.Mem.head _)) (hQ4.le (hL7 _ _)) hg hz) rfl ?_
  rintro _ _ ⟨rfl, rfl⟩
  refine TOps.eqlIr (r := true) rfl rfl rfl rfl ?_
  refine TOps.move rfl rfl ?_
  refine' TOps.andB 4 rfl rfl rfl rfl (fun hg26_3 => ?_) ?_; rotate_left
  · have hg26_3' := hg26_3
    try simp only [decide_eq_true_eq, decide_eq_false_iff_not, Bool.and_eq_true, Bool.or_eq_true, Bool.not_eq_true', Bool.and_eq_false_iff, Bool.or_eq_false_iff, Bool.not_eq_false', Int.not_lt, Int.not_le, ne_eq, Decidable.not_not] at hg26_3'
    refine TOps.strip 3 true rfl rfl hg26_3 rfl ?_
    refine TOps.move rfl rfl ?_
    refine TOps.call (vs := [_]) Try.call18 ⟨rfl, trivial⟩ (mlog_g (l := []) (Rd.all (List.Mem.head _)) hl0 (by simp)) rfl ?_
    rintro _ _ ⟨va, vcap, rfl, hva, rfl⟩
    refine TOps.len rfl Try.underlying39 rfl ?_
    refine TOps.eqlIr (r := true) rfl rfl rfl rfl ?_
    refine TOps.blk rfl (by repeat (first | exact Ext.refl _ | refine Ext.cons rfl ?_)) (by repeat (first | exact Le.refl _ | apply Le.drop))
  refine TOps.move rfl rfl ?_
  refine' TOps.andB 3 rfl rfl rfl rfl (fun hg26_9 => ?_) ?_; rotate_left
  · have hg26_9' := hg26_9
    try simp only [decide_eq_true_eq, decide_eq_false_iff_not, Bool.and_eq_true, Bool.or_eq_true, Bool.not_eq_true', Bool.and_eq_false_iff, Bool.or_eq_false_iff, Bool.not_eq_false', Int.not_lt, Int.not_le, ne_eq, Decidable.not_not] at hg26_9'
    refine TOps.strip 9 true rfl rfl hg26_9 rfl ?_
    refine TOps.move rfl rfl ?_
    refine TOps.call (vs := [_]) Try.call22 ⟨rfl, trivial⟩ (mundo_g (F := F) (nv := qv) (Z := Mo.st []) (la := xa) hg (Reach.nil F).ok hp0) rfl ?_
    rintro _ _ ⟨hla', rfl, rfl⟩
    rw [show (Mo.st ([] : List Pl)).undoErr = some 12 from rfl]
    refine TOps.call (vs := [_, _]) Try.call23 ⟨rfl, rfl, trivial⟩ (is_g (some 12) 12) rfl ?_
    rintro _ _ ⟨rfl, rfl⟩
    refine TOps.blk rfl (by repeat (first | exact Ext.refl _ | refine Ext.cons rfl ?_)) (by repeat (first | exact Le.refl _ | apply Le.drop))
  refine TOps.assign rfl rfl ?_
  refine TOps.next ?_
  refine Tri.ret1 (H' := H) Try.results4 (fun _ _ h => h) (.tmp rfl) (Le.drop (Le.drop l5)) ⟨rfl, rfl⟩
end Go.Proofs
