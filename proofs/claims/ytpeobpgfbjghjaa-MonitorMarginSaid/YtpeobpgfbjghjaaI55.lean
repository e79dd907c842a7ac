import Derived.Test.YtpeobpgfbjghjaaE55
namespace Go.Proofs
open Go.GL
set_option linter.unusedVariables false
set_option linter.unusedSimpArgs false
theorem monitorMargin_g {H : List Ent} {fv : Value} {F : Fm} (hF : RF H fv F) (hk : F.ok) {l : List (Int × Int)} {aa sp : Option Nat} {ao acap : Nat} (hr : RdS H aa ao (actCells l) sp) (hl : l.length ≤ 9223372036854775807) (hb : ∀ a ∈ l, 0 ≤ a.1 ∧ a.1 ≤ 255) :
    Gives Try.prog 5 [fv, slV aa ao l.length acap sp] H (R1 (.bool true) H) := by
  have hF0 := hF
  obtain ⟨na, off, cap, nsp, rfl, hN⟩ := hF
  refine Gives.enter Try.func5 rfl (by exact Try.ntmps5) rfl ?_
  refine Tri.seq (Tri.region ?_)
  refine TOps.boxN rfl ti24 rfl rfl (fun b2 => ?_)
  refine TOps.hide (fun H1 l1 s1 r1 => ?_)
  replace hF0 := hF0.le l1; replace hr := RdS.le hr l1
  refine TOps.assign rfl rfl ?_
  refine TOps.next ?_
  refine Tri.seq ?_
  refine Tri.seq (Tri.region ?_)
  refine TOps.call (vs := []) Try.call8 trivial (awake55_g) rfl ?_
  rintro _ _ ⟨rfl, rfl⟩
  refine TOps.not rfl rfl ?_
  refine TOps.move rfl rfl ?_
  refine' TOps.orB 3 rfl rfl rfl rfl (fun hg1_2 => ?_) ?_; rotate_left
  · have hg1_2' := hg1_2
    try simp only [decide_eq_true_eq, decide_eq_false_iff_not, Bool.and_eq_true, Bool.or_eq_true, Bool.not_eq_true', Bool.and_eq_false_iff, Bool.or_eq_false_iff, Bool.not_eq_false', Int.not_lt, Int.not_le, ne_eq, Decidable.not_not] at hg1_2'
    refine TOps.strip 2 false rfl rfl hg1_2 rfl ?_
    refine TOps.loadN rfl ti24 (by first | exact Rd.all (by repeat (first | exact List.Mem.head _ | apply List.Mem.tail)) | (repeat (first | assumption | apply Rd.up))) rfl rfl ?_
    refine TOps.call (vs := [_]) Try.call9 ⟨rfl, trivial⟩ (light_g hF0 hk) rfl ?_
    rintro _ _ ⟨rfl, rfl⟩
    refine TOps.not rfl rfl ?_
    refine TOps.blk rfl (by repeat (first | exact Ext.refl _ | refine Ext.cons rfl ?_)) (by repeat (first | exact Le.refl _ | apply Le.drop))
  refine TOps.move rfl rfl ?_
  refine' TOps.orB 3 rfl rfl rfl rfl (fun hg1_7 => ?_) ?_; rotate_left
  · have hg1_7' := hg1_7
    try simp only [decide_eq_true_eq, decide_eq_false_iff_not, Bool.and_eq_true, Bool.or_eq_true, Bool.not_eq_true', Bool.and_eq_false_iff, Bool.or_eq_false_iff, Bool.not_eq_false', Int.not_lt, Int.not_le, ne_eq, Decidable.not_not] at hg1_7'
    refine TOps.strip 7 false rfl rfl hg1_7 rfl ?_
    refine TOps.move rfl rfl ?_
    refine TOps.len rfl Try.underlying25 rfl ?_
    refine TOps.gtr rfl rfl rfl ?_
    refine TOps.blk rfl (by repeat (first | exact Ext.refl _ | refine Ext.cons rfl ?_)) (by repeat (first | exact Le.refl _ | apply Le.drop))
  refine TOps.move rfl rfl ?_
  refine' TOps.orB 3 rfl rfl rfl rfl (fun hg1_12 => ?_) ?_; rotate_left
  · have hg1_12' := hg1_12
    try simp only [decide_eq_true_eq, decide_eq_false_iff_not, Bool.and_eq_true, Bool.or_eq_true, Bool.not_eq_true', Bool.and_eq_false_iff, Bool.or_eq_false_iff, Bool.not_eq_false', Int.not_lt, Int.not_le, ne_eq, Decidable.not_not] at hg1_12'
    refine TOps.strip 12 false rfl rfl hg1_12 rfl ?_
    refine TOps.loadN rfl ti24 (by first | exact Rd.all (by repeat (first | exact List.Mem.head _ | apply List.Mem.tail)) | (repeat (first | assumption | apply Rd.up))) rfl rfl ?_
    refine TOps.call (vs := [_]) Try.call10 ⟨rfl, trivial⟩ (check_g hF0 hk) rfl ?_
    rintro _ _ ⟨rfl, rfl⟩
    refine TOps.neqNil rfl Try.underlying29 rfl ?_
    refine TOps.blk rfl (by repeat (first | exact Ext.refl _ | refine Ext.cons rfl ?_)) (by repeat (first | exact Le.refl _ | apply Le.drop))
  refine TOps.move rfl rfl ?_
  refine' TOps.orB 3 rfl rfl rfl rfl (fun hg1_17 => ?_) ?_; rotate_left
  · have hg1_17' := hg1_17
    try simp only [decide_eq_true_eq, decide_eq_false_iff_not, Bool.and_eq_true, Bool.or_eq_true, Bool.not_eq_true', Bool.and_eq_false_iff, Bool.or_eq_false_iff, Bool.not_eq_false', Int.not_lt, Int.not_le, ne_eq, Decidable.not_not] at hg1_17'
    refine TOps.strip 17 false rfl rfl hg1_17 rfl ?_
    refine TOps.field0 rfl Try.underlying24 rfl rfl ti3 rfl rfl rfl ?_
    refine TOps.load1 rfl ti3 (by first | exact Rd.lit (by repeat (first | exact List.Mem.head _ | apply List.Mem.tail)) rfl | (repeat (first | assumption | exact Rd.fld (by assumption) 0 rfl | apply Rd.up))) rfl ?_
    refine TOps.gtr rfl rfl rfl ?_
    refine TOps.blk rfl (by repeat (first | exact Ext.refl _ | refine Ext.cons rfl ?_)) (by repeat (first | exact Le.refl _ | apply Le.drop))
  refine TOps.next ?_
  refine Tri.cond rfl (fun hc1 => ?_) (fun hc1 => ?_)
  · try simp only [decide_eq_true_eq, decide_eq_false_iff_not, Bool.and_eq_true, Bool.or_eq_true, Bool.not_eq_true', Bool.and_eq_false_iff, Bool.or_eq_false_iff, Bool.not_eq_false', Int.not_lt, Int.not_le, ne_eq, Decidable.not_not, Option.isSome_iff_ne_none, Option.isNone_iff_eq_none] at hc1
    refine Tri.seq (Tri.region ?_)
    refine TOps.call (vs := []) Try.call8 trivial (awake55_g) rfl ?_
    rintro _ _ ⟨rfl, rfl⟩
    refine TOps.assign rfl rfl ?_
    refine TOps.next ?_
    refine Tri.ret1 (H' := H) Try.results5 (fun _ _ h => h) (.tmp rfl) l1 ⟨rfl, rfl⟩
  try simp only [decide_eq_true_eq, decide_eq_false_iff_not, Bool.and_eq_true, Bool.or_eq_true, Bool.not_eq_true', Bool.and_eq_false_iff, Bool.or_eq_false_iff, Bool.not_eq_false', Int.not_lt, Int.not_le, ne_eq, Decidable.not_not, Option.isSome_iff_ne_none, Option.isNone_iff_eq_none] at hc1
  have he : F.err = none := by simpa using hc1.1.2
  have h8 : F.vars ≤ 8 := by have := hc1.2; omega
  have hg := (Fm.good_iff F).1 he
  have g0 := hg.v0; have g1 := hg.v1
  have h12 : ¬ 12 < F.vars := by omega
  obtain ⟨v, hv⟩ := Int.eq_ofNat_of_zero_le g0
  have hvn : F.vars.toNat = v := by omega
  have h24 := pow24 (show v ≤ 24 by omega)
  refine Tri.fin ?_
  refine Nrm.next ?_
  refine Tri.seq (Tri.region ?_)
  refine TOps.loadN rfl ti24 (by first | exact Rd.all (by repeat (first | exact List.Mem.head _ | apply List.Mem.tail)) | (repeat (first | assumption | apply Rd.up))) rfl rfl ?_
  refine TOps.move rfl rfl ?_
  refine TOps.call (vs := [_, _]) Try.call11 ⟨rfl, rfl, trivial⟩ (played_g hF0 hg hr hl hb) rfl ?_
  rintro _ _ ⟨m, nv, la, lcap, H2, rfl, l2, s2, hF2, hla, rfl⟩
  have hok := (Reach.acts F l).ok
  generalize F.acts l = Z at *
  have hff := hok.lt
  have hF3 : ∀ (a b : Ent), RF (a :: b :: H2) (.agg (List.toArray [.int .i64 F.vars, nv, .int .i64 F.top])) F := fun a b => hF2.le (Le.drop (Le.drop (Le.refl _)))
  have hL3 : ∀ (a b : Ent), Le (a :: b :: H2) H2 := fun a b => Le.drop (Le.drop (Le.refl _))
  replace hF0 := hF0.le l2; replace r1 := r1.le l2; replace l2 := l2.trans l1
  have hfz := hff
  rw [hvn] at hfz
  rw [hv] at r1 hF0
  refine TOps.assign rfl rfl ?_
  refine TOps.next ?_
  refine Tri.seq ?_
  refine Tri.seq (Tri.region ?_)
  refine TOps.move rfl rfl ?_
  refine TOps.eqlPtrNil rfl Try.underlying31 rfl ?_
  refine TOps.next ?_
  refine Tri.cond rfl (fun hc2 => ?_) (fun hc2 => ?_)
  · exact absurd hc2 (by first | decide | simp)
  try simp only [decide_eq_true_eq, decide_eq_false_iff_not, Bool.and_eq_true, Bool.or_eq_true, Bool.not_eq_true', Bool.and_eq_false_iff, Bool.or_eq_false_iff, Bool.not_eq_false', Int.not_lt, Int.not_le, ne_eq, Decidable.not_not, Option.isSome_iff_ne_none, Option.isNone_iff_eq_none] at hc2
  refine Tri.fin ?_
  refine Nrm.next ?_
  refine Tri.seq (Tri.region ?_)
  refine TOps.move rfl rfl ?_
  refine TOps.call (vs := [_]) Try.call24 ⟨rfl, trivial⟩ (mmargin_g (F := F) (nv := nv) (f := Z.f) (Rd.all (List.Mem.head _)) (hF3 _ _) hg hff) rfl ?_
  rintro _ _ ⟨rfl, rfl⟩
  refine TOps.move rfl rfl ?_
  refine TOps.extract rfl rfl rfl ?_
  refine TOps.extract rfl rfl rfl ?_
  refine TOps.assign rfl rfl ?_
  refine TOps.assign rfl rfl ?_
  refine TOps.next ?_
  refine Tri.seq ?_
  refine Tri.seq (Tri.region ?_)
  refine TOps.move rfl rfl ?_
  refine TOps.neqNil rfl Try.underlying29 rfl ?_
  refine TOps.next ?_
  refine Tri.cond rfl (fun hc3 => ?_) (fun hc3 => ?_)
  · skip
    have hno : F.near Z.f = none := by
      cases h : F.near Z.f with
      | none => rfl
      | some s => rw [Fm.nearErr_3 h12 h] at hc3; cases hc3
    obtain ⟨q1, q2⟩ := margin_none hff hno
    rw [Fm.nearErr_2 h12 hno]
    refine Tri.seq (Tri.region ?_)
    refine TOps.move rfl rfl ?_
    refine TOps.call (vs := [_, _]) Try.call23 ⟨rfl, rfl, trivial⟩ (is_g (some 17) 17) rfl ?_
    rintro _ _ ⟨rfl, rfl⟩
    refine TOps.move rfl rfl ?_
    refine' TOps.andB 3 rfl rfl rfl rfl (fun hg8_2 => ?_) ?_; rotate_left
    · have hg8_2' := hg8_2
      try simp only [decide_eq_true_eq, decide_eq_false_iff_not, Bool.and_eq_true, Bool.or_eq_true, Bool.not_eq_true', Bool.and_eq_false_iff, Bool.or_eq_false_iff, Bool.not_eq_false', Int.not_lt, Int.not_le, ne_eq, Decidable.not_not] at hg8_2'
      refine TOps.strip 2 true rfl rfl hg8_2 rfl ?_
      refine TOps.move rfl rfl ?_
      refine TOps.call (vs := [_]) Try.call15 ⟨rfl, trivial⟩ (mtop_g (F := F) (nv := nv) (f := Z.f) (Rd.all (List.Mem.head _)) (hF3 _ _) hg hff) rfl ?_
      rintro _ _ ⟨rfl, rfl⟩
      rw [q1]
      refine TOps.not rfl rfl ?_
      refine TOps.blk rfl (by repeat (first | exact Ext.refl _ | refine Ext.cons rfl ?_)) (by repeat (first | exact Le.refl _ | apply Le.drop))
    refine TOps.move rfl rfl ?_
    refine' TOps.andB 3 rfl rfl rfl rfl (fun hg8_7 => ?_) ?_; rotate_left
    · have hg8_7' := hg8_7
      try simp only [decide_eq_true_eq, decide_eq_false_iff_not, Bool.and_eq_true, Bool.or_eq_true, Bool.not_eq_true', Bool.and_eq_false_iff, Bool.or_eq_false_iff, Bool.not_eq_false', Int.not_lt, Int.not_le, ne_eq, Decidable.not_not] at hg8_7'
      refine TOps.strip 7 true rfl rfl hg8_7 rfl ?_
      refine TOps.move rfl rfl ?_
      refine TOps.call (vs := [_]) Try.call13 ⟨rfl, trivial⟩ (mcritical_g (F := F) (nv := nv) (f := Z.f) (Rd.all (List.Mem.head _)) (hF3 _ _) hg hff) rfl ?_
      rintro _ _ ⟨rfl, rfl⟩
      rw [q2]
      refine TOps.eqlIr (r := true) rfl rfl rfl rfl ?_
      refine TOps.blk rfl (by repeat (first | exact Ext.refl _ | refine Ext.cons rfl ?_)) (by repeat (first | exact Le.refl _ | apply Le.drop))
    refine TOps.assign rfl rfl ?_
    refine TOps.next ?_
    refine Tri.ret1 (H' := H) Try.results5 (fun _ _ h => h) (.tmp rfl) ((hL3 _ _).trans l2) ⟨rfl, rfl⟩
  skip
  obtain ⟨s, hso⟩ : ∃ s, F.near Z.f = some s := by
    cases h : F.near Z.f with
    | none => rw [Fm.nearErr_2 h12 h] at hc3; cases hc3
    | some s => exact ⟨s, rfl⟩
  rw [Fm.nearErr_3 h12 hso, Fm.nearSet_3 h12 hso]
  obtain ⟨z1, z2⟩ := margin_zero hg hso
  obtain ⟨y1, y2⟩ := margin_next hso
  have hsl := (F.nearTo_some Z.f _ s hso).lt
  rw [hvn] at hsl
  have hpp := pp_le 24 s
  have hone := fun h0 => margin_one hg hff hso h0
  refine Tri.fin ?_
  refine Nrm.next ?_
  refine Tri.seq (Tri.region ?_)
  refine TOps.move rfl rfl ?_
  refine TOps.call (vs := [_]) Try.call25 ⟨rfl, trivial⟩ (mnext_g (F := F) (nv := nv) (f := Z.f) (Rd.all (List.Mem.head _)) (hF3 _ _) hg hff) rfl ?_
  rintro _ _ ⟨rfl, rfl⟩
  rw [Fm.nearSet_3 h12 hso]
  refine TOps.move rfl rfl ?_
  refine TOps.extract rfl rfl rfl ?_
  refine TOps.extract rfl rfl rfl ?_
  refine TOps.assign rfl rfl ?_
  refine TOps.assign rfl rfl ?_
  refine TOps.next ?_
  refine Tri.seq ?_
  refine Tri.seq (Tri.region ?_)
  refine TOps.move rfl rfl ?_
  refine TOps.eqlIr (r := decide (pp 24 s = 0)) rfl rfl (decide_eq_decide.2 (by omega)) rfl ?_
  refine TOps.move rfl rfl ?_
  refine' TOps.orB 2 rfl rfl rfl rfl (fun hg10_2 => ?_) ?_; rotate_left
  · have hg10_2' := hg10_2
    try simp only [decide_eq_true_eq, decide_eq_false_iff_not, Bool.and_eq_true, Bool.or_eq_true, Bool.not_eq_true', Bool.and_eq_false_iff, Bool.or_eq_false_iff, Bool.not_eq_false', Int.not_lt, Int.not_le, ne_eq, Decidable.not_not] at hg10_2'
    refine TOps.strip 2 false rfl rfl hg10_2 rfl ?_
    refine TOps.move rfl rfl ?_
    refine TOps.call (vs := [_]) Try.call15 ⟨rfl, trivial⟩ (mtop_g (F := F) (nv := nv) (f := Z.f) (Rd.all (List.Mem.head _)) (hF3 _ _) hg hff) rfl ?_
    rintro _ _ ⟨rfl, rfl⟩
    refine TOps.blk rfl (by repeat (first | exact Ext.refl _ | refine Ext.cons rfl ?_)) (by repeat (first | exact Le.refl _ | apply Le.drop))
  refine TOps.next ?_
  refine Tri.cond rfl (fun hc4 => ?_) (fun hc4 => ?_)
  · skip
    have hp0 : pp 24 s = 0 := by
      simp only [Bool.or_eq_true, decide_eq_true_eq] at hc4
      rcases hc4 with h | h
      · exact h
      · exact z1.2 h
    have hv1 := z1.1 hp0
    have hs0 := z2 hv1
    have hne : F.nextErr Z.f = some 12 := by unfold Fm.nextErr; rw [Fm.nearErr_3 h12 hso, Fm.nearSet_3 h12 hso]; exact if_pos hs0
    rw [hne]
    refine Tri.seq (Tri.region ?_)
    refine TOps.move rfl rfl ?_
    refine TOps.eqlIr (r := true) rfl rfl (by rw [hp0]; rfl) rfl ?_
    refine TOps.move rfl rfl ?_
    refine' TOps.andB 2 rfl rfl rfl rfl (fun hg11_2 => ?_) ?_; rotate_left
    · have hg11_2' := hg11_2
      try simp only [decide_eq_true_eq, decide_eq_false_iff_not, Bool.and_eq_true, Bool.or_eq_true, Bool.not_eq_true', Bool.and_eq_false_iff, Bool.or_eq_false_iff, Bool.not_eq_false', Int.not_lt, Int.not_le, ne_eq, Decidable.not_not] at hg11_2'
      refine TOps.strip 2 true rfl rfl hg11_2 rfl ?_
      refine TOps.move rfl rfl ?_
      refine TOps.call (vs := [_]) Try.call15 ⟨rfl, trivial⟩ (mtop_g (F := F) (nv := nv) (f := Z.f) (Rd.all (List.Mem.head _)) (hF3 _ _) hg hff) rfl ?_
      rintro _ _ ⟨rfl, rfl⟩
      rw [hv1]
      refine TOps.blk rfl (by repeat (first | exact Ext.refl _ | refine Ext.cons rfl ?_)) (by repeat (first | exact Le.refl _ | apply Le.drop))
    refine TOps.move rfl rfl ?_
    refine' TOps.andB 2 rfl rfl rfl rfl (fun hg11_6 => ?_) ?_; rotate_left
    · have hg11_6' := hg11_6
      try simp only [decide_eq_true_eq, decide_eq_false_iff_not, Bool.and_eq_true, Bool.or_eq_true, Bool.not_eq_true', Bool.and_eq_false_iff, Bool.or_eq_false_iff, Bool.not_eq_false', Int.not_lt, Int.not_le, ne_eq, Decidable.not_not] at hg11_6'
      refine TOps.strip 6 true rfl rfl hg11_6 rfl ?_
      refine TOps.move rfl rfl ?_
      refine TOps.call (vs := [_, _]) Try.call23 ⟨rfl, rfl, trivial⟩ (is_g (some 12) 12) rfl ?_
      rintro _ _ ⟨rfl, rfl⟩
      refine TOps.blk rfl (by repeat (first | exact Ext.refl _ | refine Ext.cons rfl ?_)) (by repeat (first | exact Le.refl _ | apply Le.drop))
    refine TOps.assign rfl rfl ?_
    refine TOps.next ?_
    refine Tri.ret1 (H' := H) Try.results5 (fun _ _ h => h) (.tmp rfl) ((hL3 _ _).trans l2) ⟨rfl, rfl⟩
  skip
  have hpn : pp 24 s ≠ 0 := by intro h; rw [h] at hc4; simp at hc4
  have hv0 : F.value (Z.f : Nat) = false := by cases h : F.value (Z.f : Nat) with | false => rfl | true => exact absurd (z1.2 h) hpn
  have hsn : s ≠ 0 := by intro h; exact hpn (by rw [h]; exact (pp_zero 24 0 (by decide)).2 rfl)
  have hne : F.nextErr Z.f = none := by unfold Fm.nextErr; rw [Fm.nearErr_3 h12 hso, Fm.nearSet_3 h12 hso]; exact if_neg hsn
  rw [hne]
  replace hone := hone hv0
  have hol : Z.f ||| s < 2 ^ v := Nat.or_lt_two_pow hfz hsl
  have hse := Fm.setErr_of hg (x := Z.f ||| s) (by rw [hvn]; exact hol)
  have hcl := F.crit_lt Z.f
  rw [hvn] at hcl
  have hpe2 := ppBits_eq v 24 s hsl (by omega)
  have hdc : decide (pp 24 s = 1) = !(decide (F.crit Z.f = 0)) := by rw [← decide_not]; exact decide_eq_decide.2 hone
  have hdn : ∀ c : Nat, decide (((c : Nat) : Int) ≠ 0) = !(decide (c = 0)) := fun c => by rw [← decide_not]; exact decide_eq_decide.2 (by omega)
  refine Tri.fin ?_
  refine Nrm.next ?_
  refine Tri.seq ?_
  refine Tri.drawC rfl [(2, .pointer (some ⟨b2, 0, none⟩)), (5, .pointer (some ⟨m, 0, none⟩)), (6, .int .i64 (pp 24 s : Nat)), (8, .int .i64 s), (9, errV 47 none)] [] [_, _, _, _, _, _, _, _, _, _, _] (row (some m) 70 5 1 [.int .i64 F.vars, nv, .int .i64 F.top, .int .i64 Z.f, slV la 0 Z.log.length lcap] :: row la 42 3 lcap (logCells Z.log) :: H2) [9, 10] rfl ⟨rfl, rfl, rfl, rfl, rfl, trivial⟩ trivial (by repeat (first | exact Le.refl _ | assumption | apply Le.drop)) (by
    refine ⟨?_, ?_, ?_, ?_, ?_, ?_, ?_, ?_, ?_, ?_, ?_, trivial⟩
    · refine ⟨fun x S c he hw hd hc hcu hm _ => ?_, trivial⟩
      refine TOps.loadN (he _ _ rfl) ti24 (by first | exact Rd.all (by repeat (first | exact List.Mem.head _ | apply List.Mem.tail)) | (repeat (first | assumption | apply Rd.up))) rfl rfl ?_
      exact TOps.fin (Nrm.draw x (fun _ _ _ => rfl) rfl (by first | exact Le.refl _ | assumption | exact (by repeat (first | exact Le.refl _ | assumption | apply Le.drop))))
    · refine ⟨fun x S c he hw hd hc hcu hm _ => ?_, trivial⟩
      refine TOps.move (he _ _ rfl) rfl ?_
      exact TOps.fin (Nrm.draw x (fun _ _ _ => rfl) rfl (by first | exact Le.refl _ | assumption | exact (by repeat (first | exact Le.refl _ | assumption | apply Le.drop))))
    · refine ⟨fun x S c he hw hd hc hcu hm _ => ?_, trivial⟩
      obtain ⟨h1, -⟩ := hd
      refine TOps.call (vs := [_]) Try.call12 ⟨h1, trivial⟩ (mfailed_g (F := F) (nv := nv) (f := Z.f) (Rd.all (List.Mem.head _)) (hF3 _ _) hg hff) rfl ?_
      rintro _ _ ⟨rfl, rfl⟩
      exact TOps.fin (Nrm.draw x (fun _ _ _ => rfl) rfl (by first | exact Le.refl _ | assumption | exact (by repeat (first | exact Le.refl _ | assumption | apply Le.drop))))
    · refine ⟨fun x S c he hw hd hc hcu hm _ => ?_, trivial⟩
      refine TOps.move (he _ _ rfl) rfl ?_
      exact TOps.fin (Nrm.draw x (fun _ _ _ => rfl) rfl (by first | exact Le.refl _ | assumption | exact (by repeat (first | exact Le.refl _ | assumption | apply Le.drop))))
    · refine ⟨fun x S c he hw hd hc hcu hm _ => ?_, trivial⟩
      obtain ⟨h2, h3, -⟩ := hd
      refine TOps.or (r := ((Z.f ||| s : Nat) : Int)) h2 h3 (ior_nat (by omega) (by omega)) rfl ?_
      exact TOps.fin (Nrm.draw x (fun _ _ _ => rfl) rfl (by first | exact Le.refl _ | assumption | exact (by repeat (first | exact Le.refl _ | assumption | apply Le.drop))))
    · refine ⟨fun x S c he hw hd hc hcu hm _ => ?_, trivial⟩
      obtain ⟨h0, h4, h2, -⟩ := hd
      refine TOps.call (vs := [_, _]) Try.call16 ⟨h0, h4, trivial⟩ (value_g (hF0.le (hL3 _ _)) hk ((Z.f ||| s : Nat) : Int)) rfl ?_
      rintro _ _ ⟨rfl, rfl⟩
      exact TOps.fin (Nrm.draw x (fun _ _ _ => rfl) rfl (by first | exact Le.refl _ | assumption | exact (by repeat (first | exact Le.refl _ | assumption | apply Le.drop))))
    · refine ⟨fun x S c he hw hd hc hcu hm _ => ?_, trivial⟩
      obtain ⟨h5, -⟩ := hd
      refine TOps.move h5 rfl ?_
      exact TOps.fin (Nrm.draw x (fun _ _ _ => rfl) rfl (by first | exact Le.refl _ | assumption | exact (by repeat (first | exact Le.refl _ | assumption | apply Le.drop))))
    · refine ⟨fun x S c he hw hd hc hcu hm _ => ?_, trivial⟩
      obtain ⟨h6, -⟩ := hd
      refine TOps.extract h6 rfl rfl ?_
      exact TOps.fin (Nrm.draw x (fun _ _ _ => rfl) rfl (by first | exact Le.refl _ | assumption | exact (by repeat (first | exact Le.refl _ | assumption | apply Le.drop))))
    · refine ⟨fun x S c he hw hd hc hcu hm _ => ?_, trivial⟩
      obtain ⟨h6, -⟩ := hd
      refine TOps.extract h6 rfl rfl ?_
      exact TOps.fin (Nrm.draw x (fun _ _ _ => rfl) rfl (by first | exact Le.refl _ | assumption | exact (by repeat (first | exact Le.refl _ | assumption | apply Le.drop))))
    · refine ⟨fun x S c he hw hd hc hcu hm _ => ?_, trivial⟩
      obtain ⟨h7, h5, h0, h1, h2, h3, h4, _, h6, _, -⟩ := hd
      refine TOps.assign h7 rfl ?_
      exact TOps.fin (Nrm.draw x (fun _ _ _ => rfl) rfl (by first | exact Le.refl _ | assumption | exact (by repeat (first | exact Le.refl _ | assumption | apply Le.drop))))
    · refine ⟨fun x S c he hw hd hc hcu hm _ => ?_, trivial⟩
      obtain ⟨h8, h9, h0, h1, h2, h3, h4, h5, h6, h7, _, _, -⟩ := hd
      refine TOps.assign h8 rfl ?_
      exact TOps.fin (Nrm.draw x (fun _ _ _ => rfl) rfl (by first | exact Le.refl _ | assumption | exact (by repeat (first | exact Le.refl _ | assumption | apply Le.drop))))
    ) ?_
  rw [hse, y1]
  refine Nrm.next ?_
  refine Tri.seq ?_
  refine Tri.seq (Tri.region ?_)
  refine TOps.move rfl rfl ?_
  refine TOps.neqNil (T := 47) (o := none) rfl Try.underlying29 rfl ?_
  refine TOps.move rfl rfl ?_
  refine' TOps.orB 2 rfl rfl rfl rfl (fun hg13_2 => ?_) ?_; rotate_left
  · have hg13_2' := hg13_2
    try simp only [decide_eq_true_eq, decide_eq_false_iff_not, Bool.and_eq_true, Bool.or_eq_true, Bool.not_eq_true', Bool.and_eq_false_iff, Bool.or_eq_false_iff, Bool.not_eq_false', Int.not_lt, Int.not_le, ne_eq, Decidable.not_not] at hg13_2'
    refine TOps.strip 2 false rfl rfl hg13_2 rfl ?_
    refine TOps.move rfl rfl ?_
    refine TOps.neqNil (T := 47) (o := none) rfl Try.underlying29 rfl ?_
    refine TOps.blk rfl (by repeat (first | exact Ext.refl _ | refine Ext.cons rfl ?_)) (by repeat (first | exact Le.refl _ | apply Le.drop))
  refine TOps.move rfl rfl ?_
  refine' TOps.orB 2 rfl rfl rfl rfl (fun hg13_6 => ?_) ?_; rotate_left
  · have hg13_6' := hg13_6
    try simp only [decide_eq_true_eq, decide_eq_false_iff_not, Bool.and_eq_true, Bool.or_eq_true, Bool.not_eq_true', Bool.and_eq_false_iff, Bool.or_eq_false_iff, Bool.not_eq_false', Int.not_lt, Int.not_le, ne_eq, Decidable.not_not] at hg13_6'
    refine TOps.strip 6 false rfl rfl hg13_6 rfl ?_
    refine TOps.move rfl rfl ?_
    refine TOps.not rfl rfl ?_
    refine TOps.blk rfl (by repeat (first | exact Ext.refl _ | refine Ext.cons rfl ?_)) (by repeat (first | exact Le.refl _ | apply Le.drop))
  refine TOps.move rfl rfl ?_
  refine' TOps.orB 5 rfl rfl rfl rfl (fun hg13_10 => ?_) ?_; rotate_left
  · have hg13_10' := hg13_10
    try simp only [decide_eq_true_eq, decide_eq_false_iff_not, Bool.and_eq_true, Bool.or_eq_true, Bool.not_eq_true', Bool.and_eq_false_iff, Bool.or_eq_false_iff, Bool.not_eq_false', Int.not_lt, Int.not_le, ne_eq, Decidable.not_not] at hg13_10'
    refine TOps.strip 10 false rfl rfl hg13_10 rfl ?_
    refine TOps.move rfl rfl ?_
    refine TOps.move rfl rfl ?_
    refine TOps.call (vs := [_]) Try.call12 ⟨rfl, trivial⟩ (mfailed_g (F := F) (nv := nv) (f := Z.f) (Rd.all (List.Mem.head _)) (hF3 _ _) hg hff) rfl ?_
    rintro _ _ ⟨rfl, rfl⟩
    refine TOps.and (r := 0) rfl rfl (by rw [iand_nat (by omega) (by omega), y2]; rfl) rfl ?_
    refine TOps.neqIr (r := false) rfl rfl rfl rfl ?_
    refine TOps.blk rfl (by repeat (first | exact Ext.refl _ | refine Ext.cons rfl ?_)) (by repeat (first | exact Le.refl _ | apply Le.drop))
  refine TOps.move rfl rfl ?_
  refine' TOps.orB 6 rfl rfl rfl rfl (fun hg13_17 => ?_) ?_; rotate_left
  · have hg13_17' := hg13_17
    try simp only [decide_eq_true_eq, decide_eq_false_iff_not, Bool.and_eq_true, Bool.or_eq_true, Bool.not_eq_true', Bool.and_eq_false_iff, Bool.or_eq_false_iff, Bool.not_eq_false', Int.not_lt, Int.not_le, ne_eq, Decidable.not_not] at hg13_17'
    refine TOps.strip 17 false rfl rfl hg13_17 rfl ?_
    refine TOps.move rfl rfl ?_
    refine TOps.eqlIr (r := decide (pp 24 s = 1)) rfl rfl (decide_eq_decide.2 (by omega)) rfl ?_
    refine TOps.move rfl rfl ?_
    refine TOps.call (vs := [_]) Try.call13 ⟨rfl, trivial⟩ (mcritical_g (F := F) (nv := nv) (f := Z.f) (Rd.all (List.Mem.head _)) (hF3 _ _) hg hff) rfl ?_
    rintro _ _ ⟨rfl, rfl⟩
    refine TOps.neqIr (r := !(decide (F.crit Z.f = 0))) rfl rfl (hdn _) rfl ?_
    refine TOps.neqBr2 (r := false) rfl rfl (by rw [hdc]; simp) Try.underlying4 rfl ?_
    refine TOps.blk rfl (by repeat (first | exact Ext.refl _ | refine Ext.cons rfl ?_)) (by repeat (first | exact Le.refl _ | apply Le.drop))
  refine TOps.next ?_
  refine Tri.cond rfl (fun hc5 => ?_) (fun hc5 => ?_)
  · try simp only [decide_eq_true_eq, decide_eq_false_iff_not, Bool.and_eq_true, Bool.or_eq_true, Bool.not_eq_true', Bool.and_eq_false_iff, Bool.or_eq_false_iff, Bool.not_eq_false', Int.not_lt, Int.not_le, ne_eq, Decidable.not_not, Option.isSome_iff_ne_none, Option.isNone_iff_eq_none] at hc5
    have hfalse : False := by simp at hc5
    refine Tri.seq (Tri.region ?_)
    refine TOps.assign rfl rfl ?_
    refine TOps.next ?_
    exact hfalse.elim
  try simp only [decide_eq_true_eq, decide_eq_false_iff_not, Bool.and_eq_true, Bool.or_eq_true, Bool.not_eq_true', Bool.and_eq_false_iff, Bool.or_eq_false_iff, Bool.not_eq_false', Int.not_lt, Int.not_le, ne_eq, Decidable.not_not, Option.isSome_iff_ne_none, Option.isNone_iff_eq_none] at hc5
  refine Tri.fin ?_
  refine Nrm.next ?_
  refine Tri.seq (Tri.region ?_)
  refine TOps.assign rfl rfl ?_
  refine TOps.next ?_
  refine Tri.seq ?_
  refine Tri.seq (Tri.region ?_)
  refine TOps.field0 rfl Try.underlying24 rfl rfl ti3 rfl rfl rfl ?_
  refine TOps.load1 rfl ti3 ((r1.le (hL3 _ _)).fld 0 rfl) rfl ?_
  refine TOps.move rfl rfl ?_
  refine TOps.next ?_
  refine Tri.range (X := Option Nat × Nat) (fun x k => [(2, .pointer (some ⟨b2, 0, none⟩)), (5, .pointer (some ⟨m, 0, none⟩)), (6, .int .i64 (pp 24 s : Nat)), (8, .int .i64 s), (12, .int .i64 (ppBits s k : Nat))]) (fun x k => row (some m) 70 5 1 [.int .i64 F.vars, nv, .int .i64 F.top, .int .i64 Z.f, slV x.1 0 Z.log.length x.2] :: row x.1 42 3 x.2 (logCells Z.log) :: H2) (fun x k => Z.log ≠ [] → ∃ b, x.1 = some b) (by omega) rfl rfl rfl (fun _ _ => ⟨rfl, rfl, rfl, rfl⟩) (la, lcap) hla ⟨rfl, rfl, rfl, rfl, rfl, trivial⟩ (Le.refl _) (fun k x hlt hp => ?_) (fun x ac wc hp hS hM => ?_)
  · skip
    obtain ⟨xa, xcap⟩ := x
    dsimp only at hp ⊢
    have hbit := bit_step s k (by omega)
    have hps := ppBits_succ s k
    have hpl := ppBits_le s k
    have hokp := hok.play k true
    refine Tri.seq (Tri.region ?_)
    refine TOps.move rfl rfl ?_
    refine TOps.assign rfl rfl ?_
    refine TOps.next ?_
    refine Tri.seq (Tri.region ?_)
    refine TOps.move rfl rfl ?_
    refine TOps.move rfl rfl ?_
    refine TOps.move rfl rfl ?_
    refine TOps.shr rfl rfl (by omega) rfl rfl ?_
    refine TOps.and (r := if s.testBit k then 1 else 0) rfl rfl (by rw [Int.toNat_natCast]; exact hbit) rfl ?_
    refine TOps.add (r := ((ppBits s (k + 1) : Nat) : Int)) rfl rfl (by rw [hps]; split <;> rw [wrapI (by omega) (by omega)] <;> omega) rfl ?_
    refine TOps.assign rfl rfl ?_
    refine TOps.next ?_
    refine Tri.seq ?_
    refine Tri.seq (Tri.region ?_)
    refine TOps.move rfl rfl ?_
    refine TOps.move rfl rfl ?_
    refine TOps.call (vs := [_, _]) Try.call19 ⟨rfl, rfl, trivial⟩ (mfail_g hF2 hg hok hp k) rfl ?_
    rintro _ _ ⟨la', lcap', hla', rfl, rfl⟩
    refine TOps.move rfl rfl ?_
    refine TOps.extract rfl rfl rfl ?_
    refine TOps.extract rfl rfl rfl ?_
    refine TOps.assign rfl rfl ?_
    refine TOps.assign rfl rfl ?_
    refine TOps.next ?_
    refine Tri.seq (Tri.region ?_)
    refine TOps.move rfl rfl ?_
    refine TOps.neqNil rfl Try.underlying29 rfl ?_
    refine TOps.next ?_
    refine Tri.cond rfl (fun hc6 => ?_) (fun hc6 => ?_)
    · skip
      obtain ⟨e, hpe⟩ : ∃ e, F.playErr Z k true = some e := by cases h : F.playErr Z k true with | none => rw [h] at hc6; cases hc6 | some e => exact ⟨e, rfl⟩
      rw [Fm.play_err hpe] at hla' ⊢
      refine Tri.exitTo ?_
      repeat (with_reducible first | refine ExitTo.blk ?_ | refine ExitTo.blkNe rfl ?_ | refine ExitTo.body ?_ | refine ExitTo.brk rfl ?_ | refine ExitTo.bodyNe rfl rfl ?_ | refine ExitTo.seq ?_ | refine ExitTo.loop ?_)
      refine Nrm.body (la', lcap') hla' ⟨rfl, rfl, rfl, rfl, rfl, rfl, rfl, trivial⟩ (Le.refl _)
    skip
    have hpe : F.playErr Z k true = none := by cases h : F.playErr Z k true with | none => rfl | some e => rw [h] at hc6; cases hc6
    obtain ⟨u1, u2, u3⟩ := Fm.undo_play hpe
    have hbk := (Fm.playErr_none hpe).2.1
    rw [Int.toNat_natCast] at hbk
    have hmar : (F.nearErr (F.play Z k true).f).isNone = true → pp 24 s ≤ pp 24 (F.nearSet (F.play Z k true).f) + 1 := by
      intro hn
      rw [u3] at hn ⊢
      cases h : F.near (Z.f ^^^ 2 ^ k) with
      | none => rw [Fm.nearErr_2 h12 h] at hn; cases hn
      | some s' => rw [Fm.nearSet_3 h12 h]; exact margin_step hg (by omega) hso hbk h
    have hpp2 := pp_le 24 (F.nearSet (F.play Z k true).f)
    refine Tri.fin ?_
    refine Nrm.next ?_
    refine Tri.seq (Tri.region ?_)
    refine TOps.move rfl rfl ?_
    refine TOps.call (vs := [_]) Try.call24 ⟨rfl, trivial⟩ (mmargin_g (F := F) (nv := nv) (f := (F.play Z k true).f) (Rd.all (List.Mem.head _)) (hF3 _ _) hg hokp.lt) rfl ?_
    rintro _ _ ⟨rfl, rfl⟩
    refine TOps.move rfl rfl ?_
    refine TOps.extract rfl rfl rfl ?_
    refine TOps.extract rfl rfl rfl ?_
    refine TOps.assign rfl rfl ?_
    refine TOps.assign rfl rfl ?_
    refine TOps.next ?_
    refine Tri.seq (Tri.region ?_)
    refine TOps.move rfl rfl ?_
    refine TOps.eqlNil (T := 47) (o := F.nearErr (F.play Z k true).f) rfl Try.underlying29 rfl ?_
    refine TOps.move rfl rfl ?_
    refine' TOps.andB 4 rfl rfl rfl rfl (fun hg23_2 => ?_) ?_; rotate_left
    · have hg23_2' := hg23_2
      try simp only [decide_eq_true_eq, decide_eq_false_iff_not, Bool.and_eq_true, Bool.or_eq_true, Bool.not_eq_true', Bool.and_eq_false_iff, Bool.or_eq_false_iff, Bool.not_eq_false', Int.not_lt, Int.not_le, ne_eq, Decidable.not_not] at hg23_2'
      refine TOps.strip 2 true rfl rfl hg23_2 rfl ?_
      refine TOps.move rfl rfl ?_
      refine TOps.move rfl rfl ?_
      refine TOps.sub (r := (pp 24 s : Int) - 1) rfl rfl (wrapI (by omega) (by omega)) rfl ?_
      refine TOps.lssr (r := false) rfl rfl (decide_eq_false (by have := hmar hg23_2; omega)) rfl ?_
      refine TOps.blk rfl (by repeat (first | exact Ext.refl _ | refine Ext.cons rfl ?_)) (by repeat (first | exact Le.refl _ | apply Le.drop))
    refine TOps.move rfl rfl ?_
    refine TOps.strip 8 false rfl rfl (by simp) rfl ?_
    refine TOps.move rfl rfl ?_
    refine TOps.call (vs := [_]) Try.call22 ⟨rfl, trivial⟩ (mundo_g hg hokp hla') rfl ?_
    rintro _ _ ⟨hla2, rfl, rfl⟩
    rw [u2]
    rw [u1] at hla2 ⊢
    refine TOps.neqNil (T := 47) (o := none) rfl Try.underlying29 rfl ?_
    refine TOps.pickr (r := .bool false) rfl rfl rfl (by simp) rfl ?_
    refine TOps.next ?_
    refine Tri.cond rfl (fun hc7 => ?_) (fun hc7 => ?_)
    · try simp only [decide_eq_true_eq, decide_eq_false_iff_not, Bool.and_eq_true, Bool.or_eq_true, Bool.not_eq_true', Bool.and_eq_false_iff, Bool.or_eq_false_iff, Bool.not_eq_false', Int.not_lt, Int.not_le, ne_eq, Decidable.not_not, Option.isSome_iff_ne_none, Option.isNone_iff_eq_none] at hc7
      have hfalse : False := by simp at hc7
      refine Tri.seq (Tri.region ?_)
      refine TOps.assign rfl rfl ?_
      refine TOps.next ?_
      exact hfalse.elim
    try simp only [decide_eq_true_eq, decide_eq_false_iff_not, Bool.and_eq_true, Bool.or_eq_true, Bool.not_eq_true', Bool.and_eq_false_iff, Bool.or_eq_false_iff, Bool.not_eq_false', Int.not_lt, Int.not_le, ne_eq, Decidable.not_not, Option.isSome_iff_ne_none, Option.isNone_iff_eq_none] at hc7
    refine Tri.fin ?_
    refine Nrm.body (la', lcap') hla2 ⟨rfl, rfl, rfl, rfl, rfl, rfl, rfl, trivial⟩ (Le.refl _)
  rw [hpe2] at hS
  refine Nrm.of hS hM ?_
  refine Nrm.next ?_
  refine Tri.seq (Tri.region ?_)
  refine TOps.move rfl rfl ?_
  refine TOps.move rfl rfl ?_
  refine TOps.eqlIr (r := true) rfl rfl (by simp) rfl ?_
  refine TOps.assign rfl rfl ?_
  refine TOps.next ?_
  refine Tri.ret1 (H' := H) Try.results5 (fun _ _ h => h) (.tmp rfl) ((hL3 _ _).trans l2) ⟨rfl, rfl⟩
end Go.Proofs
