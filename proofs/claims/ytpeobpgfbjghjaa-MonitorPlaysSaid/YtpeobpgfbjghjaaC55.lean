import Derived.Test.YtpeobpgfbjghjaaB55
namespace Go.Proofs
open Go.GL
set_option linter.unusedVariables false
set_option linter.unusedSimpArgs false
theorem example55_g {H : List Ent} : Gives Try.prog 31 [] H (NewF exF55 H) := by
  refine Gives.enter Try.func31 rfl (by exact Try.ntmps31) rfl ?_
  refine Tri.seq (Tri.region ?_)
  refine TOps.alloc ti24 rfl (fun b0 => ?_)
  refine TOps.next ?_
  refine Tri.seq (Tri.region ?_)
  refine TOps.buildSlice (vs := [_, _]) (xs := [_, _]) Try.underlying62 ti3 ⟨rfl, rfl, rfl, rfl, trivial⟩ rfl rfl rfl rfl rfl rfl (by decide) rfl (fun b1 => ?_)
  refine TOps.buildStruct (vs := [(0, _), (2, _)]) (xs := [_, _, _]) [(0, 1), (1, 1), (2, 1)] Try.underlying64 ti64 (fun w => by simp) ⟨rfl, rfl, rfl, rfl, trivial⟩ rfl rfl ?_
  refine TOps.buildSlice (vs := [_, _]) (xs := [_, _]) Try.underlying62 ti3 ⟨rfl, rfl, rfl, rfl, trivial⟩ rfl rfl rfl rfl rfl rfl (by decide) rfl (fun b3 => ?_)
  refine TOps.buildStruct (vs := [(0, _), (2, _)]) (xs := [_, _, _]) [(0, 1), (1, 1), (2, 1)] Try.underlying64 ti64 (fun w => by simp) ⟨rfl, rfl, rfl, rfl, trivial⟩ rfl rfl ?_
  refine TOps.buildSlice (vs := [_, _]) (xs := [_, _, _, _, _, _]) Try.underlying22 ti64 ⟨rfl, rfl, rfl, rfl, trivial⟩ rfl rfl rfl rfl rfl rfl (by decide) rfl (fun b5 => ?_)
  refine TOps.buildStruct (vs := [(0, _), (1, _), (2, _)]) (xs := [_, _, _]) [(0, 1), (1, 1), (2, 1)] Try.underlying24 ti24 (fun w => by simp) ⟨rfl, rfl, rfl, rfl, rfl, rfl, trivial⟩ rfl rfl ?_
  refine TOps.storeN rfl rfl ti24 rfl rfl (by repeat (first | exact Upd.here | apply Upd.there)) (by first | decide | (simp; done) | (simp; omega)) ?_
  refine TOps.next ?_
  refine Tri.ret1 (H' := _) Try.results31 (fun _ _ h => h) (.cellN rfl rfl ti24 (Rd.all (by repeat (first | exact List.Mem.head _ | apply List.Mem.tail))) rfl) (Le.refl _) ⟨(by repeat (first | exact Le.refl _ | apply Le.drop)), (by repeat (first | exact List.Sublist.refl _ | apply List.Sublist.cons)), ?_⟩
  refine ⟨some b5, 0, 2, none, rfl, RNodes.ofRow (E := 64) (sz := 3) (cap := 2) (qs := [(some b1, 0, 2, none), (some b3, 0, 2, none)]) (by repeat (first | exact List.Mem.head _ | apply List.Mem.tail)) rfl ?_⟩
  intro i d q hd hq
  rcases i with _ | _ | i
  · simp [exF55] at hd hq; subst hd hq; exact RInts.ofRow (xs := [1, 2]) (by repeat (first | exact List.Mem.head _ | apply List.Mem.tail))
  · simp [exF55] at hd hq; subst hd hq; exact RInts.ofRow (xs := [0, 3]) (by repeat (first | exact List.Mem.head _ | apply List.Mem.tail))
  · simp [exF55] at hd
theorem awake55_g {H : List Ent} : Gives Try.prog 8 [] H (R1 (.bool true) H) := by
  have hg := exF55_good
  have e1 := exM1_eq; have e2 := exM2_eq; have e3 := exM1_err; have e4 := exM2_err; have e5 := exM1_top; have e6 := exM2_top
  have e7 := exM0_crit; have e8 := exM1_crit; have e9 := exM2_heal
  have h8 : 2 ^ exF55.vars.toNat = 8 := rfl
  have ok1 : MoOk exF55 exM1 := by rw [← e1]; exact (MoOk.nil _).play 1 true
  obtain ⟨F, hFe⟩ : ∃ F, F = exF55 := ⟨_, rfl⟩
  rw [← hFe] at hg e1 e2 e3 e4 e5 e6 e7 e8 e9 h8 ok1
  refine Gives.enter Try.func8 rfl (by exact Try.ntmps8) rfl ?_
  refine Tri.seq (Tri.region ?_)
  refine TOps.assign rfl rfl ?_
  refine TOps.next ?_
  refine Tri.seq (Tri.region ?_)
  refine TOps.call (vs := []) Try.call31 trivial (example55_g) rfl ?_
  rintro _ H1 ⟨l1, s1, hF1⟩
  rw [← hFe] at hF1
  refine TOps.call (vs := [_]) Try.call17 ⟨rfl, trivial⟩ (newOk_g hF1 hg) rfl ?_
  rintro _ _ ⟨m, nv, H2, rfl, l2, s2, hF2, rfl⟩
  have l3 := l2.trans l1
  have hF3 : ∀ (a b : Ent), RF (a :: b :: H2) (.agg (List.toArray [.int .i64 F.vars, nv, .int .i64 F.top])) F := fun a b => hF2.le (Le.drop (Le.drop (Le.refl _)))
  refine TOps.move rfl rfl ?_
  refine TOps.extract rfl rfl rfl ?_
  refine TOps.extract rfl rfl rfl ?_
  refine TOps.assign rfl rfl ?_
  refine TOps.assign rfl rfl ?_
  refine TOps.next ?_
  refine Tri.seq ?_
  refine Tri.seq (Tri.region ?_)
  refine TOps.move rfl rfl ?_
  refine TOps.neqNil (T := 47) (o := none) rfl Try.underlying29 rfl ?_
  refine TOps.move rfl rfl ?_
  refine' TOps.orB 2 rfl rfl rfl rfl (fun hg2_2 => ?_) ?_; rotate_left
  · have hg2_2' := hg2_2
    try simp only [decide_eq_true_eq, decide_eq_false_iff_not, Bool.and_eq_true, Bool.or_eq_true, Bool.not_eq_true', Bool.and_eq_false_iff, Bool.or_eq_false_iff, Bool.not_eq_false', Int.not_lt, Int.not_le, ne_eq, Decidable.not_not] at hg2_2'
    refine TOps.strip 2 false rfl rfl hg2_2 rfl ?_
    refine TOps.move rfl rfl ?_
    refine TOps.eqlPtrNil rfl Try.underlying31 rfl ?_
    refine TOps.blk rfl (by repeat (first | exact Ext.refl _ | refine Ext.cons rfl ?_)) (by repeat (first | exact Le.refl _ | apply Le.drop))
  refine TOps.move rfl rfl ?_
  refine' TOps.orB 3 rfl rfl rfl rfl (fun hg2_6 => ?_) ?_; rotate_left
  · have hg2_6' := hg2_6
    try simp only [decide_eq_true_eq, decide_eq_false_iff_not, Bool.and_eq_true, Bool.or_eq_true, Bool.not_eq_true', Bool.and_eq_false_iff, Bool.or_eq_false_iff, Bool.not_eq_false', Int.not_lt, Int.not_le, ne_eq, Decidable.not_not] at hg2_6'
    refine TOps.strip 6 false rfl rfl hg2_6 rfl ?_
    refine TOps.move rfl rfl ?_
    refine TOps.call (vs := [_]) Try.call13 ⟨rfl, trivial⟩ (mcritical_g (F := F) (nv := nv) (f := 0) (Rd.all (List.Mem.head _)) (hF3 _ _) hg (by rw [h8]; decide)) rfl ?_
    rintro _ _ ⟨rfl, rfl⟩
    rw [e7]
    refine TOps.neqIr (r := false) rfl rfl rfl rfl ?_
    refine TOps.blk rfl (by repeat (first | exact Ext.refl _ | refine Ext.cons rfl ?_)) (by repeat (first | exact Le.refl _ | apply Le.drop))
  refine TOps.next ?_
  refine Tri.cond rfl (fun hc1 => ?_) (fun hc1 => ?_)
  · try simp only [decide_eq_true_eq, decide_eq_false_iff_not, Bool.and_eq_true, Bool.or_eq_true, Bool.not_eq_true', Bool.and_eq_false_iff, Bool.or_eq_false_iff, Bool.not_eq_false', Int.not_lt, Int.not_le, ne_eq, Decidable.not_not, Option.isSome_iff_ne_none, Option.isNone_iff_eq_none] at hc1
    have hfalse : False := by simp at hc1
    refine Tri.seq (Tri.region ?_)
    refine TOps.assign rfl rfl ?_
    refine TOps.next ?_
    exact hfalse.elim
  try simp only [decide_eq_true_eq, decide_eq_false_iff_not, Bool.and_eq_true, Bool.or_eq_true, Bool.not_eq_true', Bool.and_eq_false_iff, Bool.or_eq_false_iff, Bool.not_eq_false', Int.not_lt, Int.not_le, ne_eq, Decidable.not_not, Option.isSome_iff_ne_none, Option.isNone_iff_eq_none] at hc1
  refine Tri.fin ?_
  refine Nrm.next ?_
  refine Tri.seq (Tri.region ?_)
  refine TOps.move rfl rfl ?_
  refine TOps.call (vs := [_, _]) Try.call19 ⟨rfl, rfl, trivial⟩ (mfail_g hF2 hg (MoOk.nil F) (fun h => absurd rfl h) 1) rfl ?_
  rintro _ _ ⟨la, lcap, hla, rfl, rfl⟩
  rw [e1, e3, e5]
  rw [e1] at hla
  refine TOps.move rfl rfl ?_
  refine TOps.extract rfl rfl rfl ?_
  refine TOps.extract rfl rfl rfl ?_
  refine TOps.assign rfl rfl ?_
  refine TOps.assign rfl rfl ?_
  refine TOps.next ?_
  refine Tri.seq (Tri.region ?_)
  refine TOps.move rfl rfl ?_
  refine TOps.call (vs := [_]) Try.call13 ⟨rfl, trivial⟩ (mcritical_g (F := F) (nv := nv) (f := 2) (Rd.all (List.Mem.head _)) (hF3 _ _) hg (by rw [h8]; decide)) rfl ?_
  rintro _ _ ⟨rfl, rfl⟩
  rw [e8]
  refine TOps.assign rfl rfl ?_
  refine TOps.next ?_
  refine Tri.seq (Tri.region ?_)
  refine TOps.move rfl rfl ?_
  refine TOps.call (vs := [_, _]) Try.call19 ⟨rfl, rfl, trivial⟩ (mfail_g hF2 hg ok1 hla 2) rfl ?_
  rintro _ _ ⟨la2, lcap2, hla2, rfl, rfl⟩
  rw [e2, e4, e6]
  refine TOps.move rfl rfl ?_
  refine TOps.extract rfl rfl rfl ?_
  refine TOps.extract rfl rfl rfl ?_
  refine TOps.assign rfl rfl ?_
  refine TOps.assign rfl rfl ?_
  refine TOps.next ?_
  refine Tri.seq (Tri.region ?_)
  refine TOps.move rfl rfl ?_
  refine TOps.eqlNil (T := 47) (o := none) rfl Try.underlying29 rfl ?_
  refine TOps.move rfl rfl ?_
  refine' TOps.andB 2 rfl rfl rfl rfl (fun hg7_2 => ?_) ?_; rotate_left
  · have hg7_2' := hg7_2
    try simp only [decide_eq_true_eq, decide_eq_false_iff_not, Bool.and_eq_true, Bool.or_eq_true, Bool.not_eq_true', Bool.and_eq_false_iff, Bool.or_eq_false_iff, Bool.not_eq_false', Int.not_lt, Int.not_le, ne_eq, Decidable.not_not] at hg7_2'
    refine TOps.strip 2 true rfl rfl hg7_2 rfl ?_
    refine TOps.move rfl rfl ?_
    refine TOps.eqlNil (T := 47) (o := none) rfl Try.underlying29 rfl ?_
    refine TOps.blk rfl (by repeat (first | exact Ext.refl _ | refine Ext.cons rfl ?_)) (by repeat (first | exact Le.refl _ | apply Le.drop))
  refine TOps.move rfl rfl ?_
  refine' TOps.andB 2 rfl rfl rfl rfl (fun hg7_6 => ?_) ?_; rotate_left
  · have hg7_6' := hg7_6
    try simp only [decide_eq_true_eq, decide_eq_false_iff_not, Bool.and_eq_true, Bool.or_eq_true, Bool.not_eq_true', Bool.and_eq_false_iff, Bool.or_eq_false_iff, Bool.not_eq_false', Int.not_lt, Int.not_le, ne_eq, Decidable.not_not] at hg7_6'
    refine TOps.strip 6 true rfl rfl hg7_6 rfl ?_
    refine TOps.move rfl rfl ?_
    refine TOps.not rfl rfl ?_
    refine TOps.blk rfl (by repeat (first | exact Ext.refl _ | refine Ext.cons rfl ?_)) (by repeat (first | exact Le.refl _ | apply Le.drop))
  refine TOps.move rfl rfl ?_
  refine' TOps.andB 2 rfl rfl rfl rfl (fun hg7_10 => ?_) ?_; rotate_left
  · have hg7_10' := hg7_10
    try simp only [decide_eq_true_eq, decide_eq_false_iff_not, Bool.and_eq_true, Bool.or_eq_true, Bool.not_eq_true', Bool.and_eq_false_iff, Bool.or_eq_false_iff, Bool.not_eq_false', Int.not_lt, Int.not_le, ne_eq, Decidable.not_not] at hg7_10'
    refine TOps.strip 10 true rfl rfl hg7_10 rfl ?_
    refine TOps.move rfl rfl ?_
    refine TOps.eqlIr (r := true) rfl rfl rfl rfl ?_
    refine TOps.blk rfl (by repeat (first | exact Ext.refl _ | refine Ext.cons rfl ?_)) (by repeat (first | exact Le.refl _ | apply Le.drop))
  refine TOps.move rfl rfl ?_
  refine' TOps.andB 1 rfl rfl rfl rfl (fun hg7_14 => ?_) ?_; rotate_left
  · have hg7_14' := hg7_14
    try simp only [decide_eq_true_eq, decide_eq_false_iff_not, Bool.and_eq_true, Bool.or_eq_true, Bool.not_eq_true', Bool.and_eq_false_iff, Bool.or_eq_false_iff, Bool.not_eq_false', Int.not_lt, Int.not_le, ne_eq, Decidable.not_not] at hg7_14'
    refine TOps.strip 14 true rfl rfl hg7_14 rfl ?_
    refine TOps.move rfl rfl ?_
    refine TOps.blk rfl (by repeat (first | exact Ext.refl _ | refine Ext.cons rfl ?_)) (by repeat (first | exact Le.refl _ | apply Le.drop))
  refine TOps.move rfl rfl ?_
  refine' TOps.andB 3 rfl rfl rfl rfl (fun hg7_17 => ?_) ?_; rotate_left
  · have hg7_17' := hg7_17
    try simp only [decide_eq_true_eq, decide_eq_false_iff_not, Bool.and_eq_true, Bool.or_eq_true, Bool.not_eq_true', Bool.and_eq_false_iff, Bool.or_eq_false_iff, Bool.not_eq_false', Int.not_lt, Int.not_le, ne_eq, Decidable.not_not] at hg7_17'
    refine TOps.strip 17 true rfl rfl hg7_17 rfl ?_
    refine TOps.move rfl rfl ?_
    refine TOps.call (vs := [_]) Try.call14 ⟨rfl, trivial⟩ (mhealing_g (F := F) (nv := nv) (f := 6) (Rd.all (List.Mem.head _)) (hF3 _ _) hg (by rw [h8]; decide)) rfl ?_
    rintro _ _ ⟨rfl, rfl⟩
    rw [e9]
    refine TOps.eqlIr (r := true) rfl rfl rfl rfl ?_
    refine TOps.blk rfl (by repeat (first | exact Ext.refl _ | refine Ext.cons rfl ?_)) (by repeat (first | exact Le.refl _ | apply Le.drop))
  refine TOps.assign rfl rfl ?_
  refine TOps.next ?_
  refine Tri.ret1 (H' := H) Try.results8 (fun _ _ h => h) (.tmp rfl) (Le.drop (Le.drop l3)) ⟨rfl, rfl⟩
theorem samePlayed_g {H : List Ent} {l : List Pl} {a1 a2 : Option Nat} {c1 c2 m1 m2 : Nat} (hr1 : RdS H a1 0 (logCells l)) (hr2 : RdS H a2 0 (logCells l)) (h1 : l.length = m1) (h2 : l.length = m2) (hl : l.length ≤ 1000000) :
    Gives Try.prog 21 [slV a1 0 m1 c1, slV a2 0 m2 c2] H (R1 (.bool true) H) := by
  subst h1; subst h2
  refine Gives.enter Try.func21 rfl (by exact Try.ntmps21) rfl ?_
  refine Tri.seq (Tri.region ?_)
  refine TOps.assign rfl rfl ?_
  refine TOps.next ?_
  refine Tri.seq ?_
  refine Tri.seq (Tri.region ?_)
  refine TOps.move rfl rfl ?_
  refine TOps.len rfl Try.underlying39 rfl ?_
  refine TOps.move rfl rfl ?_
  refine TOps.len rfl Try.underlying39 rfl ?_
  refine TOps.neqIr (r := false) rfl rfl (by simp) rfl ?_
  refine TOps.next ?_
  refine Tri.cond rfl (fun hc1 => ?_) (fun hc1 => ?_)
  · exact absurd hc1 (by first | decide | simp)
  try simp only [decide_eq_true_eq, decide_eq_false_iff_not, Bool.and_eq_true, Bool.or_eq_true, Bool.not_eq_true', Bool.and_eq_false_iff, Bool.or_eq_false_iff, Bool.not_eq_false', Int.not_lt, Int.not_le, ne_eq, Decidable.not_not, Option.isSome_iff_ne_none, Option.isNone_iff_eq_none] at hc1
  refine Tri.fin ?_
  refine Nrm.next ?_
  refine Tri.seq ?_
  refine Tri.seq (Tri.region ?_)
  refine TOps.move rfl rfl ?_
  refine TOps.len rfl Try.underlying39 rfl ?_
  refine TOps.move rfl rfl ?_
  refine TOps.next ?_
  refine Tri.range (X := Unit) (fun x k => [(0, slV a1 0 l.length c1), (1, slV a2 0 l.length c2)]) (fun x k => H) (fun x k => True) (by omega) rfl rfl rfl (fun _ _ => ⟨rfl, rfl, rfl, rfl⟩) () trivial ⟨rfl, rfl, trivial⟩ (by repeat (first | exact Le.refl _ | assumption | apply Le.drop)) (fun k x hlt hp => ?_) (fun x ac wc hp hS hM => ?_)
  · skip
    obtain ⟨p1, rfl, -, q1⟩ := hr1.blk (k := k * 3) (ws := plCells l[k]) (by simp [plCells]) (logCells_get hlt)
    obtain ⟨p2, rfl, -, q2⟩ := hr2.blk (k := k * 3) (ws := plCells l[k]) (by simp [plCells]) (logCells_get hlt)
    rw [Nat.zero_add] at q1 q2
    refine Tri.seq (Tri.region ?_)
    refine TOps.move rfl rfl ?_
    refine TOps.assign rfl rfl ?_
    refine TOps.next ?_
    refine Tri.seq ?_
    refine Tri.drawC rfl [(0, slV (some p1) 0 l.length c1), (1, slV (some p2) 0 l.length c2), (12, .int .i64 l.length), (13, .int .i64 k), (5, .int .i64 k)] [] [_, _, _, _, _, _, _, _, _] (H) [8] rfl ⟨rfl, rfl, rfl, rfl, rfl, trivial⟩ trivial (by repeat (first | exact Le.refl _ | assumption | apply Le.drop)) (by
      refine ⟨?_, ?_, ?_, ?_, ?_, ?_, ?_, ?_, ?_, trivial⟩
      · refine ⟨fun x S c he hw hd hc hcu hm _ => ?_, trivial⟩
        refine TOps.move (he _ _ rfl) rfl ?_
        exact TOps.fin (Nrm.draw x (fun _ _ _ => rfl) rfl (by first | exact Le.refl _ | assumption | exact (by repeat (first | exact Le.refl _ | assumption | apply Le.drop))))
      · refine ⟨fun x S c he hw hd hc hcu hm _ => ?_, trivial⟩
        refine TOps.move (he _ _ rfl) rfl ?_
        exact TOps.fin (Nrm.draw x (fun _ _ _ => rfl) rfl (by first | exact Le.refl _ | assumption | exact (by repeat (first | exact Le.refl _ | assumption | apply Le.drop))))
      · refine ⟨fun x S c he hw hd hc hcu hm _ => ?_, trivial⟩
        obtain ⟨h0, h1, -⟩ := hd
        refine TOps.indexAddr (off' := k * 3) h0 h1 Try.underlying39 ti42 (by omega) (by omega) (by simp) rfl ?_
        exact TOps.fin (Nrm.draw x (fun _ _ _ => rfl) rfl (by first | exact Le.refl _ | assumption | exact (by repeat (first | exact Le.refl _ | assumption | apply Le.drop))))
      · refine ⟨fun x S c he hw hd hc hcu hm _ => ?_, trivial⟩
        obtain ⟨h2, -⟩ := hd
        refine TOps.loadN h2 ti42 q1 rfl rfl ?_
        exact TOps.fin (Nrm.draw x (fun _ _ _ => rfl) rfl (by first | exact Le.refl _ | assumption | exact (by repeat (first | exact Le.refl _ | assumption | apply Le.drop))))
      · refine ⟨fun x S c he hw hd hc hcu hm _ => ?_, trivial⟩
        refine TOps.move (he _ _ rfl) rfl ?_
        exact TOps.fin (Nrm.draw x (fun _ _ _ => rfl) rfl (by first | exact Le.refl _ | assumption | exact (by repeat (first | exact Le.refl _ | assumption | apply Le.drop))))
      · refine ⟨fun x S c he hw hd hc hcu hm _ => ?_, trivial⟩
        refine TOps.move (he _ _ rfl) rfl ?_
        exact TOps.fin (Nrm.draw x (fun _ _ _ => rfl) rfl (by first | exact Le.refl _ | assumption | exact (by repeat (first | exact Le.refl _ | assumption | apply Le.drop))))
      · refine ⟨fun x S c he hw hd hc hcu hm _ => ?_, trivial⟩
        obtain ⟨h4, h5, -⟩ := hd
        refine TOps.indexAddr (off' := k * 3) h4 h5 Try.underlying39 ti42 (by omega) (by omega) (by simp) rfl ?_
        exact TOps.fin (Nrm.draw x (fun _ _ _ => rfl) rfl (by first | exact Le.refl _ | assumption | exact (by repeat (first | exact Le.refl _ | assumption | apply Le.drop))))
      · refine ⟨fun x S c he hw hd hc hcu hm _ => ?_, trivial⟩
        obtain ⟨h6, -⟩ := hd
        refine TOps.loadN h6 ti42 q2 rfl rfl ?_
        exact TOps.fin (Nrm.draw x (fun _ _ _ => rfl) rfl (by first | exact Le.refl _ | assumption | exact (by repeat (first | exact Le.refl _ | assumption | apply Le.drop))))
      · refine ⟨fun x S c he hw hd hc hcu hm _ => ?_, trivial⟩
        obtain ⟨h3, h7, -⟩ := hd
        refine TOps.neqIBB (r := false) h3 h7 Try.underlying42 rfl rfl rfl Try.underlying3 Try.underlying4 rfl rfl rfl rfl rfl rfl ti3 ti4 (by kernel_rfl) (by kernel_rfl) (by simp) rfl ?_
        exact TOps.fin (Nrm.draw x (fun _ _ _ => rfl) rfl (by first | exact Le.refl _ | assumption | exact (by repeat (first | exact Le.refl _ | assumption | apply Le.drop))))
      ) ?_
    refine Nrm.next ?_
    refine Tri.cond rfl (fun hc2 => ?_) (fun hc2 => ?_)
    · exact absurd hc2 (by first | decide | simp)
    try simp only [decide_eq_true_eq, decide_eq_false_iff_not, Bool.and_eq_true, Bool.or_eq_true, Bool.not_eq_true', Bool.and_eq_false_iff, Bool.or_eq_false_iff, Bool.not_eq_false', Int.not_lt, Int.not_le, ne_eq, Decidable.not_not, Option.isSome_iff_ne_none, Option.isNone_iff_eq_none] at hc2
    refine Tri.fin ?_
    refine Nrm.body () trivial ⟨rfl, rfl, rfl, rfl, trivial⟩ (by repeat (first | exact Le.refl _ | assumption | apply Le.drop))
  refine Nrm.of hS hM ?_
  refine Nrm.next ?_
  refine Tri.seq (Tri.region ?_)
  refine TOps.assign rfl rfl ?_
  refine TOps.next ?_
  refine Tri.ret1 (H' := H) Try.results21 (fun _ _ h => h) (.tmp rfl) (Le.refl _) ⟨rfl, rfl⟩
theorem playedN_g {H : List Ent} {fv : Value} {F : Fm} (hF : RF H fv F) (hg : F.Good) {l : List (Int × Int)} {aa sp : Option Nat} {ao acap : Nat} (hr : RdS H aa ao (actCells l) sp) (hl : l.length ≤ 9223372036854775807) (hb : ∀ a ∈ l, 0 ≤ a.1 ∧ a.1 ≤ 255) :
    Gives Try.prog 11 [fv, slV aa ao l.length acap sp] H (fun u H' => ∃ m nv la lcap N, u = .pointer (some ⟨m, 0, none⟩) ∧ RF N (.agg (List.toArray [.int .i64 F.vars, nv, .int .i64 F.top])) F ∧ ((F.acts l).log ≠ [] → ∃ b, la = some b) ∧ row (some m) 70 5 1 [.int .i64 F.vars, nv, .int .i64 F.top, .int .i64 (F.acts l).f, slV la 0 (F.acts l).log.length lcap] :: row la 42 3 lcap (logCells (F.acts l).log) :: (N ++ H) = H') := by
  have hF0 := hF
  obtain ⟨na, off, cap, nsp, rfl, hN⟩ := hF
  refine Gives.enter Try.func11 rfl (by exact Try.ntmps11) rfl ?_
  refine Tri.seq (Tri.region ?_)
  refine TOps.boxN rfl ti24 rfl rfl (fun b2 => ?_)
  refine TOps.hide (fun H1 l1 s1 r1 => ?_)
  replace hF0 := hF0.le l1; replace hr := RdS.le hr l1
  refine TOps.assign rfl rfl ?_
  refine TOps.next ?_
  refine Tri.seq (Tri.region ?_)
  refine TOps.loadN rfl ti24 (by first | exact Rd.all (by repeat (first | exact List.Mem.head _ | apply List.Mem.tail)) | (repeat (first | assumption | apply Rd.up))) rfl rfl ?_
  refine TOps.call (vs := [_]) Try.call17 ⟨rfl, trivial⟩ (newN_g hF0 hg) rfl ?_
  rintro _ _ ⟨m, nv, N, rfl, hFN, rfl⟩
  obtain ⟨H2, hH2⟩ : ∃ H2, H2 = N ++ H1 := ⟨_, rfl⟩
  rw [← hH2]
  have l2 : Le H2 H1 := by rw [hH2]; exact Le.sub (List.sublist_append_right _ _)
  have hF2 : RF H2 (.agg (List.toArray [.int .i64 F.vars, nv, .int .i64 F.top])) F := by rw [hH2]; exact hFN.le (Le.sub (List.sublist_append_left _ _))
  replace hr := RdS.le hr l2
  refine TOps.move rfl rfl ?_
  refine TOps.extract rfl rfl rfl ?_
  refine TOps.extract rfl rfl rfl ?_
  refine TOps.assign rfl rfl ?_
  refine TOps.assign rfl rfl ?_
  refine TOps.next ?_
  refine Tri.seq ?_
  refine Tri.seq (Tri.region ?_)
  refine TOps.move rfl rfl ?_
  refine TOps.neqNil (T := 47) (o := none) rfl Try.underlying29 rfl ?_
  refine TOps.next ?_
  refine Tri.cond rfl (fun hc1 => ?_) (fun hc1 => ?_)
  · exact absurd hc1 (by first | decide | simp)
  try simp only [decide_eq_true_eq, decide_eq_false_iff_not, Bool.and_eq_true, Bool.or_eq_true, Bool.not_eq_true', Bool.and_eq_false_iff, Bool.or_eq_false_iff, Bool.not_eq_false', Int.not_lt, Int.not_le, ne_eq, Decidable.not_not, Option.isSome_iff_ne_none, Option.isNone_iff_eq_none] at hc1
  refine Tri.fin ?_
  refine Nrm.next ?_
  refine Tri.seq ?_
  refine Tri.seq (Tri.region ?_)
  refine TOps.move rfl rfl ?_
  refine TOps.len rfl Try.underlying25 rfl ?_
  refine TOps.move rfl rfl ?_
  refine TOps.next ?_
  refine Tri.range (X := Option Nat × Nat) (fun x k => [(5, .pointer (some ⟨m, 0, none⟩)), (16, slV aa ao l.length acap sp)]) (fun x k => row (some m) 70 5 1 [.int .i64 F.vars, nv, .int .i64 F.top, .int .i64 (F.acts (l.take k)).f, slV x.1 0 (F.acts (l.take k)).log.length x.2] :: row x.1 42 3 x.2 (logCells (F.acts (l.take k)).log) :: H2) (fun x k => (F.acts (l.take k)).log ≠ [] → ∃ b, x.1 = some b) (by omega) rfl rfl rfl (fun _ _ => ⟨rfl, rfl, rfl, rfl⟩) (none, 0) (fun h => absurd rfl h) ⟨rfl, rfl, trivial⟩ (Le.refl _) (fun k x hlt hp => ?_) (fun x ac wc hp hS hM => ?_)
  · skip
    obtain ⟨la, lcap⟩ := x
    dsimp only at hp ⊢
    obtain ⟨p1, rfl, rfl, q1⟩ := hr.blk (k := k * 2) (ws := [.int .u8 l[k].1, .int .i64 l[k].2]) (by simp) (actCells_get hlt)
    have hbk := hb _ (List.getElem_mem hlt)
    have hact := F.acts_succ hlt
    have hok := (Reach.acts F (l.take k)).ok
    generalize F.acts (l.take k) = Z at *
    generalize l[k] = ac at *
    refine Tri.seq (Tri.region ?_)
    refine TOps.indexAddr (off' := ao + k * 2) rfl rfl Try.underlying25 ti55 (by omega) (by omega) (by simp) rfl ?_
    refine TOps.loadN rfl ti55 (Rd.up (Rd.up q1)) rfl rfl ?_
    refine TOps.alloc ti55 rfl (fun b8 => ?_)
    refine TOps.storeN rfl rfl ti55 rfl rfl (by repeat (first | exact Upd.here | apply Upd.there)) (by first | decide | (simp; done) | (simp; omega)) ?_
    refine TOps.le (H' := row (some m) 70 5 1 [.int .i64 F.vars, nv, .int .i64 F.top, .int .i64 Z.f, slV la 0 Z.log.length lcap] :: row la 42 3 lcap (logCells Z.log) :: row (some b8) 55 2 1 [.int .u8 ac.1, .int .i64 ac.2] :: H2) (Sp.le (by repeat (first | exact Sp.refl _ | exact Sp.sub (by assumption) | refine Sp.cons (by repeat (first | exact Pick.here | apply Pick.there)) ?_ | exact Sp.nil | apply Sp.skip))) ?_
    have hF3 : RF (row (some b8) 55 2 1 [.int .u8 ac.1, .int .i64 ac.2] :: H2) (.agg (List.toArray [.int .i64 F.vars, nv, .int .i64 F.top])) F := hF2.le (Le.drop (Le.refl _))
    refine TOps.next ?_
    refine Tri.seq (Tri.region ?_)
    refine TOps.field0 rfl Try.underlying55 rfl rfl ti5 rfl rfl rfl ?_
    refine TOps.load1 rfl ti5 (by first | exact Rd.lit (by repeat (first | exact List.Mem.head _ | apply List.Mem.tail)) rfl | (repeat (first | assumption | exact Rd.fld (by assumption) 0 rfl | apply Rd.up))) rfl ?_
    refine TOps.rem rfl rfl (by decide) rfl rfl ?_
    refine TOps.next ?_
    refine Tri.block ?_
    refine Tri.seq (Tri.region ?_)
    refine TOps.eqlI rfl rfl rfl ?_
    refine TOps.assign rfl rfl ?_
    refine TOps.next ?_
    refine Tri.cond rfl (fun hc2 => ?_) (fun hc2 => ?_)
    · try simp only [decide_eq_true_eq, decide_eq_false_iff_not, Bool.and_eq_true, Bool.or_eq_true, Bool.not_eq_true', Bool.and_eq_false_iff, Bool.or_eq_false_iff, Bool.not_eq_false', Int.not_lt, Int.not_le, ne_eq, Decidable.not_not, Option.isSome_iff_ne_none, Option.isNone_iff_eq_none] at hc2
      have hac : F.act Z ac = Z.undo := if_pos hc2
      refine Tri.region ?_
      refine TOps.move rfl rfl ?_
      refine TOps.call (vs := [_]) Try.call22 ⟨rfl, trivial⟩ (mundo_g hg hok hp) rfl ?_
      rintro _ _ ⟨hla', rfl, rfl⟩
      refine TOps.fin ?_
      refine Nrm.unB ?_
      first
       | refine Nrm.body (la', lcap') (by rw [hact, hac]; exact hla') ⟨rfl, rfl, rfl, rfl, trivial⟩ (by rw [hact, hac]; exact (Sp.le (by repeat (first | exact Sp.refl _ | exact Sp.sub (by assumption) | refine Sp.cons (by repeat (first | exact Pick.here | apply Pick.there)) ?_ | exact Sp.nil | apply Sp.skip))))
       | refine Nrm.body (la, lcap) (by rw [hact, hac]; exact hla') ⟨rfl, rfl, rfl, rfl, trivial⟩ (by rw [hact, hac]; exact (Sp.le (by repeat (first | exact Sp.refl _ | exact Sp.sub (by assumption) | refine Sp.cons (by repeat (first | exact Pick.here | apply Pick.there)) ?_ | exact Sp.nil | apply Sp.skip))))
    try simp only [decide_eq_true_eq, decide_eq_false_iff_not, Bool.and_eq_true, Bool.or_eq_true, Bool.not_eq_true', Bool.and_eq_false_iff, Bool.or_eq_false_iff, Bool.not_eq_false', Int.not_lt, Int.not_le, ne_eq, Decidable.not_not, Option.isSome_iff_ne_none, Option.isNone_iff_eq_none] at hc2
    skip
    refine Tri.seq (Tri.region ?_)
    refine TOps.eqlI rfl rfl rfl ?_
    refine TOps.assign rfl rfl ?_
    refine TOps.next ?_
    refine Tri.cond rfl (fun hc3 => ?_) (fun hc3 => ?_)
    · try simp only [decide_eq_true_eq, decide_eq_false_iff_not, Bool.and_eq_true, Bool.or_eq_true, Bool.not_eq_true', Bool.and_eq_false_iff, Bool.or_eq_false_iff, Bool.not_eq_false', Int.not_lt, Int.not_le, ne_eq, Decidable.not_not, Option.isSome_iff_ne_none, Option.isNone_iff_eq_none] at hc3
      have hac : F.act Z ac = F.play Z ac.2 false := by unfold Fm.act; rw [if_neg hc2, if_pos hc3]
      refine Tri.region ?_
      refine TOps.move rfl rfl ?_
      first | refine TOps.fieldB 1 rfl Try.underlying55 rfl rfl ti3 rfl rfl rfl ?_ | refine TOps.fieldN 1 rfl Try.underlying55 rfl rfl ti3 rfl rfl rfl ?_
      refine TOps.load1 rfl ti3 (by first | exact Rd.lit (by repeat (first | exact List.Mem.head _ | apply List.Mem.tail)) rfl | (repeat (first | assumption | exact Rd.fld (by assumption) 1 rfl | apply Rd.up))) rfl ?_
      refine TOps.call (vs := [_, _]) Try.call20 ⟨rfl, rfl, trivial⟩ (mrepair_g hF3 hg hok hp ac.2) rfl ?_
      rintro _ _ ⟨la', lcap', hla', rfl, rfl⟩
      refine TOps.move rfl rfl ?_
      refine TOps.extract rfl rfl rfl ?_
      refine TOps.extract rfl rfl rfl ?_
      refine TOps.fin ?_
      refine Nrm.unB ?_
      first
       | refine Nrm.body (la', lcap') (by rw [hact, hac]; exact hla') ⟨rfl, rfl, rfl, rfl, trivial⟩ (by rw [hact, hac]; exact (Sp.le (by repeat (first | exact Sp.refl _ | exact Sp.sub (by assumption) | refine Sp.cons (by repeat (first | exact Pick.here | apply Pick.there)) ?_ | exact Sp.nil | apply Sp.skip))))
       | refine Nrm.body (la, lcap) (by rw [hact, hac]; exact hla') ⟨rfl, rfl, rfl, rfl, trivial⟩ (by rw [hact, hac]; exact (Sp.le (by repeat (first | exact Sp.refl _ | exact Sp.sub (by assumption) | refine Sp.cons (by repeat (first | exact Pick.here | apply Pick.there)) ?_ | exact Sp.nil | apply Sp.skip))))
    try simp only [decide_eq_true_eq, decide_eq_false_iff_not, Bool.and_eq_true, Bool.or_eq_true, Bool.not_eq_true', Bool.and_eq_false_iff, Bool.or_eq_false_iff, Bool.not_eq_false', Int.not_lt, Int.not_le, ne_eq, Decidable.not_not, Option.isSome_iff_ne_none, Option.isNone_iff_eq_none] at hc3
    have hac : F.act Z ac = F.play Z ac.2 true := by unfold Fm.act; rw [if_neg hc2, if_neg hc3]
    refine Tri.region ?_
    refine TOps.move rfl rfl ?_
    first | refine TOps.fieldB 1 rfl Try.underlying55 rfl rfl ti3 rfl rfl rfl ?_ | refine TOps.fieldN 1 rfl Try.underlying55 rfl rfl ti3 rfl rfl rfl ?_
    refine TOps.load1 rfl ti3 (by first | exact Rd.lit (by repeat (first | exact List.Mem.head _ | apply List.Mem.tail)) rfl | (repeat (first | assumption | exact Rd.fld (by assumption) 1 rfl | apply Rd.up))) rfl ?_
    refine TOps.call (vs := [_, _]) Try.call19 ⟨rfl, rfl, trivial⟩ (mfail_g hF3 hg hok hp ac.2) rfl ?_
    rintro _ _ ⟨la', lcap', hla', rfl, rfl⟩
    refine TOps.move rfl rfl ?_
    refine TOps.extract rfl rfl rfl ?_
    refine TOps.extract rfl rfl rfl ?_
    refine TOps.fin ?_
    refine Nrm.unB ?_
    first
     | refine Nrm.body (la', lcap') (by rw [hact, hac]; exact hla') ⟨rfl, rfl, rfl, rfl, trivial⟩ (by rw [hact, hac]; exact (Sp.le (by repeat (first | exact Sp.refl _ | exact Sp.sub (by assumption) | refine Sp.cons (by repeat (first | exact Pick.here | apply Pick.there)) ?_ | exact Sp.nil | apply Sp.skip))))
     | refine Nrm.body (la, lcap) (by rw [hact, hac]; exact hla') ⟨rfl, rfl, rfl, rfl, trivial⟩ (by rw [hact, hac]; exact (Sp.le (by repeat (first | exact Sp.refl _ | exact Sp.sub (by assumption) | refine Sp.cons (by repeat (first | exact Pick.here | apply Pick.there)) ?_ | exact Sp.nil | apply Sp.skip))))
  rw [List.take_length] at hM hp
  refine Nrm.of hS hM ?_
  refine Nrm.next ?_
  refine Tri.seq (Tri.region ?_)
  refine TOps.move rfl rfl ?_
  refine TOps.assign rfl rfl ?_
  refine TOps.next ?_
  subst hH2
  refine Tri.ret1 (H' := row (some m) 70 5 1 [.int .i64 F.vars, nv, .int .i64 F.top, .int .i64 (F.acts l).f, slV x.1 0 (F.acts l).log.length x.2] :: row x.1 42 3 x.2 (logCells (F.acts l).log) :: (N ++ H)) Try.results11 (fun _ _ h => h) (.tmp rfl) (Le.sub (List.Sublist.cons_cons _ (List.Sublist.cons_cons _ (List.Sublist.append_left s1 _)))) ⟨m, nv, x.1, x.2, N, rfl, hFN, hp, rfl⟩
theorem played_g {H : List Ent} {fv : Value} {F : Fm} (hF : RF H fv F) (hg : F.Good) {l : List (Int × Int)} {aa sp : Option Nat} {ao acap : Nat} (hr : RdS H aa ao (actCells l) sp) (hl : l.length ≤ 9223372036854775807) (hb : ∀ a ∈ l, 0 ≤ a.1 ∧ a.1 ≤ 255) :
    Gives Try.prog 11 [fv, slV aa ao l.length acap sp] H (fun u H' => ∃ m nv la lcap H2, u = .pointer (some ⟨m, 0, none⟩) ∧ Le H2 H ∧ H.Sublist H2 ∧ RF H2 (.agg (List.toArray [.int .i64 F.vars, nv, .int .i64 F.top])) F ∧ ((F.acts l).log ≠ [] → ∃ b, la = some b) ∧ row (some m) 70 5 1 [.int .i64 F.vars, nv, .int .i64 F.top, .int .i64 (F.acts l).f, slV la 0 (F.acts l).log.length lcap] :: row la 42 3 lcap (logCells (F.acts l).log) :: H2 = H') := by
  intro w hM
  refine (playedN_g hF hg hr hl hb w hM).mono fun e W' h => ?_
  obtain ⟨v, H', ⟨m, nv, la, lcap, N, h1, h2, h3, h3'⟩, h4, h5⟩ := h
  exact ⟨v, H', ⟨m, nv, la, lcap, N ++ H, h1, Le.sub (List.sublist_append_right _ _), List.sublist_append_right _ _, h2.le (Le.sub (List.sublist_append_left _ _)), h3, h3'⟩, h4, h5⟩
end Go.Proofs
