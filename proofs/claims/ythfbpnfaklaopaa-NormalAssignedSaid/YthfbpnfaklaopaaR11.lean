import Derived.Test.YthfbpnfaklaopaaM11
import Derived.Test.YthfbpnfaklaopaaGL74
namespace Go.Proofs
open Go.GL
set_option linter.unusedVariables false
set_option linter.unusedSimpArgs false
set_option maxHeartbeats 2000000 in
theorem assign_g {H : List Ent} {fv : Value} {F : Fm} (hF : RF H fv F) (hk : F.ok) (cy cn : Int) :
    Gives Try.prog 19 [fv, .agg (List.toArray [.int .i64 cy, .int .i64 cn])] H (NewN 47 (F.asgF cy cn) (F.asgE cy cn) H) := by
  have hF0 := hF
  obtain ⟨na, off, cap, nsp, rfl, hN⟩ := hF
  refine Gives.enter Try.func19 rfl (by exact Try.ntmps19) rfl ?_
  refine Tri.seq (Tri.region ?_)
  refine TOps.boxN rfl ti24 rfl rfl (fun b2 => ?_)
  refine TOps.hide (fun H1 l1 s1 r2 => ?_)
  replace hF0 := hF0.le l1
  refine TOps.boxN rfl ti39 rfl rfl (fun b3 => ?_)
  refine TOps.hide (fun H2 l2 s2 r3 => ?_)
  replace hF0 := hF0.le l2; replace r2 := r2.le l2
  have r3 : Rd H2 b3 0 [.int .i64 cy, .int .i64 cn] := r3
  refine TOps.alloc ti24 rfl (fun b4 => ?_)
  refine TOps.assign rfl rfl ?_
  refine TOps.next ?_
  refine Tri.seq ?_
  refine Tri.seq (Tri.region ?_)
  refine TOps.loadN rfl ti24 (by first | exact Rd.all (by repeat (first | exact List.Mem.head _ | apply List.Mem.tail)) | (repeat (first | assumption | apply Rd.up))) rfl rfl ?_
  refine TOps.call (vs := [_]) Try.call21 ⟨rfl, trivial⟩ (check_g (hF0.le (Le.drop (Le.refl _))) hk) rfl ?_
  rintro _ _ ⟨rfl, rfl⟩
  refine TOps.assign rfl rfl ?_
  refine TOps.next ?_
  refine Tri.seq (Tri.region ?_)
  refine TOps.move rfl rfl ?_
  refine TOps.neqNil rfl Try.underlying28 rfl ?_
  refine TOps.next ?_
  refine Tri.cond rfl (fun hc1 => ?_) (fun hc1 => ?_)
  · try simp only [decide_eq_true_eq, decide_eq_false_iff_not, Bool.and_eq_true, Bool.or_eq_true, Bool.not_eq_true', Bool.and_eq_false_iff, Bool.or_eq_false_iff, Bool.not_eq_false', Int.not_lt, Int.not_le, ne_eq, Decidable.not_not, Option.isSome_iff_ne_none, Option.isNone_iff_eq_none] at hc1
    obtain ⟨er, her⟩ := Option.ne_none_iff_exists'.1 hc1
    have hce : F.cubeErr cy cn = some er := by unfold Fm.cubeErr; rw [her]
    refine Tri.seq (Tri.region ?_)
    refine TOps.buildStruct (vs := []) (xs := [_, _, _]) [(0, 1), (1, 1), (2, 1)] Try.underlying24 ti24 (fun w => by simp) trivial rfl rfl ?_
    refine TOps.move rfl rfl ?_
    refine TOps.storeN rfl rfl ti24 rfl rfl (by repeat (first | exact Upd.here | apply Upd.there)) (by first | decide | (simp; done) | (simp; omega)) ?_
    refine TOps.assign rfl rfl ?_
    refine TOps.next ?_
    refine Tri.ret2 (H' := H) Try.results19 (fun _ _ h => h) (.cellN rfl rfl ti24 (Rd.all (by repeat (first | exact List.Mem.head _ | apply List.Mem.tail))) rfl) (.tmp rfl) (Le.drop (l2.trans l1)) ⟨none, 0, [], ?_, ?_, rfl⟩
    · rw [show F.asgE cy cn = F.err from by unfold Fm.asgE; rw [hce, her], show F.asgF cy cn = Fm.zero from by unfold Fm.asgF; rw [hce]]; rfl
    · rw [show F.asgF cy cn = Fm.zero from by unfold Fm.asgF; rw [hce]]; exact .inl rfl
  try simp only [decide_eq_true_eq, decide_eq_false_iff_not, Bool.and_eq_true, Bool.or_eq_true, Bool.not_eq_true', Bool.and_eq_false_iff, Bool.or_eq_false_iff, Bool.not_eq_false', Int.not_lt, Int.not_le, ne_eq, Decidable.not_not, Option.isSome_iff_ne_none, Option.isNone_iff_eq_none] at hc1
  have he : F.err = none := by simpa using hc1
  have hg := (Fm.good_iff F).1 he
  have g0 := hg.v0; have g1 := hg.v1; have g2 := hg.n1; have gt := hg.topLt
  have hc0 : F.cubeErr cy cn = if cy < 0 ∨ ((2 ^ F.vars.toNat : Nat) : Int) ≤ cy ∨ cn < 0 ∨ ((2 ^ F.vars.toNat : Nat) : Int) ≤ cn then some 3 else if iand cy cn ≠ 0 then some 6 else none := by unfold Fm.cubeErr; rw [he]
  refine Tri.fin ?_
  refine Nrm.next ?_
  refine Tri.seqMid (X := Unit) (fun y => [(2, .pointer (some ⟨b2, 0, none⟩)), (3, .pointer (some ⟨b3, 0, none⟩)), (4, .pointer (some ⟨b4, 0, none⟩))]) (fun y => row (some b4) 24 3 1 [.int .i64 0, slV none 0 0 0, .int .i64 0] :: H2) (fun y => ¬ (cy < 0 ∨ ((2 ^ F.vars.toNat : Nat) : Int) ≤ cy ∨ cn < 0 ∨ ((2 ^ F.vars.toNat : Nat) : Int) ≤ cn)) ?_ (fun y hmid => ?_)
  · skip
    refine Tri.seq ?_
    rcases four (a := cy) (b := cn) (t := ((2 ^ F.vars.toNat : Nat) : Int)) with q2 | ⟨q2, q9⟩ | ⟨q2, q9, q14⟩ | ⟨q2, q9, q14⟩
    · skip
      have hP : decide (cy < 0 ∨ ((2 ^ F.vars.toNat : Nat) : Int) ≤ cy ∨ cn < 0 ∨ ((2 ^ F.vars.toNat : Nat) : Int) ≤ cn) = true := decide_eq_true (.inl (of_decide_eq_true q2))
      refine Tri.drawC rfl [(2, .pointer (some ⟨b2, 0, none⟩)), (3, .pointer (some ⟨b3, 0, none⟩)), (4, .pointer (some ⟨b4, 0, none⟩))] [] [_, _, _, _, _, _, _, _, _, _, _, _, _, _, _, _, _, _, _, _, _, _, _, _] (row (some b4) 24 3 1 [.int .i64 0, slV none 0 0 0, .int .i64 0] :: H2) [23] rfl ⟨rfl, rfl, rfl, trivial⟩ trivial (by repeat (first | exact Le.refl _ | assumption | apply Le.drop)) (by
        refine ⟨?_, ?_, ?_, ?_, ?_, ?_, ?_, ?_, ?_, ?_, ?_, ?_, ?_, ?_, ?_, ?_, ?_, ?_, ?_, ?_, ?_, ?_, ?_, ?_, trivial⟩
        · refine ⟨fun x S c he hw hd hc hcu hm _ => ?_, trivial⟩
          refine TOps.field0 (he _ _ rfl) Try.underlying39 rfl rfl ti3 rfl rfl rfl ?_
          exact TOps.fin (Nrm.draw x (fun _ _ _ => rfl) rfl (by first | exact Le.refl _ | assumption | exact (by repeat (first | exact Le.refl _ | assumption | apply Le.drop))))
        · refine ⟨fun x S c he hw hd hc hcu hm _ => ?_, trivial⟩
          obtain ⟨h0, -⟩ := hd
          refine TOps.load1 h0 ti3 (by first | exact Rd.lit (by repeat (first | exact List.Mem.head _ | apply List.Mem.tail)) rfl | (repeat (first | assumption | exact Rd.fld (by assumption) 0 rfl | apply Rd.up))) rfl ?_
          exact TOps.fin (Nrm.draw x (fun _ _ _ => rfl) rfl (by first | exact Le.refl _ | assumption | exact (by repeat (first | exact Le.refl _ | assumption | apply Le.drop))))
        · refine ⟨fun x S c he hw hd hc hcu hm _ => ?_, trivial⟩
          obtain ⟨h1, -⟩ := hd
          refine TOps.lssr h1 rfl q2 rfl ?_
          exact TOps.fin (Nrm.draw x (fun _ _ _ => rfl) rfl (by first | exact Le.refl _ | assumption | exact (by repeat (first | exact Le.refl _ | assumption | apply Le.drop))))
        · refine ⟨fun x S c he hw hd hc hcu hm _ => ?_, trivial⟩
          obtain ⟨h2, -⟩ := hd
          refine TOps.move h2 rfl ?_
          exact TOps.fin (Nrm.draw x (fun _ _ _ => rfl) rfl (by first | exact Le.refl _ | assumption | exact (by repeat (first | exact Le.refl _ | assumption | apply Le.drop))))
        · refine ⟨fun x S c he hw hd hc hcu hm hgd => ?_, ⟨_, rfl⟩, .inl ⟨rfl, fun x => .inr ⟨.inl rfl, rfl⟩⟩⟩
          exact absurd hgd (by first | (intro h; cases h; done) | simp_all)
        · refine ⟨fun x S c he hw hd hc hcu hm hgd => ?_, ⟨_, rfl⟩, .inl ⟨rfl, fun x => .inr ⟨.inl rfl, rfl⟩⟩⟩
          exact absurd hgd (by first | (intro h; cases h; done) | simp_all)
        · refine ⟨fun x S c he hw hd hc hcu hm hgd => ?_, ⟨_, rfl⟩, .inl ⟨rfl, fun x => .inr ⟨.inl rfl, rfl⟩⟩⟩
          exact absurd hgd (by first | (intro h; cases h; done) | simp_all)
        · refine ⟨fun x S c he hw hd hc hcu hm hgd => ?_, ⟨_, rfl⟩, .inl ⟨rfl, fun x => .inr ⟨.inl rfl, rfl⟩⟩⟩
          exact absurd hgd (by first | (intro h; cases h; done) | simp_all)
        · refine ⟨fun x S c he hw hd hc hcu hm hgd => ?_, ⟨_, rfl⟩, .inl ⟨rfl, fun x => .inr ⟨.inl rfl, rfl⟩⟩⟩
          exact absurd hgd (by first | (intro h; cases h; done) | simp_all)
        · refine ⟨fun x S c he hw hd hc hcu hm hgd => ?_, ⟨_, rfl⟩, .inl ⟨rfl, fun x => .inr ⟨.inl rfl, rfl⟩⟩⟩
          exact absurd hgd (by first | (intro h; cases h; done) | simp_all)
        · refine ⟨fun x S c he hw hd hc hcu hm _ => ?_, trivial⟩
          obtain ⟨h3, h9, -⟩ := hd
          refine TOps.pick h3 rfl h9 rfl ?_
          exact TOps.fin (Nrm.draw x (fun _ _ _ => rfl) rfl (by first | exact Le.refl _ | assumption | exact (by repeat (first | exact Le.refl _ | assumption | apply Le.drop))))
        · refine ⟨fun x S c he hw hd hc hcu hm _ => ?_, trivial⟩
          obtain ⟨h10, h3, -⟩ := hd
          refine TOps.move h10 rfl ?_
          exact TOps.fin (Nrm.draw x (fun _ _ _ => rfl) rfl (by first | exact Le.refl _ | assumption | exact (by repeat (first | exact Le.refl _ | assumption | apply Le.drop))))
        · refine ⟨fun x S c he hw hd hc hcu hm hgd => ?_, ⟨_, rfl⟩, .inl ⟨rfl, fun x => .inr ⟨.inl rfl, rfl⟩⟩⟩
          exact absurd hgd (by first | (intro h; cases h; done) | simp_all)
        · refine ⟨fun x S c he hw hd hc hcu hm hgd => ?_, ⟨_, rfl⟩, .inl ⟨rfl, fun x => .inr ⟨.inl rfl, rfl⟩⟩⟩
          exact absurd hgd (by first | (intro h; cases h; done) | simp_all)
        · refine ⟨fun x S c he hw hd hc hcu hm hgd => ?_, ⟨_, rfl⟩, .inl ⟨rfl, fun x => .inr ⟨.inl rfl, rfl⟩⟩⟩
          exact absurd hgd (by first | (intro h; cases h; done) | simp_all)
        · refine ⟨fun x S c he hw hd hc hcu hm _ => ?_, trivial⟩
          obtain ⟨h11, h14, -⟩ := hd
          refine TOps.pick h11 rfl h14 rfl ?_
          exact TOps.fin (Nrm.draw x (fun _ _ _ => rfl) rfl (by first | exact Le.refl _ | assumption | exact (by repeat (first | exact Le.refl _ | assumption | apply Le.drop))))
        · refine ⟨fun x S c he hw hd hc hcu hm _ => ?_, trivial⟩
          obtain ⟨h15, h11, -⟩ := hd
          refine TOps.move h15 rfl ?_
          exact TOps.fin (Nrm.draw x (fun _ _ _ => rfl) rfl (by first | exact Le.refl _ | assumption | exact (by repeat (first | exact Le.refl _ | assumption | apply Le.drop))))
        · refine ⟨fun x S c he hw hd hc hcu hm hgd => ?_, ⟨_, rfl⟩, .inl ⟨rfl, fun x => .inr ⟨.inl rfl, rfl⟩⟩⟩
          exact absurd hgd (by first | (intro h; cases h; done) | simp_all)
        · refine ⟨fun x S c he hw hd hc hcu hm hgd => ?_, ⟨_, rfl⟩, .inl ⟨rfl, fun x => .inr ⟨.inl rfl, rfl⟩⟩⟩
          exact absurd hgd (by first | (intro h; cases h; done) | simp_all)
        · refine ⟨fun x S c he hw hd hc hcu hm hgd => ?_, ⟨_, rfl⟩, .inl ⟨rfl, fun x => .inr ⟨.inl rfl, rfl⟩⟩⟩
          exact absurd hgd (by first | (intro h; cases h; done) | simp_all)
        · refine ⟨fun x S c he hw hd hc hcu hm hgd => ?_, ⟨_, rfl⟩, .inl ⟨rfl, fun x => .inr ⟨.inl rfl, rfl⟩⟩⟩
          exact absurd hgd (by first | (intro h; cases h; done) | simp_all)
        · refine ⟨fun x S c he hw hd hc hcu hm hgd => ?_, ⟨_, rfl⟩, .inl ⟨rfl, fun x => .inr ⟨.inl rfl, rfl⟩⟩⟩
          exact absurd hgd (by first | (intro h; cases h; done) | simp_all)
        · refine ⟨fun x S c he hw hd hc hcu hm hgd => ?_, ⟨_, rfl⟩, .inl ⟨rfl, fun x => .inr ⟨.inl rfl, rfl⟩⟩⟩
          exact absurd hgd (by first | (intro h; cases h; done) | simp_all)
        · refine ⟨fun x S c he hw hd hc hcu hm _ => ?_, trivial⟩
          obtain ⟨h16, h22, -⟩ := hd
          refine TOps.pickr (r := .bool (decide (cy < 0 ∨ ((2 ^ F.vars.toNat : Nat) : Int) ≤ cy ∨ cn < 0 ∨ ((2 ^ F.vars.toNat : Nat) : Int) ≤ cn))) h16 rfl h22 (by rw [hP]; rfl) rfl ?_
          exact TOps.fin (Nrm.draw x (fun _ _ _ => rfl) rfl (by first | exact Le.refl _ | assumption | exact (by repeat (first | exact Le.refl _ | assumption | apply Le.drop))))
        ) ?_
      refine Nrm.next ?_
      refine Tri.cond rfl (fun hc2 => ?_) (fun hc2 => ?_)
      · try simp only [decide_eq_true_eq, decide_eq_false_iff_not, Bool.and_eq_true, Bool.or_eq_true, Bool.not_eq_true', Bool.and_eq_false_iff, Bool.or_eq_false_iff, Bool.not_eq_false', Int.not_lt, Int.not_le, ne_eq, Decidable.not_not, Option.isSome_iff_ne_none, Option.isNone_iff_eq_none] at hc2
        have hce : F.cubeErr cy cn = some 3 := by rw [hc0, if_pos (by omega)]
        refine Tri.seq (Tri.region ?_)
        refine TOps.buildStruct (vs := []) (xs := [_, _, _]) [(0, 1), (1, 1), (2, 1)] Try.underlying24 ti24 (fun w => by simp) trivial rfl rfl ?_
        refine TOps.makeInterface rfl Try.underlying47 rfl rfl ?_
        refine TOps.storeN rfl rfl ti24 rfl rfl (by repeat (first | exact Upd.here | apply Upd.there)) (by first | decide | (simp; done) | (simp; omega)) ?_
        refine TOps.assign rfl rfl ?_
        refine TOps.next ?_
        refine Tri.ret2 (H' := H) Try.results19 (fun _ _ h => h) (.cellN rfl rfl ti24 (Rd.all (by repeat (first | exact List.Mem.head _ | apply List.Mem.tail))) rfl) (.tmp rfl) (Le.drop (l2.trans l1)) ⟨none, 0, [], ?_, ?_, rfl⟩
        · rw [show F.asgE cy cn = some 3 from by unfold Fm.asgE; rw [hce], show F.asgF cy cn = Fm.zero from by unfold Fm.asgF; rw [hce]]; rfl
        · rw [show F.asgF cy cn = Fm.zero from by unfold Fm.asgF; rw [hce]]; exact .inl rfl
      try simp only [decide_eq_true_eq, decide_eq_false_iff_not, Bool.and_eq_true, Bool.or_eq_true, Bool.not_eq_true', Bool.and_eq_false_iff, Bool.or_eq_false_iff, Bool.not_eq_false', Int.not_lt, Int.not_le, ne_eq, Decidable.not_not, Option.isSome_iff_ne_none, Option.isNone_iff_eq_none] at hc2
      refine Tri.fin ?_
      refine Nrm.mid () (by omega) (by exact ⟨rfl, rfl, rfl, trivial⟩) (by repeat (first | exact Le.refl _ | assumption | apply Le.drop))
    · skip
      have hP : decide (cy < 0 ∨ ((2 ^ F.vars.toNat : Nat) : Int) ≤ cy ∨ cn < 0 ∨ ((2 ^ F.vars.toNat : Nat) : Int) ≤ cn) = true := decide_eq_true (.inr (.inl (of_decide_eq_true q9)))
      refine Tri.drawC rfl [(2, .pointer (some ⟨b2, 0, none⟩)), (3, .pointer (some ⟨b3, 0, none⟩)), (4, .pointer (some ⟨b4, 0, none⟩))] [] [_, _, _, _, _, _, _, _, _, _, _, _, _, _, _, _, _, _, _, _, _, _, _, _] (row (some b4) 24 3 1 [.int .i64 0, slV none 0 0 0, .int .i64 0] :: H2) [23] rfl ⟨rfl, rfl, rfl, trivial⟩ trivial (by repeat (first | exact Le.refl _ | assumption | apply Le.drop)) (by
        refine ⟨?_, ?_, ?_, ?_, ?_, ?_, ?_, ?_, ?_, ?_, ?_, ?_, ?_, ?_, ?_, ?_, ?_, ?_, ?_, ?_, ?_, ?_, ?_, ?_, trivial⟩
        · refine ⟨fun x S c he hw hd hc hcu hm _ => ?_, trivial⟩
          refine TOps.field0 (he _ _ rfl) Try.underlying39 rfl rfl ti3 rfl rfl rfl ?_
          exact TOps.fin (Nrm.draw x (fun _ _ _ => rfl) rfl (by first | exact Le.refl _ | assumption | exact (by repeat (first | exact Le.refl _ | assumption | apply Le.drop))))
        · refine ⟨fun x S c he hw hd hc hcu hm _ => ?_, trivial⟩
          obtain ⟨h0, -⟩ := hd
          refine TOps.load1 h0 ti3 (by first | exact Rd.lit (by repeat (first | exact List.Mem.head _ | apply List.Mem.tail)) rfl | (repeat (first | assumption | exact Rd.fld (by assumption) 0 rfl | apply Rd.up))) rfl ?_
          exact TOps.fin (Nrm.draw x (fun _ _ _ => rfl) rfl (by first | exact Le.refl _ | assumption | exact (by repeat (first | exact Le.refl _ | assumption | apply Le.drop))))
        · refine ⟨fun x S c he hw hd hc hcu hm _ => ?_, trivial⟩
          obtain ⟨h1, -⟩ := hd
          refine TOps.lssr h1 rfl q2 rfl ?_
          exact TOps.fin (Nrm.draw x (fun _ _ _ => rfl) rfl (by first | exact Le.refl _ | assumption | exact (by repeat (first | exact Le.refl _ | assumption | apply Le.drop))))
        · refine ⟨fun x S c he hw hd hc hcu hm _ => ?_, trivial⟩
          obtain ⟨h2, -⟩ := hd
          refine TOps.move h2 rfl ?_
          exact TOps.fin (Nrm.draw x (fun _ _ _ => rfl) rfl (by first | exact Le.refl _ | assumption | exact (by repeat (first | exact Le.refl _ | assumption | apply Le.drop))))
        · refine ⟨fun x S c he hw hd hc hcu hm hgd => ?_, ⟨_, rfl⟩, .inl ⟨rfl, fun x => .inl rfl⟩⟩
          obtain ⟨h3, -⟩ := hd
          refine TOps.field0 (he _ _ rfl) Try.underlying39 rfl rfl ti3 rfl rfl rfl ?_
          exact TOps.fin (Nrm.draw x (fun _ _ _ => rfl) rfl (by first | exact Le.refl _ | assumption | exact (by repeat (first | exact Le.refl _ | assumption | apply Le.drop))))
        · refine ⟨fun x S c he hw hd hc hcu hm hgd => ?_, ⟨_, rfl⟩, .inl ⟨rfl, fun x => .inl rfl⟩⟩
          obtain ⟨h4, h3, -⟩ := hd
          refine TOps.load1 h4 ti3 (by first | exact Rd.lit (by repeat (first | exact List.Mem.head _ | apply List.Mem.tail)) rfl | (repeat (first | assumption | exact Rd.fld (by assumption) 0 rfl | apply Rd.up))) rfl ?_
          exact TOps.fin (Nrm.draw x (fun _ _ _ => rfl) rfl (by first | exact Le.refl _ | assumption | exact (by repeat (first | exact Le.refl _ | assumption | apply Le.drop))))
        · refine ⟨fun x S c he hw hd hc hcu hm hgd => ?_, ⟨_, rfl⟩, .inl ⟨rfl, fun x => .inl rfl⟩⟩
          obtain ⟨h3, -⟩ := hd
          refine TOps.field0 (he _ _ rfl) Try.underlying24 rfl rfl ti3 rfl rfl rfl ?_
          exact TOps.fin (Nrm.draw x (fun _ _ _ => rfl) rfl (by first | exact Le.refl _ | assumption | exact (by repeat (first | exact Le.refl _ | assumption | apply Le.drop))))
        · refine ⟨fun x S c he hw hd hc hcu hm hgd => ?_, ⟨_, rfl⟩, .inl ⟨rfl, fun x => .inl rfl⟩⟩
          obtain ⟨h6, h3, -⟩ := hd
          refine TOps.load1 h6 ti3 (by first | exact Rd.lit (by repeat (first | exact List.Mem.head _ | apply List.Mem.tail)) rfl | (repeat (first | assumption | exact Rd.fld (by assumption) 0 rfl | apply Rd.up))) rfl ?_
          exact TOps.fin (Nrm.draw x (fun _ _ _ => rfl) rfl (by first | exact Le.refl _ | assumption | exact (by repeat (first | exact Le.refl _ | assumption | apply Le.drop))))
        · refine ⟨fun x S c he hw hd hc hcu hm hgd => ?_, ⟨_, rfl⟩, .inl ⟨rfl, fun x => .inl rfl⟩⟩
          obtain ⟨h7, h3, -⟩ := hd
          refine TOps.shl (r := ((2 ^ F.vars.toNat : Nat) : Int)) rfl h7 (by omega) (ishl_one (by omega)) rfl ?_
          exact TOps.fin (Nrm.draw x (fun _ _ _ => rfl) rfl (by first | exact Le.refl _ | assumption | exact (by repeat (first | exact Le.refl _ | assumption | apply Le.drop))))
        · refine ⟨fun x S c he hw hd hc hcu hm hgd => ?_, ⟨_, rfl⟩, .inl ⟨rfl, fun x => .inl rfl⟩⟩
          obtain ⟨h5, h8, h3, -⟩ := hd
          refine TOps.geqr h5 h8 q9 rfl ?_
          exact TOps.fin (Nrm.draw x (fun _ _ _ => rfl) rfl (by first | exact Le.refl _ | assumption | exact (by repeat (first | exact Le.refl _ | assumption | apply Le.drop))))
        · refine ⟨fun x S c he hw hd hc hcu hm _ => ?_, trivial⟩
          obtain ⟨h3, h9, -⟩ := hd
          refine TOps.pick h3 rfl h9 rfl ?_
          exact TOps.fin (Nrm.draw x (fun _ _ _ => rfl) rfl (by first | exact Le.refl _ | assumption | exact (by repeat (first | exact Le.refl _ | assumption | apply Le.drop))))
        · refine ⟨fun x S c he hw hd hc hcu hm _ => ?_, trivial⟩
          obtain ⟨h10, h3, -⟩ := hd
          refine TOps.move h10 rfl ?_
          exact TOps.fin (Nrm.draw x (fun _ _ _ => rfl) rfl (by first | exact Le.refl _ | assumption | exact (by repeat (first | exact Le.refl _ | assumption | apply Le.drop))))
        · refine ⟨fun x S c he hw hd hc hcu hm hgd => ?_, ⟨_, rfl⟩, .inl ⟨rfl, fun x => .inr ⟨.inl rfl, rfl⟩⟩⟩
          exact absurd hgd (by first | (intro h; cases h; done) | simp_all)
        · refine ⟨fun x S c he hw hd hc hcu hm hgd => ?_, ⟨_, rfl⟩, .inl ⟨rfl, fun x => .inr ⟨.inl rfl, rfl⟩⟩⟩
          exact absurd hgd (by first | (intro h; cases h; done) | simp_all)
        · refine ⟨fun x S c he hw hd hc hcu hm hgd => ?_, ⟨_, rfl⟩, .inl ⟨rfl, fun x => .inr ⟨.inl rfl, rfl⟩⟩⟩
          exact absurd hgd (by first | (intro h; cases h; done) | simp_all)
        · refine ⟨fun x S c he hw hd hc hcu hm _ => ?_, trivial⟩
          obtain ⟨h11, h14, -⟩ := hd
          refine TOps.pick h11 rfl h14 rfl ?_
          exact TOps.fin (Nrm.draw x (fun _ _ _ => rfl) rfl (by first | exact Le.refl _ | assumption | exact (by repeat (first | exact Le.refl _ | assumption | apply Le.drop))))
        · refine ⟨fun x S c he hw hd hc hcu hm _ => ?_, trivial⟩
          obtain ⟨h15, h11, -⟩ := hd
          refine TOps.move h15 rfl ?_
          exact TOps.fin (Nrm.draw x (fun _ _ _ => rfl) rfl (by first | exact Le.refl _ | assumption | exact (by repeat (first | exact Le.refl _ | assumption | apply Le.drop))))
        · refine ⟨fun x S c he hw hd hc hcu hm hgd => ?_, ⟨_, rfl⟩, .inl ⟨rfl, fun x => .inr ⟨.inl rfl, rfl⟩⟩⟩
          exact absurd hgd (by first | (intro h; cases h; done) | simp_all)
        · refine ⟨fun x S c he hw hd hc hcu hm hgd => ?_, ⟨_, rfl⟩, .inl ⟨rfl, fun x => .inr ⟨.inl rfl, rfl⟩⟩⟩
          exact absurd hgd (by first | (intro h; cases h; done) | simp_all)
        · refine ⟨fun x S c he hw hd hc hcu hm hgd => ?_, ⟨_, rfl⟩, .inl ⟨rfl, fun x => .inr ⟨.inl rfl, rfl⟩⟩⟩
          exact absurd hgd (by first | (intro h; cases h; done) | simp_all)
        · refine ⟨fun x S c he hw hd hc hcu hm hgd => ?_, ⟨_, rfl⟩, .inl ⟨rfl, fun x => .inr ⟨.inl rfl, rfl⟩⟩⟩
          exact absurd hgd (by first | (intro h; cases h; done) | simp_all)
        · refine ⟨fun x S c he hw hd hc hcu hm hgd => ?_, ⟨_, rfl⟩, .inl ⟨rfl, fun x => .inr ⟨.inl rfl, rfl⟩⟩⟩
          exact absurd hgd (by first | (intro h; cases h; done) | simp_all)
        · refine ⟨fun x S c he hw hd hc hcu hm hgd => ?_, ⟨_, rfl⟩, .inl ⟨rfl, fun x => .inr ⟨.inl rfl, rfl⟩⟩⟩
          exact absurd hgd (by first | (intro h; cases h; done) | simp_all)
        · refine ⟨fun x S c he hw hd hc hcu hm _ => ?_, trivial⟩
          obtain ⟨h16, h22, -⟩ := hd
          refine TOps.pickr (r := .bool (decide (cy < 0 ∨ ((2 ^ F.vars.toNat : Nat) : Int) ≤ cy ∨ cn < 0 ∨ ((2 ^ F.vars.toNat : Nat) : Int) ≤ cn))) h16 rfl h22 (by rw [hP]; rfl) rfl ?_
          exact TOps.fin (Nrm.draw x (fun _ _ _ => rfl) rfl (by first | exact Le.refl _ | assumption | exact (by repeat (first | exact Le.refl _ | assumption | apply Le.drop))))
        ) ?_
      refine Nrm.next ?_
      refine Tri.cond rfl (fun hc2 => ?_) (fun hc2 => ?_)
      · try simp only [decide_eq_true_eq, decide_eq_false_iff_not, Bool.and_eq_true, Bool.or_eq_true, Bool.not_eq_true', Bool.and_eq_false_iff, Bool.or_eq_false_iff, Bool.not_eq_false', Int.not_lt, Int.not_le, ne_eq, Decidable.not_not, Option.isSome_iff_ne_none, Option.isNone_iff_eq_none] at hc2
        have hce : F.cubeErr cy cn = some 3 := by rw [hc0, if_pos (by omega)]
        refine Tri.seq (Tri.region ?_)
        refine TOps.buildStruct (vs := []) (xs := [_, _, _]) [(0, 1), (1, 1), (2, 1)] Try.underlying24 ti24 (fun w => by simp) trivial rfl rfl ?_
        refine TOps.makeInterface rfl Try.underlying47 rfl rfl ?_
        refine TOps.storeN rfl rfl ti24 rfl rfl (by repeat (first | exact Upd.here | apply Upd.there)) (by first | decide | (simp; done) | (simp; omega)) ?_
        refine TOps.assign rfl rfl ?_
        refine TOps.next ?_
        refine Tri.ret2 (H' := H) Try.results19 (fun _ _ h => h) (.cellN rfl rfl ti24 (Rd.all (by repeat (first | exact List.Mem.head _ | apply List.Mem.tail))) rfl) (.tmp rfl) (Le.drop (l2.trans l1)) ⟨none, 0, [], ?_, ?_, rfl⟩
        · rw [show F.asgE cy cn = some 3 from by unfold Fm.asgE; rw [hce], show F.asgF cy cn = Fm.zero from by unfold Fm.asgF; rw [hce]]; rfl
        · rw [show F.asgF cy cn = Fm.zero from by unfold Fm.asgF; rw [hce]]; exact .inl rfl
      try simp only [decide_eq_true_eq, decide_eq_false_iff_not, Bool.and_eq_true, Bool.or_eq_true, Bool.not_eq_true', Bool.and_eq_false_iff, Bool.or_eq_false_iff, Bool.not_eq_false', Int.not_lt, Int.not_le, ne_eq, Decidable.not_not, Option.isSome_iff_ne_none, Option.isNone_iff_eq_none] at hc2
      refine Tri.fin ?_
      refine Nrm.mid () (by omega) (by exact ⟨rfl, rfl, rfl, trivial⟩) (by repeat (first | exact Le.refl _ | assumption | apply Le.drop))
    · skip
      have hP : decide (cy < 0 ∨ ((2 ^ F.vars.toNat : Nat) : Int) ≤ cy ∨ cn < 0 ∨ ((2 ^ F.vars.toNat : Nat) : Int) ≤ cn) = true := decide_eq_true (.inr (.inr (.inl (of_decide_eq_true q14))))
      refine Tri.drawC rfl [(2, .pointer (some ⟨b2, 0, none⟩)), (3, .pointer (some ⟨b3, 0, none⟩)), (4, .pointer (some ⟨b4, 0, none⟩))] [] [_, _, _, _, _, _, _, _, _, _, _, _, _, _, _, _, _, _, _, _, _, _, _, _] (row (some b4) 24 3 1 [.int .i64 0, slV none 0 0 0, .int .i64 0] :: H2) [23] rfl ⟨rfl, rfl, rfl, trivial⟩ trivial (by repeat (first | exact Le.refl _ | assumption | apply Le.drop)) (by
        refine ⟨?_, ?_, ?_, ?_, ?_, ?_, ?_, ?_, ?_, ?_, ?_, ?_, ?_, ?_, ?_, ?_, ?_, ?_, ?_, ?_, ?_, ?_, ?_, ?_, trivial⟩
        · refine ⟨fun x S c he hw hd hc hcu hm _ => ?_, trivial⟩
          refine TOps.field0 (he _ _ rfl) Try.underlying39 rfl rfl ti3 rfl rfl rfl ?_
          exact TOps.fin (Nrm.draw x (fun _ _ _ => rfl) rfl (by first | exact Le.refl _ | assumption | exact (by repeat (first | exact Le.refl _ | assumption | apply Le.drop))))
        · refine ⟨fun x S c he hw hd hc hcu hm _ => ?_, trivial⟩
          obtain ⟨h0, -⟩ := hd
          refine TOps.load1 h0 ti3 (by first | exact Rd.lit (by repeat (first | exact List.Mem.head _ | apply List.Mem.tail)) rfl | (repeat (first | assumption | exact Rd.fld (by assumption) 0 rfl | apply Rd.up))) rfl ?_
          exact TOps.fin (Nrm.draw x (fun _ _ _ => rfl) rfl (by first | exact Le.refl _ | assumption | exact (by repeat (first | exact Le.refl _ | assumption | apply Le.drop))))
        · refine ⟨fun x S c he hw hd hc hcu hm _ => ?_, trivial⟩
          obtain ⟨h1, -⟩ := hd
          refine TOps.lssr h1 rfl q2 rfl ?_
          exact TOps.fin (Nrm.draw x (fun _ _ _ => rfl) rfl (by first | exact Le.refl _ | assumption | exact (by repeat (first | exact Le.refl _ | assumption | apply Le.drop))))
        · refine ⟨fun x S c he hw hd hc hcu hm _ => ?_, trivial⟩
          obtain ⟨h2, -⟩ := hd
          refine TOps.move h2 rfl ?_
          exact TOps.fin (Nrm.draw x (fun _ _ _ => rfl) rfl (by first | exact Le.refl _ | assumption | exact (by repeat (first | exact Le.refl _ | assumption | apply Le.drop))))
        · refine ⟨fun x S c he hw hd hc hcu hm hgd => ?_, ⟨_, rfl⟩, .inl ⟨rfl, fun x => .inl rfl⟩⟩
          obtain ⟨h3, -⟩ := hd
          refine TOps.field0 (he _ _ rfl) Try.underlying39 rfl rfl ti3 rfl rfl rfl ?_
          exact TOps.fin (Nrm.draw x (fun _ _ _ => rfl) rfl (by first | exact Le.refl _ | assumption | exact (by repeat (first | exact Le.refl _ | assumption | apply Le.drop))))
        · refine ⟨fun x S c he hw hd hc hcu hm hgd => ?_, ⟨_, rfl⟩, .inl ⟨rfl, fun x => .inl rfl⟩⟩
          obtain ⟨h4, h3, -⟩ := hd
          refine TOps.load1 h4 ti3 (by first | exact Rd.lit (by repeat (first | exact List.Mem.head _ | apply List.Mem.tail)) rfl | (repeat (first | assumption | exact Rd.fld (by assumption) 0 rfl | apply Rd.up))) rfl ?_
          exact TOps.fin (Nrm.draw x (fun _ _ _ => rfl) rfl (by first | exact Le.refl _ | assumption | exact (by repeat (first | exact Le.refl _ | assumption | apply Le.drop))))
        · refine ⟨fun x S c he hw hd hc hcu hm hgd => ?_, ⟨_, rfl⟩, .inl ⟨rfl, fun x => .inl rfl⟩⟩
          obtain ⟨h3, -⟩ := hd
          refine TOps.field0 (he _ _ rfl) Try.underlying24 rfl rfl ti3 rfl rfl rfl ?_
          exact TOps.fin (Nrm.draw x (fun _ _ _ => rfl) rfl (by first | exact Le.refl _ | assumption | exact (by repeat (first | exact Le.refl _ | assumption | apply Le.drop))))
        · refine ⟨fun x S c he hw hd hc hcu hm hgd => ?_, ⟨_, rfl⟩, .inl ⟨rfl, fun x => .inl rfl⟩⟩
          obtain ⟨h6, h3, -⟩ := hd
          refine TOps.load1 h6 ti3 (by first | exact Rd.lit (by repeat (first | exact List.Mem.head _ | apply List.Mem.tail)) rfl | (repeat (first | assumption | exact Rd.fld (by assumption) 0 rfl | apply Rd.up))) rfl ?_
          exact TOps.fin (Nrm.draw x (fun _ _ _ => rfl) rfl (by first | exact Le.refl _ | assumption | exact (by repeat (first | exact Le.refl _ | assumption | apply Le.drop))))
        · refine ⟨fun x S c he hw hd hc hcu hm hgd => ?_, ⟨_, rfl⟩, .inl ⟨rfl, fun x => .inl rfl⟩⟩
          obtain ⟨h7, h3, -⟩ := hd
          refine TOps.shl (r := ((2 ^ F.vars.toNat : Nat) : Int)) rfl h7 (by omega) (ishl_one (by omega)) rfl ?_
          exact TOps.fin (Nrm.draw x (fun _ _ _ => rfl) rfl (by first | exact Le.refl _ | assumption | exact (by repeat (first | exact Le.refl _ | assumption | apply Le.drop))))
        · refine ⟨fun x S c he hw hd hc hcu hm hgd => ?_, ⟨_, rfl⟩, .inl ⟨rfl, fun x => .inl rfl⟩⟩
          obtain ⟨h5, h8, h3, -⟩ := hd
          refine TOps.geqr h5 h8 q9 rfl ?_
          exact TOps.fin (Nrm.draw x (fun _ _ _ => rfl) rfl (by first | exact Le.refl _ | assumption | exact (by repeat (first | exact Le.refl _ | assumption | apply Le.drop))))
        · refine ⟨fun x S c he hw hd hc hcu hm _ => ?_, trivial⟩
          obtain ⟨h3, h9, -⟩ := hd
          refine TOps.pick h3 rfl h9 rfl ?_
          exact TOps.fin (Nrm.draw x (fun _ _ _ => rfl) rfl (by first | exact Le.refl _ | assumption | exact (by repeat (first | exact Le.refl _ | assumption | apply Le.drop))))
        · refine ⟨fun x S c he hw hd hc hcu hm _ => ?_, trivial⟩
          obtain ⟨h10, h3, -⟩ := hd
          refine TOps.move h10 rfl ?_
          exact TOps.fin (Nrm.draw x (fun _ _ _ => rfl) rfl (by first | exact Le.refl _ | assumption | exact (by repeat (first | exact Le.refl _ | assumption | apply Le.drop))))
        · refine ⟨fun x S c he hw hd hc hcu hm hgd => ?_, ⟨_, rfl⟩, .inl ⟨rfl, fun x => .inl rfl⟩⟩
          obtain ⟨h11, -⟩ := hd
          first | refine TOps.fieldB 1 (he _ _ rfl) Try.underlying39 rfl rfl ti3 rfl rfl rfl ?_ | refine TOps.fieldN 1 (he _ _ rfl) Try.underlying39 rfl rfl ti3 rfl rfl rfl ?_
          exact TOps.fin (Nrm.draw x (fun _ _ _ => rfl) rfl (by first | exact Le.refl _ | assumption | exact (by repeat (first | exact Le.refl _ | assumption | apply Le.drop))))
        · refine ⟨fun x S c he hw hd hc hcu hm hgd => ?_, ⟨_, rfl⟩, .inl ⟨rfl, fun x => .inl rfl⟩⟩
          obtain ⟨h12, h11, -⟩ := hd
          refine TOps.load1 h12 ti3 (by first | exact Rd.lit (by repeat (first | exact List.Mem.head _ | apply List.Mem.tail)) rfl | (repeat (first | assumption | exact Rd.fld (by assumption) 1 rfl | apply Rd.up))) rfl ?_
          exact TOps.fin (Nrm.draw x (fun _ _ _ => rfl) rfl (by first | exact Le.refl _ | assumption | exact (by repeat (first | exact Le.refl _ | assumption | apply Le.drop))))
        · refine ⟨fun x S c he hw hd hc hcu hm hgd => ?_, ⟨_, rfl⟩, .inl ⟨rfl, fun x => .inl rfl⟩⟩
          obtain ⟨h13, h11, -⟩ := hd
          refine TOps.lssr h13 rfl q14 rfl ?_
          exact TOps.fin (Nrm.draw x (fun _ _ _ => rfl) rfl (by first | exact Le.refl _ | assumption | exact (by repeat (first | exact Le.refl _ | assumption | apply Le.drop))))
        · refine ⟨fun x S c he hw hd hc hcu hm _ => ?_, trivial⟩
          obtain ⟨h11, h14, -⟩ := hd
          refine TOps.pick h11 rfl h14 rfl ?_
          exact TOps.fin (Nrm.draw x (fun _ _ _ => rfl) rfl (by first | exact Le.refl _ | assumption | exact (by repeat (first | exact Le.refl _ | assumption | apply Le.drop))))
        · refine ⟨fun x S c he hw hd hc hcu hm _ => ?_, trivial⟩
          obtain ⟨h15, h11, -⟩ := hd
          refine TOps.move h15 rfl ?_
          exact TOps.fin (Nrm.draw x (fun _ _ _ => rfl) rfl (by first | exact Le.refl _ | assumption | exact (by repeat (first | exact Le.refl _ | assumption | apply Le.drop))))
        · refine ⟨fun x S c he hw hd hc hcu hm hgd => ?_, ⟨_, rfl⟩, .inl ⟨rfl, fun x => .inr ⟨.inl rfl, rfl⟩⟩⟩
          exact absurd hgd (by first | (intro h; cases h; done) | simp_all)
        · refine ⟨fun x S c he hw hd hc hcu hm hgd => ?_, ⟨_, rfl⟩, .inl ⟨rfl, fun x => .inr ⟨.inl rfl, rfl⟩⟩⟩
          exact absurd hgd (by first | (intro h; cases h; done) | simp_all)
        · refine ⟨fun x S c he hw hd hc hcu hm hgd => ?_, ⟨_, rfl⟩, .inl ⟨rfl, fun x => .inr ⟨.inl rfl, rfl⟩⟩⟩
          exact absurd hgd (by first | (intro h; cases h; done) | simp_all)
        · refine ⟨fun x S c he hw hd hc hcu hm hgd => ?_, ⟨_, rfl⟩, .inl ⟨rfl, fun x => .inr ⟨.inl rfl, rfl⟩⟩⟩
          exact absurd hgd (by first | (intro h; cases h; done) | simp_all)
        · refine ⟨fun x S c he hw hd hc hcu hm hgd => ?_, ⟨_, rfl⟩, .inl ⟨rfl, fun x => .inr ⟨.inl rfl, rfl⟩⟩⟩
          exact absurd hgd (by first | (intro h; cases h; done) | simp_all)
        · refine ⟨fun x S c he hw hd hc hcu hm hgd => ?_, ⟨_, rfl⟩, .inl ⟨rfl, fun x => .inr ⟨.inl rfl, rfl⟩⟩⟩
          exact absurd hgd (by first | (intro h; cases h; done) | simp_all)
        · refine ⟨fun x S c he hw hd hc hcu hm _ => ?_, trivial⟩
          obtain ⟨h16, h22, -⟩ := hd
          refine TOps.pickr (r := .bool (decide (cy < 0 ∨ ((2 ^ F.vars.toNat : Nat) : Int) ≤ cy ∨ cn < 0 ∨ ((2 ^ F.vars.toNat : Nat) : Int) ≤ cn))) h16 rfl h22 (by rw [hP]; rfl) rfl ?_
          exact TOps.fin (Nrm.draw x (fun _ _ _ => rfl) rfl (by first | exact Le.refl _ | assumption | exact (by repeat (first | exact Le.refl _ | assumption | apply Le.drop))))
        ) ?_
      refine Nrm.next ?_
      refine Tri.cond rfl (fun hc2 => ?_) (fun hc2 => ?_)
      · try simp only [decide_eq_true_eq, decide_eq_false_iff_not, Bool.and_eq_true, Bool.or_eq_true, Bool.not_eq_true', Bool.and_eq_false_iff, Bool.or_eq_false_iff, Bool.not_eq_false', Int.not_lt, Int.not_le, ne_eq, Decidable.not_not, Option.isSome_iff_ne_none, Option.isNone_iff_eq_none] at hc2
        have hce : F.cubeErr cy cn = some 3 := by rw [hc0, if_pos (by omega)]
        refine Tri.seq (Tri.region ?_)
        refine TOps.buildStruct (vs := []) (xs := [_, _, _]) [(0, 1), (1, 1), (2, 1)] Try.underlying24 ti24 (fun w => by simp) trivial rfl rfl ?_
        refine TOps.makeInterface rfl Try.underlying47 rfl rfl ?_
        refine TOps.storeN rfl rfl ti24 rfl rfl (by repeat (first | exact Upd.here | apply Upd.there)) (by first | decide | (simp; done) | (simp; omega)) ?_
        refine TOps.assign rfl rfl ?_
        refine TOps.next ?_
        refine Tri.ret2 (H' := H) Try.results19 (fun _ _ h => h) (.cellN rfl rfl ti24 (Rd.all (by repeat (first | exact List.Mem.head _ | apply List.Mem.tail))) rfl) (.tmp rfl) (Le.drop (l2.trans l1)) ⟨none, 0, [], ?_, ?_, rfl⟩
        · rw [show F.asgE cy cn = some 3 from by unfold Fm.asgE; rw [hce], show F.asgF cy cn = Fm.zero from by unfold Fm.asgF; rw [hce]]; rfl
        · rw [show F.asgF cy cn = Fm.zero from by unfold Fm.asgF; rw [hce]]; exact .inl rfl
      try simp only [decide_eq_true_eq, decide_eq_false_iff_not, Bool.and_eq_true, Bool.or_eq_true, Bool.not_eq_true', Bool.and_eq_false_iff, Bool.or_eq_false_iff, Bool.not_eq_false', Int.not_lt, Int.not_le, ne_eq, Decidable.not_not, Option.isSome_iff_ne_none, Option.isNone_iff_eq_none] at hc2
      refine Tri.fin ?_
      refine Nrm.mid () (by omega) (by exact ⟨rfl, rfl, rfl, trivial⟩) (by repeat (first | exact Le.refl _ | assumption | apply Le.drop))
    · skip
      have hP : decide (cy < 0 ∨ ((2 ^ F.vars.toNat : Nat) : Int) ≤ cy ∨ cn < 0 ∨ ((2 ^ F.vars.toNat : Nat) : Int) ≤ cn) = decide (((2 ^ F.vars.toNat : Nat) : Int) ≤ cn) := decide_eq_decide.2 ⟨fun h => (h.resolve_left (of_decide_eq_false q2)).resolve_left (of_decide_eq_false q9) |>.resolve_left (of_decide_eq_false q14), fun h => .inr (.inr (.inr h))⟩
      refine Tri.drawC rfl [(2, .pointer (some ⟨b2, 0, none⟩)), (3, .pointer (some ⟨b3, 0, none⟩)), (4, .pointer (some ⟨b4, 0, none⟩))] [] [_, _, _, _, _, _, _, _, _, _, _, _, _, _, _, _, _, _, _, _, _, _, _, _] (row (some b4) 24 3 1 [.int .i64 0, slV none 0 0 0, .int .i64 0] :: H2) [23] rfl ⟨rfl, rfl, rfl, trivial⟩ trivial (by repeat (first | exact Le.refl _ | assumption | apply Le.drop)) (by
        refine ⟨?_, ?_, ?_, ?_, ?_, ?_, ?_, ?_, ?_, ?_, ?_, ?_, ?_, ?_, ?_, ?_, ?_, ?_, ?_, ?_, ?_, ?_, ?_, ?_, trivial⟩
        · refine ⟨fun x S c he hw hd hc hcu hm _ => ?_, trivial⟩
          refine TOps.field0 (he _ _ rfl) Try.underlying39 rfl rfl ti3 rfl rfl rfl ?_
          exact TOps.fin (Nrm.draw x (fun _ _ _ => rfl) rfl (by first | exact Le.refl _ | assumption | exact (by repeat (first | exact Le.refl _ | assumption | apply Le.drop))))
        · refine ⟨fun x S c he hw hd hc hcu hm _ => ?_, trivial⟩
          obtain ⟨h0, -⟩ := hd
          refine TOps.load1 h0 ti3 (by first | exact Rd.lit (by repeat (first | exact List.Mem.head _ | apply List.Mem.tail)) rfl | (repeat (first | assumption | exact Rd.fld (by assumption) 0 rfl | apply Rd.up))) rfl ?_
          exact TOps.fin (Nrm.draw x (fun _ _ _ => rfl) rfl (by first | exact Le.refl _ | assumption | exact (by repeat (first | exact Le.refl _ | assumption | apply Le.drop))))
        · refine ⟨fun x S c he hw hd hc hcu hm _ => ?_, trivial⟩
          obtain ⟨h1, -⟩ := hd
          refine TOps.lssr h1 rfl q2 rfl ?_
          exact TOps.fin (Nrm.draw x (fun _ _ _ => rfl) rfl (by first | exact Le.refl _ | assumption | exact (by repeat (first | exact Le.refl _ | assumption | apply Le.drop))))
        · refine ⟨fun x S c he hw hd hc hcu hm _ => ?_, trivial⟩
          obtain ⟨h2, -⟩ := hd
          refine TOps.move h2 rfl ?_
          exact TOps.fin (Nrm.draw x (fun _ _ _ => rfl) rfl (by first | exact Le.refl _ | assumption | exact (by repeat (first | exact Le.refl _ | assumption | apply Le.drop))))
        · refine ⟨fun x S c he hw hd hc hcu hm hgd => ?_, ⟨_, rfl⟩, .inl ⟨rfl, fun x => .inl rfl⟩⟩
          obtain ⟨h3, -⟩ := hd
          refine TOps.field0 (he _ _ rfl) Try.underlying39 rfl rfl ti3 rfl rfl rfl ?_
          exact TOps.fin (Nrm.draw x (fun _ _ _ => rfl) rfl (by first | exact Le.refl _ | assumption | exact (by repeat (first | exact Le.refl _ | assumption | apply Le.drop))))
        · refine ⟨fun x S c he hw hd hc hcu hm hgd => ?_, ⟨_, rfl⟩, .inl ⟨rfl, fun x => .inl rfl⟩⟩
          obtain ⟨h4, h3, -⟩ := hd
          refine TOps.load1 h4 ti3 (by first | exact Rd.lit (by repeat (first | exact List.Mem.head _ | apply List.Mem.tail)) rfl | (repeat (first | assumption | exact Rd.fld (by assumption) 0 rfl | apply Rd.up))) rfl ?_
          exact TOps.fin (Nrm.draw x (fun _ _ _ => rfl) rfl (by first | exact Le.refl _ | assumption | exact (by repeat (first | exact Le.refl _ | assumption | apply Le.drop))))
        · refine ⟨fun x S c he hw hd hc hcu hm hgd => ?_, ⟨_, rfl⟩, .inl ⟨rfl, fun x => .inl rfl⟩⟩
          obtain ⟨h3, -⟩ := hd
          refine TOps.field0 (he _ _ rfl) Try.underlying24 rfl rfl ti3 rfl rfl rfl ?_
          exact TOps.fin (Nrm.draw x (fun _ _ _ => rfl) rfl (by first | exact Le.refl _ | assumption | exact (by repeat (first | exact Le.refl _ | assumption | apply Le.drop))))
        · refine ⟨fun x S c he hw hd hc hcu hm hgd => ?_, ⟨_, rfl⟩, .inl ⟨rfl, fun x => .inl rfl⟩⟩
          obtain ⟨h6, h3, -⟩ := hd
          refine TOps.load1 h6 ti3 (by first | exact Rd.lit (by repeat (first | exact List.Mem.head _ | apply List.Mem.tail)) rfl | (repeat (first | assumption | exact Rd.fld (by assumption) 0 rfl | apply Rd.up))) rfl ?_
          exact TOps.fin (Nrm.draw x (fun _ _ _ => rfl) rfl (by first | exact Le.refl _ | assumption | exact (by repeat (first | exact Le.refl _ | assumption | apply Le.drop))))
        · refine ⟨fun x S c he hw hd hc hcu hm hgd => ?_, ⟨_, rfl⟩, .inl ⟨rfl, fun x => .inl rfl⟩⟩
          obtain ⟨h7, h3, -⟩ := hd
          refine TOps.shl (r := ((2 ^ F.vars.toNat : Nat) : Int)) rfl h7 (by omega) (ishl_one (by omega)) rfl ?_
          exact TOps.fin (Nrm.draw x (fun _ _ _ => rfl) rfl (by first | exact Le.refl _ | assumption | exact (by repeat (first | exact Le.refl _ | assumption | apply Le.drop))))
        · refine ⟨fun x S c he hw hd hc hcu hm hgd => ?_, ⟨_, rfl⟩, .inl ⟨rfl, fun x => .inl rfl⟩⟩
          obtain ⟨h5, h8, h3, -⟩ := hd
          refine TOps.geqr h5 h8 q9 rfl ?_
          exact TOps.fin (Nrm.draw x (fun _ _ _ => rfl) rfl (by first | exact Le.refl _ | assumption | exact (by repeat (first | exact Le.refl _ | assumption | apply Le.drop))))
        · refine ⟨fun x S c he hw hd hc hcu hm _ => ?_, trivial⟩
          obtain ⟨h3, h9, -⟩ := hd
          refine TOps.pick h3 rfl h9 rfl ?_
          exact TOps.fin (Nrm.draw x (fun _ _ _ => rfl) rfl (by first | exact Le.refl _ | assumption | exact (by repeat (first | exact Le.refl _ | assumption | apply Le.drop))))
        · refine ⟨fun x S c he hw hd hc hcu hm _ => ?_, trivial⟩
          obtain ⟨h10, h3, -⟩ := hd
          refine TOps.move h10 rfl ?_
          exact TOps.fin (Nrm.draw x (fun _ _ _ => rfl) rfl (by first | exact Le.refl _ | assumption | exact (by repeat (first | exact Le.refl _ | assumption | apply Le.drop))))
        · refine ⟨fun x S c he hw hd hc hcu hm hgd => ?_, ⟨_, rfl⟩, .inl ⟨rfl, fun x => .inl rfl⟩⟩
          obtain ⟨h11, -⟩ := hd
          first | refine TOps.fieldB 1 (he _ _ rfl) Try.underlying39 rfl rfl ti3 rfl rfl rfl ?_ | refine TOps.fieldN 1 (he _ _ rfl) Try.underlying39 rfl rfl ti3 rfl rfl rfl ?_
          exact TOps.fin (Nrm.draw x (fun _ _ _ => rfl) rfl (by first | exact Le.refl _ | assumption | exact (by repeat (first | exact Le.refl _ | assumption | apply Le.drop))))
        · refine ⟨fun x S c he hw hd hc hcu hm hgd => ?_, ⟨_, rfl⟩, .inl ⟨rfl, fun x => .inl rfl⟩⟩
          obtain ⟨h12, h11, -⟩ := hd
          refine TOps.load1 h12 ti3 (by first | exact Rd.lit (by repeat (first | exact List.Mem.head _ | apply List.Mem.tail)) rfl | (repeat (first | assumption | exact Rd.fld (by assumption) 1 rfl | apply Rd.up))) rfl ?_
          exact TOps.fin (Nrm.draw x (fun _ _ _ => rfl) rfl (by first | exact Le.refl _ | assumption | exact (by repeat (first | exact Le.refl _ | assumption | apply Le.drop))))
        · refine ⟨fun x S c he hw hd hc hcu hm hgd => ?_, ⟨_, rfl⟩, .inl ⟨rfl, fun x => .inl rfl⟩⟩
          obtain ⟨h13, h11, -⟩ := hd
          refine TOps.lssr h13 rfl q14 rfl ?_
          exact TOps.fin (Nrm.draw x (fun _ _ _ => rfl) rfl (by first | exact Le.refl _ | assumption | exact (by repeat (first | exact Le.refl _ | assumption | apply Le.drop))))
        · refine ⟨fun x S c he hw hd hc hcu hm _ => ?_, trivial⟩
          obtain ⟨h11, h14, -⟩ := hd
          refine TOps.pick h11 rfl h14 rfl ?_
          exact TOps.fin (Nrm.draw x (fun _ _ _ => rfl) rfl (by first | exact Le.refl _ | assumption | exact (by repeat (first | exact Le.refl _ | assumption | apply Le.drop))))
        · refine ⟨fun x S c he hw hd hc hcu hm _ => ?_, trivial⟩
          obtain ⟨h15, h11, -⟩ := hd
          refine TOps.move h15 rfl ?_
          exact TOps.fin (Nrm.draw x (fun _ _ _ => rfl) rfl (by first | exact Le.refl _ | assumption | exact (by repeat (first | exact Le.refl _ | assumption | apply Le.drop))))
        · refine ⟨fun x S c he hw hd hc hcu hm hgd => ?_, ⟨_, rfl⟩, .inl ⟨rfl, fun x => .inl rfl⟩⟩
          obtain ⟨h16, -⟩ := hd
          first | refine TOps.fieldB 1 (he _ _ rfl) Try.underlying39 rfl rfl ti3 rfl rfl rfl ?_ | refine TOps.fieldN 1 (he _ _ rfl) Try.underlying39 rfl rfl ti3 rfl rfl rfl ?_
          exact TOps.fin (Nrm.draw x (fun _ _ _ => rfl) rfl (by first | exact Le.refl _ | assumption | exact (by repeat (first | exact Le.refl _ | assumption | apply Le.drop))))
        · refine ⟨fun x S c he hw hd hc hcu hm hgd => ?_, ⟨_, rfl⟩, .inl ⟨rfl, fun x => .inl rfl⟩⟩
          obtain ⟨h17, h16, -⟩ := hd
          refine TOps.load1 h17 ti3 (by first | exact Rd.lit (by repeat (first | exact List.Mem.head _ | apply List.Mem.tail)) rfl | (repeat (first | assumption | exact Rd.fld (by assumption) 1 rfl | apply Rd.up))) rfl ?_
          exact TOps.fin (Nrm.draw x (fun _ _ _ => rfl) rfl (by first | exact Le.refl _ | assumption | exact (by repeat (first | exact Le.refl _ | assumption | apply Le.drop))))
        · refine ⟨fun x S c he hw hd hc hcu hm hgd => ?_, ⟨_, rfl⟩, .inl ⟨rfl, fun x => .inl rfl⟩⟩
          obtain ⟨h16, -⟩ := hd
          refine TOps.field0 (he _ _ rfl) Try.underlying24 rfl rfl ti3 rfl rfl rfl ?_
          exact TOps.fin (Nrm.draw x (fun _ _ _ => rfl) rfl (by first | exact Le.refl _ | assumption | exact (by repeat (first | exact Le.refl _ | assumption | apply Le.drop))))
        · refine ⟨fun x S c he hw hd hc hcu hm hgd => ?_, ⟨_, rfl⟩, .inl ⟨rfl, fun x => .inl rfl⟩⟩
          obtain ⟨h19, h16, -⟩ := hd
          refine TOps.load1 h19 ti3 (by first | exact Rd.lit (by repeat (first | exact List.Mem.head _ | apply List.Mem.tail)) rfl | (repeat (first | assumption | exact Rd.fld (by assumption) 0 rfl | apply Rd.up))) rfl ?_
          exact TOps.fin (Nrm.draw x (fun _ _ _ => rfl) rfl (by first | exact Le.refl _ | assumption | exact (by repeat (first | exact Le.refl _ | assumption | apply Le.drop))))
        · refine ⟨fun x S c he hw hd hc hcu hm hgd => ?_, ⟨_, rfl⟩, .inl ⟨rfl, fun x => .inl rfl⟩⟩
          obtain ⟨h20, h16, -⟩ := hd
          refine TOps.shl (r := ((2 ^ F.vars.toNat : Nat) : Int)) rfl h20 (by omega) (ishl_one (by omega)) rfl ?_
          exact TOps.fin (Nrm.draw x (fun _ _ _ => rfl) rfl (by first | exact Le.refl _ | assumption | exact (by repeat (first | exact Le.refl _ | assumption | apply Le.drop))))
        · refine ⟨fun x S c he hw hd hc hcu hm hgd => ?_, ⟨_, rfl⟩, .inl ⟨rfl, fun x => .inl rfl⟩⟩
          obtain ⟨h18, h21, h16, -⟩ := hd
          refine TOps.geq h18 h21 rfl ?_
          exact TOps.fin (Nrm.draw x (fun _ _ _ => rfl) rfl (by first | exact Le.refl _ | assumption | exact (by repeat (first | exact Le.refl _ | assumption | apply Le.drop))))
        · refine ⟨fun x S c he hw hd hc hcu hm _ => ?_, trivial⟩
          obtain ⟨h16, h22, -⟩ := hd
          refine TOps.pickr (r := .bool (decide (cy < 0 ∨ ((2 ^ F.vars.toNat : Nat) : Int) ≤ cy ∨ cn < 0 ∨ ((2 ^ F.vars.toNat : Nat) : Int) ≤ cn))) h16 rfl h22 (by rw [hP]; rfl) rfl ?_
          exact TOps.fin (Nrm.draw x (fun _ _ _ => rfl) rfl (by first | exact Le.refl _ | assumption | exact (by repeat (first | exact Le.refl _ | assumption | apply Le.drop))))
        ) ?_
      refine Nrm.next ?_
      refine Tri.cond rfl (fun hc2 => ?_) (fun hc2 => ?_)
      · try simp only [decide_eq_true_eq, decide_eq_false_iff_not, Bool.and_eq_true, Bool.or_eq_true, Bool.not_eq_true', Bool.and_eq_false_iff, Bool.or_eq_false_iff, Bool.not_eq_false', Int.not_lt, Int.not_le, ne_eq, Decidable.not_not, Option.isSome_iff_ne_none, Option.isNone_iff_eq_none] at hc2
        have hce : F.cubeErr cy cn = some 3 := by rw [hc0, if_pos (by omega)]
        refine Tri.seq (Tri.region ?_)
        refine TOps.buildStruct (vs := []) (xs := [_, _, _]) [(0, 1), (1, 1), (2, 1)] Try.underlying24 ti24 (fun w => by simp) trivial rfl rfl ?_
        refine TOps.makeInterface rfl Try.underlying47 rfl rfl ?_
        refine TOps.storeN rfl rfl ti24 rfl rfl (by repeat (first | exact Upd.here | apply Upd.there)) (by first | decide | (simp; done) | (simp; omega)) ?_
        refine TOps.assign rfl rfl ?_
        refine TOps.next ?_
        refine Tri.ret2 (H' := H) Try.results19 (fun _ _ h => h) (.cellN rfl rfl ti24 (Rd.all (by repeat (first | exact List.Mem.head _ | apply List.Mem.tail))) rfl) (.tmp rfl) (Le.drop (l2.trans l1)) ⟨none, 0, [], ?_, ?_, rfl⟩
        · rw [show F.asgE cy cn = some 3 from by unfold Fm.asgE; rw [hce], show F.asgF cy cn = Fm.zero from by unfold Fm.asgF; rw [hce]]; rfl
        · rw [show F.asgF cy cn = Fm.zero from by unfold Fm.asgF; rw [hce]]; exact .inl rfl
      try simp only [decide_eq_true_eq, decide_eq_false_iff_not, Bool.and_eq_true, Bool.or_eq_true, Bool.not_eq_true', Bool.and_eq_false_iff, Bool.or_eq_false_iff, Bool.not_eq_false', Int.not_lt, Int.not_le, ne_eq, Decidable.not_not, Option.isSome_iff_ne_none, Option.isNone_iff_eq_none] at hc2
      refine Tri.fin ?_
      refine Nrm.mid () (by omega) (by exact ⟨rfl, rfl, rfl, trivial⟩) (by repeat (first | exact Le.refl _ | assumption | apply Le.drop))
  refine Tri.seq ?_
  refine Tri.seq (Tri.region ?_)
  refine TOps.field0 rfl Try.underlying39 rfl rfl ti3 rfl rfl rfl ?_
  refine TOps.load1 rfl ti3 (by first | exact Rd.lit (by repeat (first | exact List.Mem.head _ | apply List.Mem.tail)) rfl | (repeat (first | assumption | exact Rd.fld (by assumption) 0 rfl | apply Rd.up))) rfl ?_
  first | refine TOps.fieldB 1 rfl Try.underlying39 rfl rfl ti3 rfl rfl rfl ?_ | refine TOps.fieldN 1 rfl Try.underlying39 rfl rfl ti3 rfl rfl rfl ?_
  refine TOps.load1 rfl ti3 (by first | exact Rd.lit (by repeat (first | exact List.Mem.head _ | apply List.Mem.tail)) rfl | (repeat (first | assumption | exact Rd.fld (by assumption) 1 rfl | apply Rd.up))) rfl ?_
  refine TOps.and rfl rfl rfl rfl ?_
  refine TOps.neqI rfl rfl rfl ?_
  refine TOps.next ?_
  refine Tri.cond rfl (fun hc3 => ?_) (fun hc3 => ?_)
  · try simp only [decide_eq_true_eq, decide_eq_false_iff_not, Bool.and_eq_true, Bool.or_eq_true, Bool.not_eq_true', Bool.and_eq_false_iff, Bool.or_eq_false_iff, Bool.not_eq_false', Int.not_lt, Int.not_le, ne_eq, Decidable.not_not, Option.isSome_iff_ne_none, Option.isNone_iff_eq_none] at hc3
    have hce : F.cubeErr cy cn = some 6 := by rw [hc0, if_neg hmid, if_pos hc3]
    refine Tri.seq (Tri.region ?_)
    refine TOps.buildStruct (vs := []) (xs := [_, _, _]) [(0, 1), (1, 1), (2, 1)] Try.underlying24 ti24 (fun w => by simp) trivial rfl rfl ?_
    refine TOps.makeInterface rfl Try.underlying47 rfl rfl ?_
    refine TOps.storeN rfl rfl ti24 rfl rfl (by repeat (first | exact Upd.here | apply Upd.there)) (by first | decide | (simp; done) | (simp; omega)) ?_
    refine TOps.assign rfl rfl ?_
    refine TOps.next ?_
    refine Tri.ret2 (H' := H) Try.results19 (fun _ _ h => h) (.cellN rfl rfl ti24 (Rd.all (by repeat (first | exact List.Mem.head _ | apply List.Mem.tail))) rfl) (.tmp rfl) (Le.drop (l2.trans l1)) ⟨none, 0, [], ?_, ?_, rfl⟩
    · rw [show F.asgE cy cn = some 6 from by unfold Fm.asgE; rw [hce], show F.asgF cy cn = Fm.zero from by unfold Fm.asgF; rw [hce]]; rfl
    · rw [show F.asgF cy cn = Fm.zero from by unfold Fm.asgF; rw [hce]]; exact .inl rfl
  try simp only [decide_eq_true_eq, decide_eq_false_iff_not, Bool.and_eq_true, Bool.or_eq_true, Bool.not_eq_true', Bool.and_eq_false_iff, Bool.or_eq_false_iff, Bool.not_eq_false', Int.not_lt, Int.not_le, ne_eq, Decidable.not_not, Option.isSome_iff_ne_none, Option.isNone_iff_eq_none] at hc3
  have hce : F.cubeErr cy cn = none := by rw [hc0, if_neg hmid, if_neg (by omega)]
  obtain ⟨v, hv⟩ := Int.eq_ofNat_of_zero_le g0
  have hvn : F.vars.toNat = v := by omega
  obtain ⟨tp, htp⟩ := Int.eq_ofNat_of_zero_le gt.1
  have hE0 : F.asgE cy cn = sizedE (F.asgB cy cn) := by unfold Fm.asgE; rw [hce]
  have hF1 : F.asgF cy cn = sizedF (F.asgB cy cn) := by unfold Fm.asgF; rw [hce]
  rw [hv, htp] at r2
  refine Tri.fin ?_
  refine Nrm.next ?_
  refine Tri.seq (Tri.region ?_)
  refine TOps.field0 rfl Try.underlying24 rfl rfl ti3 rfl rfl rfl ?_
  refine TOps.load1 rfl ti3 (by first | exact Rd.lit (by repeat (first | exact List.Mem.head _ | apply List.Mem.tail)) rfl | (repeat (first | assumption | exact Rd.fld (by assumption) 0 rfl | apply Rd.up))) rfl ?_
  refine TOps.buildStruct (vs := [(0, _)]) (xs := [_, _, _]) [(0, 1), (1, 1), (2, 1)] Try.underlying24 ti24 (fun w => by simp) ⟨rfl, rfl, trivial⟩ rfl rfl ?_
  refine TOps.buildStruct (vs := [(0, _)]) (xs := [_, _, _]) [(0, 3)] Try.underlying61 ti61 (fun w => by simp) ⟨rfl, rfl, trivial⟩ rfl rfl ?_
  refine TOps.boxN rfl ti61 rfl rfl (fun b56 => ?_)
  refine TOps.assign rfl rfl ?_
  refine TOps.next ?_
  refine Tri.seq (Tri.region ?_)
  refine TOps.le (bld_new (TN := 54)) ?_
  refine TOps.move rfl rfl ?_
  refine TOps.call (vs := [_, _, _, _]) Try.call30 ⟨rfl, rfl, rfl, rfl, trivial⟩ (add0_g BS.new_ok (L := 0) rfl ⟨by omega, by omega⟩ (by simp) 0 0) rfl ?_
  rintro _ _ ⟨s1', rfl, hs1', rfl⟩
  refine TOps.move rfl rfl ?_
  refine TOps.call (vs := [_, _, _, _]) Try.call30 ⟨rfl, rfl, rfl, rfl, trivial⟩ (add0_g (L := 1) hs1' rfl ⟨by omega, by omega⟩ (by simp) 0 1) rfl ?_
  rintro _ _ ⟨z1, rfl, hz1, rfl⟩
  refine TOps.assign rfl rfl ?_
  refine TOps.assign rfl rfl ?_
  refine TOps.le (H' := bld 61 54 b56 v firstA 0 z1 (row (some b4) 24 3 1 [.int .i64 0, slV none 0 0 0, .int .i64 0] :: H2)) (Le.refl _) ?_
  have hz1 : z1.ok firstA := hz1
  refine TOps.next ?_
  refine Tri.seq (Tri.region ?_)
  refine TOps.assign rfl rfl ?_
  refine TOps.next ?_
  refine Tri.seq ?_
  refine Tri.seq (Tri.region ?_)
  refine TOps.field0 rfl Try.underlying24 rfl rfl ti3 rfl rfl rfl ?_
  refine TOps.load1 rfl ti3 (Rd.fld (r2.le (Le.trans bld_le (Le.drop (Le.refl _)))) 0 rfl) rfl ?_
  refine TOps.move rfl rfl ?_
  refine TOps.next ?_
  refine Tri.range (X := Option Nat × Nat) (fun z k => [(2, .pointer (some ⟨b2, 0, none⟩)), (3, .pointer (some ⟨b3, 0, none⟩)), (4, .pointer (some ⟨b4, 0, none⟩)), (7, .pointer (some ⟨b56, 0, none⟩)), (8, .int .i64 ((v : Int) + (0 : Nat))), (9, .int .i64 ((v : Int) + (1 : Nat))), (10, slV z.1 0 k z.2)]) (fun z k => bld 61 54 b56 v firstA 0 z1 (row z.1 3 1 z.2 (ints ((asgT v cy cn).take k)) :: row (some b4) 24 3 1 [.int .i64 0, slV none 0 0 0, .int .i64 0] :: H2)) (fun z k => k ≠ 0 → ∃ b, z.1 = some b) (by omega) rfl rfl rfl (fun _ _ => ⟨rfl, rfl, rfl, rfl⟩) (none, 0) (fun h => absurd rfl h) ⟨rfl, rfl, rfl, rfl, rfl, rfl, rfl, trivial⟩ (Le.addNil.trans bld_in) (fun k z hlt hp => ?_) (fun z ac wc hp hS hM => ?_)
  · skip
    have htk := asgT_take (y := cy) (n := cn) hlt
    have htl : ((asgT v cy cn).take k).length = k := by rw [List.length_take, asgT_length]; omega
    have rc := r3.le (Le.trans (bld_le (T := 61) (TN := 54) (b := b56) (v := v) (ns := firstA) (t := 0) (s := z1) (HB := row z.1 3 1 z.2 (ints ((asgT v cy cn).take k)) :: row (some b4) 24 3 1 [.int .i64 0, slV none 0 0 0, .int .i64 0] :: H2)) (Le.drop (Le.drop (Le.refl _))))
    refine Tri.seq (Tri.region ?_)
    refine TOps.move rfl rfl ?_
    refine TOps.assign rfl rfl ?_
    refine TOps.next ?_
    refine Tri.block ?_
    refine Tri.seq (Tri.region ?_)
    refine TOps.field0 rfl Try.underlying39 rfl rfl ti3 rfl rfl rfl ?_
    refine TOps.load1 rfl ti3 (by first | exact Rd.lit (by repeat (first | exact List.Mem.head _ | apply List.Mem.tail)) rfl | (repeat (first | assumption | exact Rd.fld (by assumption) 0 rfl | apply Rd.up))) rfl ?_
    refine TOps.move rfl rfl ?_
    refine TOps.shr rfl rfl (by omega) (by rw [Int.toNat_natCast]) rfl ?_
    refine TOps.and rfl rfl rfl rfl ?_
    refine TOps.eqlI rfl rfl rfl ?_
    refine TOps.assign rfl rfl ?_
    refine TOps.next ?_
    refine Tri.cond rfl (fun hc4 => ?_) (fun hc4 => ?_)
    · try simp only [decide_eq_true_eq, decide_eq_false_iff_not, Bool.and_eq_true, Bool.or_eq_true, Bool.not_eq_true', Bool.and_eq_false_iff, Bool.or_eq_false_iff, Bool.not_eq_false', Int.not_lt, Int.not_le, ne_eq, Decidable.not_not, Option.isSome_iff_ne_none, Option.isNone_iff_eq_none] at hc4
      have helt : asgAt v cy cn k = (v : Int) + (1 : Nat) := if_pos hc4
      refine Tri.region ?_
      refine TOps.move rfl rfl ?_
      refine TOps.move rfl rfl ?_
      refine TOps.buildSlice (vs := [_]) (xs := [_]) Try.underlying52 ti3 ⟨rfl, rfl, trivial⟩ rfl rfl rfl rfl rfl rfl (by decide) rfl (fun b79 => ?_)
      refine TOps.appendLit rfl rfl Try.underlying52 ti3 rfl (fun _ _ => Upd.bld Upd.here) rfl (by rw [List.length_map, htl, Nat.mul_one]) rfl (by omega) (by omega) (by simp) rfl (fun bA capA => ?_)
      refine TOps.assign rfl rfl ?_
      refine TOps.fin ?_
      refine Nrm.unB ?_
      refine Nrm.body (some bA, capA) (fun _ => ⟨_, rfl⟩) ⟨rfl, rfl, rfl, rfl, rfl, rfl, rfl, rfl, rfl, trivial⟩ (by rw [htk, helt, ints_snoc]; exact Le.refl _)
    try simp only [decide_eq_true_eq, decide_eq_false_iff_not, Bool.and_eq_true, Bool.or_eq_true, Bool.not_eq_true', Bool.and_eq_false_iff, Bool.or_eq_false_iff, Bool.not_eq_false', Int.not_lt, Int.not_le, ne_eq, Decidable.not_not, Option.isSome_iff_ne_none, Option.isNone_iff_eq_none] at hc4
    refine Tri.seq (Tri.region ?_)
    first | refine TOps.fieldB 1 rfl Try.underlying39 rfl rfl ti3 rfl rfl rfl ?_ | refine TOps.fieldN 1 rfl Try.underlying39 rfl rfl ti3 rfl rfl rfl ?_
    refine TOps.load1 rfl ti3 (by first | exact Rd.lit (by repeat (first | exact List.Mem.head _ | apply List.Mem.tail)) rfl | (repeat (first | assumption | exact Rd.fld (by assumption) 1 rfl | apply Rd.up))) rfl ?_
    refine TOps.move rfl rfl ?_
    refine TOps.shr rfl rfl (by omega) (by rw [Int.toNat_natCast]) rfl ?_
    refine TOps.and rfl rfl rfl rfl ?_
    refine TOps.eqlI rfl rfl rfl ?_
    refine TOps.assign rfl rfl ?_
    refine TOps.next ?_
    refine Tri.cond rfl (fun hc5 => ?_) (fun hc5 => ?_)
    · try simp only [decide_eq_true_eq, decide_eq_false_iff_not, Bool.and_eq_true, Bool.or_eq_true, Bool.not_eq_true', Bool.and_eq_false_iff, Bool.or_eq_false_iff, Bool.not_eq_false', Int.not_lt, Int.not_le, ne_eq, Decidable.not_not, Option.isSome_iff_ne_none, Option.isNone_iff_eq_none] at hc5
      have helt : asgAt v cy cn k = (v : Int) + (0 : Nat) := by unfold asgAt; rw [if_neg hc4, if_pos hc5]
      refine Tri.region ?_
      refine TOps.move rfl rfl ?_
      refine TOps.move rfl rfl ?_
      refine TOps.buildSlice (vs := [_]) (xs := [_]) Try.underlying52 ti3 ⟨rfl, rfl, trivial⟩ rfl rfl rfl rfl rfl rfl (by decide) rfl (fun b90 => ?_)
      refine TOps.appendLit rfl rfl Try.underlying52 ti3 rfl (fun _ _ => Upd.bld Upd.here) rfl (by rw [List.length_map, htl, Nat.mul_one]) rfl (by omega) (by omega) (by simp) rfl (fun bA capA => ?_)
      refine TOps.assign rfl rfl ?_
      refine TOps.fin ?_
      refine Nrm.unB ?_
      refine Nrm.body (some bA, capA) (fun _ => ⟨_, rfl⟩) ⟨rfl, rfl, rfl, rfl, rfl, rfl, rfl, rfl, rfl, trivial⟩ (by rw [htk, helt, ints_snoc]; exact Le.refl _)
    try simp only [decide_eq_true_eq, decide_eq_false_iff_not, Bool.and_eq_true, Bool.or_eq_true, Bool.not_eq_true', Bool.and_eq_false_iff, Bool.or_eq_false_iff, Bool.not_eq_false', Int.not_lt, Int.not_le, ne_eq, Decidable.not_not, Option.isSome_iff_ne_none, Option.isNone_iff_eq_none] at hc5
    have helt : asgAt v cy cn k = (k : Int) := by unfold asgAt; rw [if_neg hc4, if_neg hc5]
    refine Tri.region ?_
    refine TOps.move rfl rfl ?_
    refine TOps.move rfl rfl ?_
    refine TOps.buildSlice (vs := [_]) (xs := [_]) Try.underlying52 ti3 ⟨rfl, rfl, trivial⟩ rfl rfl rfl rfl rfl rfl (by decide) rfl (fun b68 => ?_)
    refine TOps.appendLit rfl rfl Try.underlying52 ti3 rfl (fun _ _ => Upd.bld Upd.here) rfl (by rw [List.length_map, htl, Nat.mul_one]) rfl (by omega) (by omega) (by simp) rfl (fun bA capA => ?_)
    refine TOps.assign rfl rfl ?_
    refine TOps.fin ?_
    refine Nrm.unB ?_
    refine Nrm.body (some bA, capA) (fun _ => ⟨_, rfl⟩) ⟨rfl, rfl, rfl, rfl, rfl, rfl, rfl, rfl, rfl, trivial⟩ (by rw [htk, helt, ints_snoc]; exact Le.refl _)
  rw [show (asgT v cy cn).take v = asgT v cy cn from List.take_of_length_le (by rw [asgT_length]; omega)] at hM
  obtain ⟨ta, tc⟩ := z
  dsimp only at hp hM hS
  have hta0 : asgT v cy cn ≠ [] → ∃ b, ta = some b := fun h => hp (by intro h0; apply h; apply List.eq_nil_of_length_eq_zero; rw [asgT_length]; exact h0)
  obtain ⟨TE, hTE⟩ : ∃ TE, asgT v cy cn = TE := ⟨_, rfl⟩
  have hTEl : TE.length = v := by rw [← hTE, asgT_length]
  rw [hTE] at hM hta0
  have hfe := followS_eq (v := (v : Int)) (nodes := F.nodes) (T0 := TE) (ns0 := firstA) (fun i hi a ha => by have := hg.argLt hi a ha; omega) _ (Nat.le_refl _)
  rw [List.take_length] at hfe
  have hJe : F.asgB cy cn = ⟨(v : Int), (followS v F.nodes TE firstA F.nodes.length).2, (followS v F.nodes TE firstA F.nodes.length).1.getD tp 0⟩ := by rw [hfe]; unfold Fm.asgB Fm.join; rw [hvn, hTE, hv, htp, Int.toNat_natCast]
  have hfl := followS_len v F.nodes TE firstA F.nodes.length
  have hfA : firstA.length = 2 := rfl
  obtain ⟨TF, hTF⟩ : ∃ TF, (followS v F.nodes TE firstA F.nodes.length).1 = TF := ⟨_, rfl⟩
  obtain ⟨JN, hJN⟩ : ∃ JN, (followS v F.nodes TE firstA F.nodes.length).2 = JN := ⟨_, rfl⟩
  rw [hTF, hJN] at hJe hfl
  rw [hJe] at hE0 hF1
  obtain ⟨SF, hSF⟩ : ∃ SF, sizedF ⟨(v : Int), JN, TF.getD tp 0⟩ = SF := ⟨_, rfl⟩
  rw [hSF] at hF1
  refine Nrm.of hS hM ?_
  refine Nrm.next ?_
  refine Tri.seq ?_
  have hlc : ∀ (x : BS × (Nat × Nat) × Option Nat × Nat × List Ent) (c : Nat), Le (match c with | 0 => bld 61 54 b56 v firstA 0 z1 (row ta 3 1 tc (ints TE) :: row (some b4) 24 3 1 [.int .i64 0, slV none 0 0 0, .int .i64 0] :: H2) | 1 => fact (x.1.ok JN) :: bld 61 54 b56 v JN 0 x.1 (row (some x.2.1.1) 3 1 x.2.1.2 (ints TF) :: row (some b4) 24 3 1 [.int .i64 0, slV none 0 0 0, .int .i64 0] :: H2) | 2 => fact (RNodes x.2.2.2.2 x.2.2.1 0 SF.nodes) :: (x.2.2.2.2 ++ (row (some x.2.1.1) 3 1 x.2.1.2 (ints TF) :: row (some b4) 24 3 1 [.int .i64 0, slV none 0 0 0, .int .i64 0] :: H2)) | _ + 3 => fact (RNodes x.2.2.2.2 x.2.2.1 0 SF.nodes) :: (x.2.2.2.2 ++ (row (some x.2.1.1) 3 1 x.2.1.2 (ints TF) :: row (some b4) 24 3 1 [.int .i64 SF.vars, slV x.2.2.1 0 SF.nodes.length x.2.2.2.1, .int .i64 SF.top] :: H2))) H2 := by
    intro x c
    match c with
    | 0 => exact Le.trans bld_le (Le.drop (Le.drop (Le.refl _)))
    | 1 => exact Le.drop (Le.trans bld_le (Le.drop (Le.drop (Le.refl _))))
    | 2 => exact Le.drop ((Le.sub (List.sublist_append_right _ _)).trans (Le.drop (Le.drop (Le.refl _))))
    | _ + 3 => exact Le.drop ((Le.sub (List.sublist_append_right _ _)).trans (Le.drop (Le.drop (Le.refl _))))
  refine Tri.drawX (X := BS × (Nat × Nat) × Option Nat × Nat × List Ent) rfl [(2, .pointer (some ⟨b2, 0, none⟩)), (3, .pointer (some ⟨b3, 0, none⟩)), (4, .pointer (some ⟨b4, 0, none⟩)), (7, .pointer (some ⟨b56, 0, none⟩)), (10, slV ta 0 v tc)] [] (fun x => [_, _, _, _, slV (some x.2.1.1) 0 (v + F.nodes.length) x.2.1.2, _, _, .pointer (some ⟨x.2.1.1, tp, none⟩), .int .i64 (TF.getD tp 0), .tuple (List.toArray [.agg (List.toArray [.int .i64 SF.vars, slV x.2.2.1 0 SF.nodes.length x.2.2.2.1, .int .i64 SF.top]), errV 47 (sizedE ⟨(v : Int), JN, TF.getD tp 0⟩)]), .agg (List.toArray [.int .i64 SF.vars, slV x.2.2.1 0 SF.nodes.length x.2.2.2.1, .int .i64 SF.top]), errV 47 (sizedE ⟨(v : Int), JN, TF.getD tp 0⟩), undef, errV 47 (sizedE ⟨(v : Int), JN, TF.getD tp 0⟩)]) (fun x c => match c with | 0 => bld 61 54 b56 v firstA 0 z1 (row ta 3 1 tc (ints TE) :: row (some b4) 24 3 1 [.int .i64 0, slV none 0 0 0, .int .i64 0] :: H2) | 1 => fact (x.1.ok JN) :: bld 61 54 b56 v JN 0 x.1 (row (some x.2.1.1) 3 1 x.2.1.2 (ints TF) :: row (some b4) 24 3 1 [.int .i64 0, slV none 0 0 0, .int .i64 0] :: H2) | 2 => fact (RNodes x.2.2.2.2 x.2.2.1 0 SF.nodes) :: (x.2.2.2.2 ++ (row (some x.2.1.1) 3 1 x.2.1.2 (ints TF) :: row (some b4) 24 3 1 [.int .i64 0, slV none 0 0 0, .int .i64 0] :: H2)) | _ + 3 => fact (RNodes x.2.2.2.2 x.2.2.1 0 SF.nodes) :: (x.2.2.2.2 ++ (row (some x.2.1.1) 3 1 x.2.1.2 (ints TF) :: row (some b4) 24 3 1 [.int .i64 SF.vars, slV x.2.2.1 0 SF.nodes.length x.2.2.2.1, .int .i64 SF.top] :: H2))) [4, 9, 12] (BS.new, (0, 0), none, 0, []) [13] rfl rfl ⟨rfl, rfl, rfl, rfl, rfl, trivial⟩ trivial (by repeat (first | exact Le.refl _ | assumption | apply Le.drop)) (by
    refine ⟨?_, ?_, ?_, ?_, ?_, ?_, ?_, ?_, ?_, ?_, ?_, ?_, ?_, ?_, trivial⟩
    · refine ⟨fun x S c he hw hd hc hcu hm _ => ?_, trivial⟩
      refine TOps.move (he _ _ rfl) rfl ?_
      exact TOps.fin (Nrm.draw x (fun _ _ _ => rfl) rfl (by first | exact Le.refl _ | assumption | exact (by repeat (first | exact Le.refl _ | assumption | apply Le.drop))))
    · refine ⟨fun x S c he hw hd hc hcu hm _ => ?_, trivial⟩
      refine TOps.move (he _ _ rfl) rfl ?_
      exact TOps.fin (Nrm.draw x (fun _ _ _ => rfl) rfl (by first | exact Le.refl _ | assumption | exact (by repeat (first | exact Le.refl _ | assumption | apply Le.drop))))
    · refine ⟨fun x S c he hw hd hc hcu hm _ => ?_, trivial⟩
      refine TOps.loadN (he _ _ rfl) ti24 (r2.le (hlc x c)) rfl rfl ?_
      exact TOps.fin (Nrm.draw x (fun _ _ _ => rfl) rfl (by first | exact Le.refl _ | assumption | exact (by repeat (first | exact Le.refl _ | assumption | apply Le.drop))))
    · refine ⟨fun x S c he hw hd hc hcu hm _ => ?_, trivial⟩
      refine TOps.move (he _ _ rfl) rfl ?_
      exact TOps.fin (Nrm.draw x (fun _ _ _ => rfl) rfl (by first | exact Le.refl _ | assumption | exact (by repeat (first | exact Le.refl _ | assumption | apply Le.drop))))
    · refine ⟨fun x S c he hw hd hc hcu hm _ => ?_, trivial⟩
      obtain ⟨h1, h2, h3, -⟩ := hd
      obtain rfl : c = 0 := hm rfl
      refine TOps.call (vs := [_, _, _]) Try.call41 ⟨h1, h2, h3, trivial⟩ (follow_g hz1 ⟨by omega, by omega⟩ (by omega) (by rw [← hv, ← htp]; exact hF0.le (Le.drop (Le.refl _))) hg (by omega) hTEl hta0) rfl ?_
      rintro _ _ ⟨s', ta', tc', rfl, hso, hok, rfl⟩
      rw [hTF, hJN] at *
      obtain ⟨gb, rfl⟩ := hso (by omega)
      refine TOps.fin (Nrm.draw (s', (gb, tc'), x.2.2) ?_ rfl (Le.addFact hok))
      intro j hj hcj; rcases j with _|_|_|_|_|_|_|_|_|_|_|_|_|_|j <;> first | rfl | exact absurd rfl hj | exact absurd hcj (by decide)
    · refine ⟨fun x S c he hw hd hc hcu hm _ => ?_, trivial⟩
      first | refine TOps.fieldB 2 (he _ _ rfl) Try.underlying24 rfl rfl ti3 rfl rfl rfl ?_ | refine TOps.fieldN 2 (he _ _ rfl) Try.underlying24 rfl rfl ti3 rfl rfl rfl ?_
      exact TOps.fin (Nrm.draw x (fun _ _ _ => rfl) rfl (by first | exact Le.refl _ | assumption | exact (by repeat (first | exact Le.refl _ | assumption | apply Le.drop))))
    · refine ⟨fun x S c he hw hd hc hcu hm _ => ?_, trivial⟩
      obtain ⟨h5, -⟩ := hd
      refine TOps.load1 h5 ti3 (Rd.fld (r2.le (hlc x c)) 2 rfl) rfl ?_
      exact TOps.fin (Nrm.draw x (fun _ _ _ => rfl) rfl (by first | exact Le.refl _ | assumption | exact (by repeat (first | exact Le.refl _ | assumption | apply Le.drop))))
    · refine ⟨fun x S c he hw hd hc hcu hm _ => ?_, trivial⟩
      obtain ⟨h4, h6, -⟩ := hd
      refine TOps.indexAddr (off' := tp) h4 h6 Try.underlying52 ti3 (by omega) (by omega) (by simp) rfl ?_
      exact TOps.fin (Nrm.draw x (fun _ _ _ => rfl) rfl (by first | exact Le.refl _ | assumption | exact (by repeat (first | exact Le.refl _ | assumption | apply Le.drop))))
    · refine ⟨fun x S c he hw hd hc hcu hm _ => ?_, trivial⟩
      obtain ⟨h7, -⟩ := hd
      obtain rfl : c = 1 := by have h1 : 1 ≤ c := hc; have h2 : c ≤ 1 := hcu; omega
      refine TOps.load1 (v := .int .i64 (TF.getD tp 0)) h7 ti3 (Rd.up (Rd.le (Rd.lit (List.Mem.head _) (ints_get (by omega))) bld_le)) rfl ?_
      exact TOps.fin (Nrm.draw x (fun _ _ _ => rfl) rfl (by first | exact Le.refl _ | assumption | exact (by repeat (first | exact Le.refl _ | assumption | apply Le.drop))))
    · refine ⟨fun x S c he hw hd hc hcu hm _ => ?_, trivial⟩
      obtain ⟨h0, h8, h4, -⟩ := hd
      obtain rfl : c = 1 := hm rfl
      refine TOps.fact (List.Mem.head _) (fun hok => ?_)
      refine TOps.le (Le.drop (Le.refl _)) ?_
      refine TOps.call (vs := [_, _]) Try.call42 ⟨h0, h8, trivial⟩ (done_g hok (by omega) _) rfl ?_
      rintro _ _ ⟨a1, c1, NN, rfl, hN2, rfl⟩
      rw [hSF] at hN2 ⊢
      refine TOps.fin (Nrm.draw (x.1, x.2.1, a1, c1, NN) ?_ rfl (Le.addFact hN2))
      intro j hj hcj; rcases j with _|_|_|_|_|_|_|_|_|_|_|_|_|_|j <;> first | rfl | exact absurd rfl hj | exact absurd hcj (by decide)
    · refine ⟨fun x S c he hw hd hc hcu hm _ => ?_, trivial⟩
      obtain ⟨h9, -⟩ := hd
      refine TOps.extract h9 rfl rfl ?_
      exact TOps.fin (Nrm.draw x (fun _ _ _ => rfl) rfl (by first | exact Le.refl _ | assumption | exact (by repeat (first | exact Le.refl _ | assumption | apply Le.drop))))
    · refine ⟨fun x S c he hw hd hc hcu hm _ => ?_, trivial⟩
      obtain ⟨h9, -⟩ := hd
      refine TOps.extract h9 rfl rfl ?_
      exact TOps.fin (Nrm.draw x (fun _ _ _ => rfl) rfl (by first | exact Le.refl _ | assumption | exact (by repeat (first | exact Le.refl _ | assumption | apply Le.drop))))
    · refine ⟨fun x S c he hw hd hc hcu hm _ => ?_, trivial⟩
      obtain ⟨h10, h9, h0, h1, h2, h3, h4, h5, h6, h7, h8, _, _, h11, -⟩ := hd
      obtain rfl : c = 2 := hm rfl
      refine TOps.storeN (he _ _ rfl) h10 ti24 rfl rfl (Upd.there (Upd.app (Upd.there Upd.here) _)) (by simp) ?_
      exact TOps.fin (Nrm.draw x (fun _ _ _ => rfl) rfl (by first | exact Le.refl _ | assumption | exact (by repeat (first | exact Le.refl _ | assumption | apply Le.drop))))
    · refine ⟨fun x S c he hw hd hc hcu hm _ => ?_, trivial⟩
      obtain ⟨h11, h12, h0, h1, h2, h3, h4, h5, h6, h7, h8, h9, h10, _, _, -⟩ := hd
      refine TOps.assign h11 rfl ?_
      exact TOps.fin (Nrm.draw x (fun _ _ _ => rfl) rfl (by first | exact Le.refl _ | assumption | exact (by repeat (first | exact Le.refl _ | assumption | apply Le.drop))))
    ) (fun w2 => ?_)
  refine Nrm.fact (List.Mem.head _) (fun hNf => ?_)
  refine Nrm.le (Le.drop (Le.refl _)) ?_
  refine Nrm.next ?_
  refine Tri.ret2 (H' := w2.2.2.2.2 ++ H) Try.results19 (fun _ _ h => h) (.cellN rfl rfl ti24 (Rd.all (List.mem_append_right _ (List.Mem.tail _ (List.Mem.head _)))) rfl) (.tmp rfl) (sub_app (List.Sublist.cons _ (List.Sublist.cons _ (s1.trans s2)))) ⟨w2.2.2.1, w2.2.2.2.1, w2.2.2.2.2, ?_, ?_, rfl⟩
  · rw [hE0, hF1]; rfl
  · rw [hF1]; exact hNf
end Go.Proofs
