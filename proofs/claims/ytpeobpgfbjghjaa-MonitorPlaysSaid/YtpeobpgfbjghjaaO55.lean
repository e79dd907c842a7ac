import Derived.Test.YtpeobpgfbjghjaaN55
namespace Go.Proofs
open Go.GL
set_option linter.unusedVariables false
set_option linter.unusedSimpArgs false
theorem monitorPlaysErr_g {H : List Ent} {fv : Value} {F : Fm} (hF : RF H fv F) (hk : F.ok) {e : Int} (he : F.err = some e) {m aa sp : Option Nat} {ao n acap : Nat} :
    Gives Try.prog 6 [fv, slV aa ao n acap sp] H (R1 (.bool true) H) := by
  have hF0 := hF
  obtain ⟨na, off, cap, nsp, rfl, hN⟩ := hF
  refine Gives.enter Try.func6 rfl (by exact Try.ntmps6) rfl ?_
  refine Tri.seq (Tri.region ?_)
  refine TOps.boxN rfl ti24 rfl rfl (fun b2 => ?_)
  refine TOps.hide (fun H1 l1 s1 r1 => ?_)
  replace hF0 := hF0.le l1
  refine TOps.assign rfl rfl ?_
  refine TOps.next ?_
  refine Tri.seq ?_
  refine Tri.seq (Tri.region ?_)
  refine TOps.call (vs := []) Try.call8 trivial (awake55_g) rfl ?_
  rintro _ _ ⟨rfl, rfl⟩
  refine TOps.not rfl rfl ?_
  refine TOps.move rfl rfl ?_
  refine' TOps.orB 3 rfl rfl rfl rfl (fun hg1_2 => ?_) ?_; rotate_left
  · have hg1_2' := hg1_2
    try simp only [decide_eq_true_eq, decide_eq_false_iff_not, Bool.and_eq_true, Bool.or_eq_true, Bool.not_eq_true', Bool.and_eq_false_iff, Bool.or_eq_false_iff, Bool.not_eq_false', Int.not_lt, Int.not_le, ne_eq, Decidable.not_not] at hg1_2'
    refine TOps.strip 2 false rfl rfl hg1_2 rfl ?_
    refine TOps.loadN rfl ti24 (by first | exact Rd.all (by repeat (first | exact List.Mem.head _ | apply List.Mem.tail)) | (repeat (first | assumption | apply Rd.up))) rfl rfl ?_
    refine TOps.call (vs := [_]) Try.call9 ⟨rfl, trivial⟩ (light_g hF0 hk) rfl ?_
    rintro _ _ ⟨rfl, rfl⟩
    refine TOps.not rfl rfl ?_
    refine TOps.blk rfl (by repeat (first | exact Ext.refl _ | refine Ext.cons rfl ?_)) (by repeat (first | exact Le.refl _ | apply Le.drop))
  refine TOps.move rfl rfl ?_
  refine' TOps.orB 3 rfl rfl rfl rfl (fun hg1_7 => ?_) ?_; rotate_left
  · have hg1_7' := hg1_7
    try simp only [decide_eq_true_eq, decide_eq_false_iff_not, Bool.and_eq_true, Bool.or_eq_true, Bool.not_eq_true', Bool.and_eq_false_iff, Bool.or_eq_false_iff, Bool.not_eq_false', Int.not_lt, Int.not_le, ne_eq, Decidable.not_not] at hg1_7'
    refine TOps.strip 7 false rfl rfl hg1_7 rfl ?_
    refine TOps.move rfl rfl ?_
    refine TOps.len rfl Try.underlying25 rfl ?_
    refine TOps.gtr rfl rfl rfl ?_
    refine TOps.blk rfl (by repeat (first | exact Ext.refl _ | refine Ext.cons rfl ?_)) (by repeat (first | exact Le.refl _ | apply Le.drop))
  refine TOps.next ?_
  refine Tri.cond rfl (fun hc1 => ?_) (fun hc1 => ?_)
  · try simp only [decide_eq_true_eq, decide_eq_false_iff_not, Bool.and_eq_true, Bool.or_eq_true, Bool.not_eq_true', Bool.and_eq_false_iff, Bool.or_eq_false_iff, Bool.not_eq_false', Int.not_lt, Int.not_le, ne_eq, Decidable.not_not, Option.isSome_iff_ne_none, Option.isNone_iff_eq_none] at hc1
    refine Tri.seq (Tri.region ?_)
    refine TOps.call (vs := []) Try.call8 trivial (awake55_g) rfl ?_
    rintro _ _ ⟨rfl, rfl⟩
    refine TOps.assign rfl rfl ?_
    refine TOps.next ?_
    refine Tri.ret1 (H' := H) Try.results6 (fun _ _ h => h) (.tmp rfl) l1 ⟨rfl, rfl⟩
  try simp only [decide_eq_true_eq, decide_eq_false_iff_not, Bool.and_eq_true, Bool.or_eq_true, Bool.not_eq_true', Bool.and_eq_false_iff, Bool.or_eq_false_iff, Bool.not_eq_false', Int.not_lt, Int.not_le, ne_eq, Decidable.not_not, Option.isSome_iff_ne_none, Option.isNone_iff_eq_none] at hc1
  refine Tri.fin ?_
  refine Nrm.next ?_
  refine Tri.seq (Tri.region ?_)
  refine TOps.loadN rfl ti24 (by first | exact Rd.all (by repeat (first | exact List.Mem.head _ | apply List.Mem.tail)) | (repeat (first | assumption | apply Rd.up))) rfl rfl ?_
  refine TOps.call (vs := [_]) Try.call17 ⟨rfl, trivial⟩ (newErr_g hF0 hk he) rfl ?_
  rintro _ _ ⟨rfl, rfl⟩
  refine TOps.move rfl rfl ?_
  refine TOps.extract rfl rfl rfl ?_
  refine TOps.extract rfl rfl rfl ?_
  refine TOps.assign rfl rfl ?_
  refine TOps.assign rfl rfl ?_
  refine TOps.next ?_
  refine Tri.seq ?_
  refine Tri.seq (Tri.region ?_)
  refine TOps.loadN rfl ti24 (by first | exact Rd.all (by repeat (first | exact List.Mem.head _ | apply List.Mem.tail)) | (repeat (first | assumption | apply Rd.up))) rfl rfl ?_
  refine TOps.call (vs := [_]) Try.call26 ⟨rfl, trivial⟩ (rcheck_g hF0 hk) rfl ?_
  rintro _ _ ⟨rfl, rfl⟩
  rw [he]
  refine TOps.assign rfl rfl ?_
  refine TOps.next ?_
  refine Tri.seq (Tri.region ?_)
  refine TOps.move rfl rfl ?_
  refine TOps.neqIr (r := true) rfl rfl (decide_eq_true (Fm.err_ne_zero he)) rfl ?_
  refine TOps.next ?_
  refine Tri.cond rfl (fun hc2 => ?_) (fun hc2 => ?_)
  · try simp only [decide_eq_true_eq, decide_eq_false_iff_not, Bool.and_eq_true, Bool.or_eq_true, Bool.not_eq_true', Bool.and_eq_false_iff, Bool.or_eq_false_iff, Bool.not_eq_false', Int.not_lt, Int.not_le, ne_eq, Decidable.not_not, Option.isSome_iff_ne_none, Option.isNone_iff_eq_none] at hc2
    refine Tri.seq (Tri.region ?_)
    refine TOps.move rfl rfl ?_
    refine TOps.eqlPtrNil (a := none) rfl Try.underlying31 rfl ?_
    refine TOps.move rfl rfl ?_
    refine' TOps.andB 4 rfl rfl rfl rfl (fun hg6_2 => ?_) ?_; rotate_left
    · have hg6_2' := hg6_2
      try simp only [decide_eq_true_eq, decide_eq_false_iff_not, Bool.and_eq_true, Bool.or_eq_true, Bool.not_eq_true', Bool.and_eq_false_iff, Bool.or_eq_false_iff, Bool.not_eq_false', Int.not_lt, Int.not_le, ne_eq, Decidable.not_not] at hg6_2'
      refine TOps.strip 2 true rfl rfl hg6_2 rfl ?_
      refine TOps.move rfl rfl ?_
      refine TOps.call (vs := [_]) Try.call27 ⟨rfl, trivial⟩ (num_g (some e)) rfl ?_
      rintro _ _ ⟨rfl, rfl⟩
      refine TOps.move rfl rfl ?_
      refine TOps.eqlIr (r := true) rfl rfl (by simp) rfl ?_
      refine TOps.blk rfl (by repeat (first | exact Ext.refl _ | refine Ext.cons rfl ?_)) (by repeat (first | exact Le.refl _ | apply Le.drop))
    refine TOps.assign rfl rfl ?_
    refine TOps.next ?_
    refine Tri.ret1 (H' := H) Try.results6 (fun _ _ h => h) (.tmp rfl) l1 ⟨rfl, rfl⟩
  · exact absurd hc2 (by first | decide | simp)
theorem monitorPlaysOk_g {H : List Ent} {fv : Value} {F : Fm} (hF : RF H fv F) (hg : F.Good) {l : List (Int × Int)} {aa sp : Option Nat} {ao acap : Nat} (hr : RdS H aa ao (actCells l) sp) (hl : l.length ≤ 9223372036854775807) (hb : ∀ a ∈ l, 0 ≤ a.1 ∧ a.1 ≤ 255) :
    Gives Try.prog 6 [fv, slV aa ao l.length acap sp] H (R1 (.bool true) H) := by
  have hF0 := hF
  have hk := hg.ok
  have he : F.err = none := (Fm.good_iff F).2 hg
  obtain ⟨na, off, cap, nsp, rfl, hN⟩ := hF
  refine Gives.enter Try.func6 rfl (by exact Try.ntmps6) rfl ?_
  refine Tri.seq (Tri.region ?_)
  refine TOps.boxN rfl ti24 rfl rfl (fun b2 => ?_)
  refine TOps.hide (fun H1 l1 s1 r1 => ?_)
  replace hF0 := hF0.le l1; replace hr := RdS.le hr l1
  refine TOps.assign rfl rfl ?_
  refine TOps.next ?_
  refine Tri.seq ?_
  refine Tri.seq (Tri.region ?_)
  refine TOps.call (vs := []) Try.call8 trivial (awake55_g) rfl ?_
  rintro _ _ ⟨rfl, rfl⟩
  refine TOps.not rfl rfl ?_
  refine TOps.move rfl rfl ?_
  refine' TOps.orB 3 rfl rfl rfl rfl (fun hg1_2 => ?_) ?_; rotate_left
  · have hg1_2' := hg1_2
    try simp only [decide_eq_true_eq, decide_eq_false_iff_not, Bool.and_eq_true, Bool.or_eq_true, Bool.not_eq_true', Bool.and_eq_false_iff, Bool.or_eq_false_iff, Bool.not_eq_false', Int.not_lt, Int.not_le, ne_eq, Decidable.not_not] at hg1_2'
    refine TOps.strip 2 false rfl rfl hg1_2 rfl ?_
    refine TOps.loadN rfl ti24 (by first | exact Rd.all (by repeat (first | exact List.Mem.head _ | apply List.Mem.tail)) | (repeat (first | assumption | apply Rd.up))) rfl rfl ?_
    refine TOps.call (vs := [_]) Try.call9 ⟨rfl, trivial⟩ (light_g hF0 hk) rfl ?_
    rintro _ _ ⟨rfl, rfl⟩
    refine TOps.not rfl rfl ?_
    refine TOps.blk rfl (by repeat (first | exact Ext.refl _ | refine Ext.cons rfl ?_)) (by repeat (first | exact Le.refl _ | apply Le.drop))
  refine TOps.move rfl rfl ?_
  refine' TOps.orB 3 rfl rfl rfl rfl (fun hg1_7 => ?_) ?_; rotate_left
  · have hg1_7' := hg1_7
    try simp only [decide_eq_true_eq, decide_eq_false_iff_not, Bool.and_eq_true, Bool.or_eq_true, Bool.not_eq_true', Bool.and_eq_false_iff, Bool.or_eq_false_iff, Bool.not_eq_false', Int.not_lt, Int.not_le, ne_eq, Decidable.not_not] at hg1_7'
    refine TOps.strip 7 false rfl rfl hg1_7 rfl ?_
    refine TOps.move rfl rfl ?_
    refine TOps.len rfl Try.underlying25 rfl ?_
    refine TOps.gtr rfl rfl rfl ?_
    refine TOps.blk rfl (by repeat (first | exact Ext.refl _ | refine Ext.cons rfl ?_)) (by repeat (first | exact Le.refl _ | apply Le.drop))
  refine TOps.next ?_
  refine Tri.cond rfl (fun hc1 => ?_) (fun hc1 => ?_)
  · try simp only [decide_eq_true_eq, decide_eq_false_iff_not, Bool.and_eq_true, Bool.or_eq_true, Bool.not_eq_true', Bool.and_eq_false_iff, Bool.or_eq_false_iff, Bool.not_eq_false', Int.not_lt, Int.not_le, ne_eq, Decidable.not_not, Option.isSome_iff_ne_none, Option.isNone_iff_eq_none] at hc1
    refine Tri.seq (Tri.region ?_)
    refine TOps.call (vs := []) Try.call8 trivial (awake55_g) rfl ?_
    rintro _ _ ⟨rfl, rfl⟩
    refine TOps.assign rfl rfl ?_
    refine TOps.next ?_
    refine Tri.ret1 (H' := H) Try.results6 (fun _ _ h => h) (.tmp rfl) l1 ⟨rfl, rfl⟩
  try simp only [decide_eq_true_eq, decide_eq_false_iff_not, Bool.and_eq_true, Bool.or_eq_true, Bool.not_eq_true', Bool.and_eq_false_iff, Bool.or_eq_false_iff, Bool.not_eq_false', Int.not_lt, Int.not_le, ne_eq, Decidable.not_not, Option.isSome_iff_ne_none, Option.isNone_iff_eq_none] at hc1
  refine Tri.fin ?_
  refine Nrm.next ?_
  refine Tri.seq (Tri.region ?_)
  refine TOps.loadN rfl ti24 (by first | exact Rd.all (by repeat (first | exact List.Mem.head _ | apply List.Mem.tail)) | (repeat (first | assumption | apply Rd.up))) rfl rfl ?_
  refine TOps.call (vs := [_]) Try.call17 ⟨rfl, trivial⟩ (newN_g hF0 hg) rfl ?_
  rintro _ _ ⟨m, nv, N, rfl, hFN, rfl⟩
  obtain ⟨HB, hHB⟩ : ∃ HB, HB = N ++ H1 := ⟨_, rfl⟩
  rw [← hHB]
  have lB : Le HB H1 := by rw [hHB]; exact Le.sub (List.sublist_append_right _ _)
  have hFB : RF HB (.agg (List.toArray [.int .i64 F.vars, nv, .int .i64 F.top])) F := by rw [hHB]; exact hFN.le (Le.sub (List.sublist_append_left _ _))
  replace hF0 := hF0.le lB; replace r1 := r1.le lB; replace hr := RdS.le hr lB; replace lB := lB.trans l1
  clear hHB hFN
  have hL2 : ∀ (a b : Ent), Le (a :: b :: HB) HB := fun a b => Le.drop (Le.drop (Le.refl _))
  refine TOps.move rfl rfl ?_
  refine TOps.extract rfl rfl rfl ?_
  refine TOps.extract rfl rfl rfl ?_
  refine TOps.assign rfl rfl ?_
  refine TOps.assign rfl rfl ?_
  refine TOps.next ?_
  refine Tri.seq ?_
  refine Tri.seq (Tri.region ?_)
  refine TOps.loadN rfl ti24 (by first | exact Rd.all (by repeat (first | exact List.Mem.head _ | apply List.Mem.tail)) | (repeat (first | assumption | apply Rd.up))) rfl rfl ?_
  refine TOps.call (vs := [_]) Try.call26 ⟨rfl, trivial⟩ (rcheck_g (hF0.le (hL2 _ _)) hk) rfl ?_
  rintro _ _ ⟨rfl, rfl⟩
  rw [he]
  refine TOps.assign rfl rfl ?_
  refine TOps.next ?_
  refine Tri.seq (Tri.region ?_)
  refine TOps.move rfl rfl ?_
  refine TOps.neqIr (r := false) rfl rfl rfl rfl ?_
  refine TOps.next ?_
  refine Tri.cond rfl (fun hc2 => ?_) (fun hc2 => ?_)
  · exact absurd hc2 (by first | decide | simp)
  try simp only [decide_eq_true_eq, decide_eq_false_iff_not, Bool.and_eq_true, Bool.or_eq_true, Bool.not_eq_true', Bool.and_eq_false_iff, Bool.or_eq_false_iff, Bool.not_eq_false', Int.not_lt, Int.not_le, ne_eq, Decidable.not_not, Option.isSome_iff_ne_none, Option.isNone_iff_eq_none] at hc2
  refine Tri.fin ?_
  refine Nrm.next ?_
  refine Tri.seq ?_
  refine Tri.seq (Tri.region ?_)
  refine TOps.move rfl rfl ?_
  refine TOps.neqNil (T := 47) (o := none) rfl Try.underlying29 rfl ?_
  refine TOps.move rfl rfl ?_
  refine' TOps.orB 3 rfl rfl rfl rfl (fun hg7_2 => ?_) ?_; rotate_left
  · have hg7_2' := hg7_2
    try simp only [decide_eq_true_eq, decide_eq_false_iff_not, Bool.and_eq_true, Bool.or_eq_true, Bool.not_eq_true', Bool.and_eq_false_iff, Bool.or_eq_false_iff, Bool.not_eq_false', Int.not_lt, Int.not_le, ne_eq, Decidable.not_not] at hg7_2'
    refine TOps.strip 2 false rfl rfl hg7_2 rfl ?_
    refine TOps.field0 rfl Try.underlying24 rfl rfl ti3 rfl rfl rfl ?_
    refine TOps.load1 rfl ti3 (by first | exact Rd.lit (by repeat (first | exact List.Mem.head _ | apply List.Mem.tail)) rfl | (repeat (first | assumption | exact Rd.fld (by assumption) 0 rfl | apply Rd.up))) rfl ?_
    refine TOps.gtr rfl rfl rfl ?_
    refine TOps.blk rfl (by repeat (first | exact Ext.refl _ | refine Ext.cons rfl ?_)) (by repeat (first | exact Le.refl _ | apply Le.drop))
  refine TOps.next ?_
  refine Tri.cond rfl (fun hc3 => ?_) (fun hc3 => ?_)
  · try simp only [decide_eq_true_eq, decide_eq_false_iff_not, Bool.and_eq_true, Bool.or_eq_true, Bool.not_eq_true', Bool.and_eq_false_iff, Bool.or_eq_false_iff, Bool.not_eq_false', Int.not_lt, Int.not_le, ne_eq, Decidable.not_not, Option.isSome_iff_ne_none, Option.isNone_iff_eq_none] at hc3
    refine Tri.seq (Tri.region ?_)
    refine TOps.move rfl rfl ?_
    refine TOps.eqlNil (T := 47) (o := none) rfl Try.underlying29 rfl ?_
    refine TOps.assign rfl rfl ?_
    refine TOps.next ?_
    refine Tri.ret1 (H' := H) Try.results6 (fun _ _ h => h) (.tmp rfl) ((hL2 _ _).trans lB) ⟨rfl, rfl⟩
  try simp only [decide_eq_true_eq, decide_eq_false_iff_not, Bool.and_eq_true, Bool.or_eq_true, Bool.not_eq_true', Bool.and_eq_false_iff, Bool.or_eq_false_iff, Bool.not_eq_false', Int.not_lt, Int.not_le, ne_eq, Decidable.not_not, Option.isSome_iff_ne_none, Option.isNone_iff_eq_none] at hc3
  refine Tri.fin ?_
  refine Nrm.next ?_
  refine Tri.seq (Tri.region ?_)
  refine TOps.loadN rfl ti24 (by first | exact Rd.all (by repeat (first | exact List.Mem.head _ | apply List.Mem.tail)) | (repeat (first | assumption | apply Rd.up))) rfl rfl ?_
  refine TOps.buildStruct (vs := [(0, _)]) (xs := [_, _, _, _, _]) [(0, 3), (3, 1), (4, 1)] Try.underlying53 ti53 (fun w => by simp) ⟨rfl, rfl, trivial⟩ rfl rfl ?_
  refine TOps.alloc ti53 rfl (fun b8 => ?_)
  refine TOps.storeN rfl rfl ti53 rfl rfl (by repeat (first | exact Upd.here | apply Upd.there)) (by first | decide | (simp; done) | (simp; omega)) ?_
  refine TOps.next ?_
  refine Tri.seq ?_
  refine Tri.seq (Tri.region ?_)
  refine TOps.move rfl rfl ?_
  refine TOps.len rfl Try.underlying25 rfl ?_
  refine TOps.move rfl rfl ?_
  refine TOps.next ?_
  refine Tri.range (X := (Option Nat × Nat) × (Option Nat × Nat) × List Ent) (fun x k => [(5, .pointer (some ⟨m, 0, none⟩)), (8, .pointer (some ⟨b8, 0, none⟩)), (56, slV aa ao l.length acap sp)]) (fun x k => row (some m) 70 5 1 [.int .i64 F.vars, nv, .int .i64 F.top, .int .i64 (F.acts (l.take k)).f, slV x.1.1 0 (F.acts (l.take k)).log.length x.1.2] :: row x.1.1 42 3 x.1.2 (logCells (F.acts (l.take k)).log) :: row (some b8) 53 5 1 [.int .i64 F.vars, slV na off F.nodes.length cap nsp, .int .i64 F.top, .int .i64 (F.acts (l.take k)).f, slV x.2.1.1 0 (F.acts (l.take k)).log.length x.2.1.2] :: (x.2.2 ++ HB)) (fun x k => ((F.acts (l.take k)).log ≠ [] → ∃ b, x.1.1 = some b) ∧ RdS (x.2.2 ++ HB) x.2.1.1 0 (logCells (F.acts (l.take k)).log) ∧ (F.acts (l.take k)).log.length ≤ x.2.1.2) (by omega) rfl rfl rfl (fun _ _ => ⟨rfl, rfl, rfl, rfl⟩) ((none, 0), (none, 0), []) ⟨fun h => absurd rfl h, .inl rfl, Nat.le_refl _⟩ ⟨rfl, rfl, rfl, trivial⟩ (Sp.le (by repeat (first | exact Sp.refl _ | exact Sp.sub (by assumption) | refine Sp.cons (by repeat (first | exact Pick.here | apply Pick.there)) ?_ | exact Sp.nil | apply Sp.skip))) (fun k x hlt hp => ?_) (fun x ac wc hp hS hM => ?_)
  · skip
    obtain ⟨⟨la, lcap⟩, ⟨xa, xcap⟩, HX⟩ := x
    dsimp only at hp ⊢
    obtain ⟨hp1, hp2, hp3⟩ := hp
    obtain ⟨p1, rfl, rfl, q1⟩ := hr.blk (k := k * 2) (ws := [.int .u8 l[k].1, .int .i64 l[k].2]) (by simp) (actCells_get hlt)
    have hbk := hb _ (List.getElem_mem hlt)
    have hact := F.acts_succ hlt
    have hok := (Reach.acts F (l.take k)).ok
    have hokn := (Reach.acts F (l.take (k + 1))).ok
    have lX : Le (HX ++ HB) HB := Le.sub (List.sublist_append_right _ _)
    generalize F.acts (l.take k) = Z at *
    generalize l[k] = ac at *
    refine Tri.seq (Tri.region ?_)
    refine TOps.indexAddr (off' := ao + k * 2) rfl rfl Try.underlying25 ti55 (by omega) (by omega) (by simp) rfl ?_
    refine TOps.loadN rfl ti55 (Rd.up (Rd.up (Rd.up (q1.le lX)))) rfl rfl ?_
    refine TOps.alloc ti55 rfl (fun b10 => ?_)
    refine TOps.storeN rfl rfl ti55 rfl rfl (by repeat (first | exact Upd.here | apply Upd.there)) (by first | decide | (simp; done) | (simp; omega)) ?_
    refine TOps.le (H' := row (some m) 70 5 1 [.int .i64 F.vars, nv, .int .i64 F.top, .int .i64 Z.f, slV la 0 Z.log.length lcap] :: row la 42 3 lcap (logCells Z.log) :: row (some b8) 53 5 1 [.int .i64 F.vars, slV na off F.nodes.length cap nsp, .int .i64 F.top, .int .i64 Z.f, slV xa 0 Z.log.length xcap] :: row (some b10) 55 2 1 [.int .u8 ac.1, .int .i64 ac.2] :: (HX ++ HB)) (Sp.le (by repeat (first | exact Sp.refl _ | exact Sp.sub (by assumption) | refine Sp.cons (by repeat (first | exact Pick.here | apply Pick.there)) ?_ | exact Sp.nil | apply Sp.skip))) ?_
    have hFM : ∀ (a b : Ent), RF (a :: b :: (HX ++ HB)) (.agg (List.toArray [.int .i64 F.vars, nv, .int .i64 F.top])) F := fun a b => hFB.le (Le.drop (Le.drop lX))
    have hX4 : ∀ (a b c d : Ent), RF (a :: b :: c :: d :: (HX ++ HB)) (.agg (List.toArray [.int .i64 F.vars, slV na off F.nodes.length cap nsp, .int .i64 F.top])) F := fun a b c d => hF0.le (Le.drop (Le.drop (Le.drop (Le.drop lX))))
    have hL4 : ∀ (a b c d : Ent), Le (a :: b :: c :: d :: (HX ++ HB)) (HX ++ HB) := fun a b c d => Le.drop (Le.drop (Le.drop (Le.drop (Le.refl _))))
    refine TOps.next ?_
    refine Tri.seq (Tri.region ?_)
    refine TOps.assign rfl rfl ?_
    refine TOps.assign rfl rfl ?_
    refine TOps.next ?_
    refine Tri.seq (Tri.region ?_)
    refine TOps.assign rfl rfl ?_
    refine TOps.next ?_
    refine Tri.seq (Tri.region ?_)
    refine TOps.assign rfl rfl ?_
    refine TOps.next ?_
    refine Tri.seq ?_
    refine Tri.seq (Tri.region ?_)
    refine TOps.field0 rfl Try.underlying55 rfl rfl ti5 rfl rfl rfl ?_
    refine TOps.load1 rfl ti5 (by first | exact Rd.lit (by repeat (first | exact List.Mem.head _ | apply List.Mem.tail)) rfl | (repeat (first | assumption | exact Rd.fld (by assumption) 0 rfl | apply Rd.up))) rfl ?_
    refine TOps.rem rfl rfl (by decide) rfl rfl ?_
    refine TOps.next ?_
    refine Tri.block ?_
    refine Tri.seq (Tri.region ?_)
    refine TOps.eqlI rfl rfl rfl ?_
    refine TOps.assign rfl rfl ?_
    refine TOps.next ?_
    refine Tri.cond rfl (fun hc4 => ?_) (fun hc4 => ?_)
    · try simp only [decide_eq_true_eq, decide_eq_false_iff_not, Bool.and_eq_true, Bool.or_eq_true, Bool.not_eq_true', Bool.and_eq_false_iff, Bool.or_eq_false_iff, Bool.not_eq_false', Int.not_lt, Int.not_le, ne_eq, Decidable.not_not, Option.isSome_iff_ne_none, Option.isNone_iff_eq_none] at hc4
      have hac : F.act Z ac = Z.undo := if_pos hc4
      refine Tri.seq (Tri.region ?_)
      refine TOps.move rfl rfl ?_
      refine TOps.call (vs := [_]) Try.call22 ⟨rfl, trivial⟩ (mundo_g (F := F) (nv := nv) hg hok hp1) rfl ?_
      rintro _ _ ⟨hla', rfl, rfl⟩
      refine TOps.assign rfl rfl ?_
      refine TOps.next ?_
      refine Tri.region ?_
      refine TOps.loadN rfl ti53 (by first | exact Rd.all (by repeat (first | exact List.Mem.head _ | apply List.Mem.tail)) | (repeat (first | assumption | apply Rd.up))) rfl rfl ?_
      refine TOps.call (vs := [_]) Try.call28 ⟨rfl, trivial⟩ (rundo_g (F := F) hg hok (hL4 _ _ _ _) hp2 hp3) rfl ?_
      rintro _ _ ⟨N', xa', xcap', hx1, hx2, rfl, rfl⟩
      refine TOps.le (H' := row (some m) 70 5 1 [.int .i64 F.vars, nv, .int .i64 F.top, .int .i64 Z.undo.f, slV la 0 Z.undo.log.length lcap] :: row la 42 3 lcap (logCells Z.undo.log) :: row (some b8) 53 5 1 [.int .i64 F.vars, slV na off F.nodes.length cap nsp, .int .i64 F.top, .int .i64 Z.f, slV xa 0 Z.log.length xcap] :: row (some b10) 55 2 1 [.int .u8 ac.1, .int .i64 ac.2] :: (N' ++ (HX ++ HB))) Le.pull4 ?_
      refine TOps.move rfl rfl ?_
      refine TOps.extract rfl rfl rfl ?_
      refine TOps.extract rfl rfl rfl ?_
      refine TOps.storeN rfl rfl ti53 rfl rfl (by repeat (first | exact Upd.here | apply Upd.there)) (by first | decide | (simp; done) | (simp; omega)) ?_
      refine TOps.assign rfl rfl ?_
      refine TOps.fin ?_
      refine Nrm.unB ?_
      refine Nrm.next ?_
      refine Tri.seq (Tri.region ?_)
      rw [← hac] at hla' hx1 hx2 ⊢
      rw [← hact] at hla' hx1 hx2 ⊢
      have hX5 : ∀ (a b c d : Ent), RF (a :: b :: c :: d :: (N' ++ (HX ++ HB))) (.agg (List.toArray [.int .i64 F.vars, slV na off F.nodes.length cap nsp, .int .i64 F.top])) F := fun a b c d => hF0.le (Le.drop (Le.drop (Le.drop (Le.drop ((Le.sub (List.sublist_append_right _ _)).trans lX)))))
      have hF5 : ∀ (a b c d : Ent), RF (a :: b :: c :: d :: (N' ++ (HX ++ HB))) (.agg (List.toArray [.int .i64 F.vars, nv, .int .i64 F.top])) F := fun a b c d => hFB.le (Le.drop (Le.drop (Le.drop (Le.drop ((Le.sub (List.sublist_append_right _ _)).trans lX)))))
      refine TOps.move rfl rfl ?_
      refine TOps.call (vs := [_]) Try.call27 ⟨rfl, trivial⟩ (num_g _) rfl ?_
      rintro _ _ ⟨rfl, rfl⟩
      refine TOps.move rfl rfl ?_
      refine TOps.neqIr (r := false) rfl rfl (by simp) rfl ?_
      refine TOps.move rfl rfl ?_
      refine' TOps.orB 3 rfl rfl rfl rfl (fun hg25_4 => ?_) ?_; rotate_left
      · have hg25_4' := hg25_4
        try simp only [decide_eq_true_eq, decide_eq_false_iff_not, Bool.and_eq_true, Bool.or_eq_true, Bool.not_eq_true', Bool.and_eq_false_iff, Bool.or_eq_false_iff, Bool.not_eq_false', Int.not_lt, Int.not_le, ne_eq, Decidable.not_not] at hg25_4'
        refine TOps.strip 4 false rfl rfl hg25_4 rfl ?_
        refine TOps.move rfl rfl ?_
        refine TOps.move rfl rfl ?_
        refine TOps.neqBr2 (r := false) rfl rfl (by simp) Try.underlying4 rfl ?_
        refine TOps.blk rfl (by repeat (first | exact Ext.refl _ | refine Ext.cons rfl ?_)) (by repeat (first | exact Le.refl _ | apply Le.drop))
      refine TOps.move rfl rfl ?_
      refine' TOps.orB 4 rfl rfl rfl rfl (fun hg25_9 => ?_) ?_; rotate_left
      · have hg25_9' := hg25_9
        try simp only [decide_eq_true_eq, decide_eq_false_iff_not, Bool.and_eq_true, Bool.or_eq_true, Bool.not_eq_true', Bool.and_eq_false_iff, Bool.or_eq_false_iff, Bool.not_eq_false', Int.not_lt, Int.not_le, ne_eq, Decidable.not_not] at hg25_9'
        refine TOps.strip 9 false rfl rfl hg25_9 rfl ?_
        refine TOps.move rfl rfl ?_
        refine TOps.loadN rfl ti53 (by first | exact Rd.all (by repeat (first | exact List.Mem.head _ | apply List.Mem.tail)) | (repeat (first | assumption | apply Rd.up))) rfl rfl ?_
        refine TOps.call (vs := [_, _]) Try.call30 ⟨rfl, rfl, trivial⟩ (isLaw_g (F := F) (nv := nv) (Rd.all (List.Mem.head _)) (hF5 _ _ _ _) hg hokn.lt (hX5 _ _ _ _)) rfl ?_
        rintro _ _ ⟨rfl, rfl⟩
        refine TOps.not rfl rfl ?_
        refine TOps.blk rfl (by repeat (first | exact Ext.refl _ | refine Ext.cons rfl ?_)) (by repeat (first | exact Le.refl _ | apply Le.drop))
      refine TOps.next ?_
      refine Tri.cond rfl (fun hc5 => ?_) (fun hc5 => ?_)
      · try simp only [decide_eq_true_eq, decide_eq_false_iff_not, Bool.and_eq_true, Bool.or_eq_true, Bool.not_eq_true', Bool.and_eq_false_iff, Bool.or_eq_false_iff, Bool.not_eq_false', Int.not_lt, Int.not_le, ne_eq, Decidable.not_not, Option.isSome_iff_ne_none, Option.isNone_iff_eq_none] at hc5
        have hfalse : False := by simp at hc5
        refine Tri.seq (Tri.region ?_)
        refine TOps.assign rfl rfl ?_
        refine TOps.next ?_
        exact hfalse.elim
      try simp only [decide_eq_true_eq, decide_eq_false_iff_not, Bool.and_eq_true, Bool.or_eq_true, Bool.not_eq_true', Bool.and_eq_false_iff, Bool.or_eq_false_iff, Bool.not_eq_false', Int.not_lt, Int.not_le, ne_eq, Decidable.not_not, Option.isSome_iff_ne_none, Option.isNone_iff_eq_none] at hc5
      refine Tri.fin ?_
      first
       | refine Nrm.body ((la', lcap'), (xa', xcap'), N' ++ HX) ⟨hla', by dsimp only; rw [List.append_assoc]; exact hx1, hx2⟩ ⟨rfl, rfl, rfl, rfl, rfl, trivial⟩ (by dsimp only; rw [List.append_assoc]; exact (Sp.le (by repeat (first | exact Sp.refl _ | exact Sp.sub (by assumption) | refine Sp.cons (by repeat (first | exact Pick.here | apply Pick.there)) ?_ | exact Sp.nil | apply Sp.skip))))
       | refine Nrm.body ((la, lcap), (xa', xcap'), N' ++ HX) ⟨hla', by dsimp only; rw [List.append_assoc]; exact hx1, hx2⟩ ⟨rfl, rfl, rfl, rfl, rfl, trivial⟩ (by dsimp only; rw [List.append_assoc]; exact (Sp.le (by repeat (first | exact Sp.refl _ | exact Sp.sub (by assumption) | refine Sp.cons (by repeat (first | exact Pick.here | apply Pick.there)) ?_ | exact Sp.nil | apply Sp.skip))))
    try simp only [decide_eq_true_eq, decide_eq_false_iff_not, Bool.and_eq_true, Bool.or_eq_true, Bool.not_eq_true', Bool.and_eq_false_iff, Bool.or_eq_false_iff, Bool.not_eq_false', Int.not_lt, Int.not_le, ne_eq, Decidable.not_not, Option.isSome_iff_ne_none, Option.isNone_iff_eq_none] at hc4
    refine Tri.seq (Tri.region ?_)
    refine TOps.eqlI rfl rfl rfl ?_
    refine TOps.assign rfl rfl ?_
    refine TOps.next ?_
    refine Tri.cond rfl (fun hc6 => ?_) (fun hc6 => ?_)
    · try simp only [decide_eq_true_eq, decide_eq_false_iff_not, Bool.and_eq_true, Bool.or_eq_true, Bool.not_eq_true', Bool.and_eq_false_iff, Bool.or_eq_false_iff, Bool.not_eq_false', Int.not_lt, Int.not_le, ne_eq, Decidable.not_not, Option.isSome_iff_ne_none, Option.isNone_iff_eq_none] at hc6
      have hac : F.act Z ac = F.play Z ac.2 false := by unfold Fm.act; rw [if_neg hc4, if_pos hc6]
      refine Tri.seq (Tri.region ?_)
      refine TOps.move rfl rfl ?_
      first | refine TOps.fieldB 1 rfl Try.underlying55 rfl rfl ti3 rfl rfl rfl ?_ | refine TOps.fieldN 1 rfl Try.underlying55 rfl rfl ti3 rfl rfl rfl ?_
      refine TOps.load1 rfl ti3 (by first | exact Rd.lit (by repeat (first | exact List.Mem.head _ | apply List.Mem.tail)) rfl | (repeat (first | assumption | exact Rd.fld (by assumption) 1 rfl | apply Rd.up))) rfl ?_
      refine TOps.call (vs := [_, _]) Try.call20 ⟨rfl, rfl, trivial⟩ (mrepair_g (hFM _ _) hg hok hp1 ac.2) rfl ?_
      rintro _ _ ⟨la', lcap', hla', rfl, rfl⟩
      refine TOps.move rfl rfl ?_
      refine TOps.extract rfl rfl rfl ?_
      refine TOps.extract rfl rfl rfl ?_
      refine TOps.assign rfl rfl ?_
      refine TOps.assign rfl rfl ?_
      refine TOps.next ?_
      refine Tri.region ?_
      refine TOps.loadN rfl ti53 (by first | exact Rd.all (by repeat (first | exact List.Mem.head _ | apply List.Mem.tail)) | (repeat (first | assumption | apply Rd.up))) rfl rfl ?_
      first | refine TOps.fieldB 1 rfl Try.underlying55 rfl rfl ti3 rfl rfl rfl ?_ | refine TOps.fieldN 1 rfl Try.underlying55 rfl rfl ti3 rfl rfl rfl ?_
      refine TOps.load1 rfl ti3 (by first | exact Rd.lit (by repeat (first | exact List.Mem.head _ | apply List.Mem.tail)) rfl | (repeat (first | assumption | exact Rd.fld (by assumption) 1 rfl | apply Rd.up))) rfl ?_
      refine TOps.call (vs := [_, _, _]) Try.call29 ⟨rfl, rfl, rfl, trivial⟩ (ract_g (hX4 _ _ _ _) hg hok (hL4 _ _ _ _) hp2 hp3 ac.2 false) rfl ?_
      rintro _ _ ⟨N', xa', xcap', hx1, hx2, rfl, rfl⟩
      refine TOps.le (H' := row (some m) 70 5 1 [.int .i64 F.vars, nv, .int .i64 F.top, .int .i64 (F.play Z ac.2 false).f, slV la' 0 (F.play Z ac.2 false).log.length lcap'] :: row la' 42 3 lcap' (logCells (F.play Z ac.2 false).log) :: row (some b8) 53 5 1 [.int .i64 F.vars, slV na off F.nodes.length cap nsp, .int .i64 F.top, .int .i64 Z.f, slV xa 0 Z.log.length xcap] :: row (some b10) 55 2 1 [.int .u8 ac.1, .int .i64 ac.2] :: (N' ++ (HX ++ HB))) Le.pull4 ?_
      refine TOps.move rfl rfl ?_
      refine TOps.extract rfl rfl rfl ?_
      refine TOps.extract rfl rfl rfl ?_
      refine TOps.extract rfl rfl rfl ?_
      refine TOps.storeN rfl rfl ti53 rfl rfl (by repeat (first | exact Upd.here | apply Upd.there)) (by first | decide | (simp; done) | (simp; omega)) ?_
      refine TOps.assign rfl rfl ?_
      refine TOps.assign rfl rfl ?_
      refine TOps.fin ?_
      refine Nrm.unB ?_
      refine Nrm.next ?_
      refine Tri.seq (Tri.region ?_)
      rw [← hac] at hla' hx1 hx2 ⊢
      rw [← hact] at hla' hx1 hx2 ⊢
      have hX5 : ∀ (a b c d : Ent), RF (a :: b :: c :: d :: (N' ++ (HX ++ HB))) (.agg (List.toArray [.int .i64 F.vars, slV na off F.nodes.length cap nsp, .int .i64 F.top])) F := fun a b c d => hF0.le (Le.drop (Le.drop (Le.drop (Le.drop ((Le.sub (List.sublist_append_right _ _)).trans lX)))))
      have hF5 : ∀ (a b c d : Ent), RF (a :: b :: c :: d :: (N' ++ (HX ++ HB))) (.agg (List.toArray [.int .i64 F.vars, nv, .int .i64 F.top])) F := fun a b c d => hFB.le (Le.drop (Le.drop (Le.drop (Le.drop ((Le.sub (List.sublist_append_right _ _)).trans lX)))))
      refine TOps.move rfl rfl ?_
      refine TOps.call (vs := [_]) Try.call27 ⟨rfl, trivial⟩ (num_g _) rfl ?_
      rintro _ _ ⟨rfl, rfl⟩
      refine TOps.move rfl rfl ?_
      refine TOps.neqIr (r := false) rfl rfl (by simp) rfl ?_
      refine TOps.move rfl rfl ?_
      refine' TOps.orB 3 rfl rfl rfl rfl (fun hg25_4 => ?_) ?_; rotate_left
      · have hg25_4' := hg25_4
        try simp only [decide_eq_true_eq, decide_eq_false_iff_not, Bool.and_eq_true, Bool.or_eq_true, Bool.not_eq_true', Bool.and_eq_false_iff, Bool.or_eq_false_iff, Bool.not_eq_false', Int.not_lt, Int.not_le, ne_eq, Decidable.not_not] at hg25_4'
        refine TOps.strip 4 false rfl rfl hg25_4 rfl ?_
        refine TOps.move rfl rfl ?_
        refine TOps.move rfl rfl ?_
        refine TOps.neqBr2 (r := false) rfl rfl (by simp) Try.underlying4 rfl ?_
        refine TOps.blk rfl (by repeat (first | exact Ext.refl _ | refine Ext.cons rfl ?_)) (by repeat (first | exact Le.refl _ | apply Le.drop))
      refine TOps.move rfl rfl ?_
      refine' TOps.orB 4 rfl rfl rfl rfl (fun hg25_9 => ?_) ?_; rotate_left
      · have hg25_9' := hg25_9
        try simp only [decide_eq_true_eq, decide_eq_false_iff_not, Bool.and_eq_true, Bool.or_eq_true, Bool.not_eq_true', Bool.and_eq_false_iff, Bool.or_eq_false_iff, Bool.not_eq_false', Int.not_lt, Int.not_le, ne_eq, Decidable.not_not] at hg25_9'
        refine TOps.strip 9 false rfl rfl hg25_9 rfl ?_
        refine TOps.move rfl rfl ?_
        refine TOps.loadN rfl ti53 (by first | exact Rd.all (by repeat (first | exact List.Mem.head _ | apply List.Mem.tail)) | (repeat (first | assumption | apply Rd.up))) rfl rfl ?_
        refine TOps.call (vs := [_, _]) Try.call30 ⟨rfl, rfl, trivial⟩ (isLaw_g (F := F) (nv := nv) (Rd.all (List.Mem.head _)) (hF5 _ _ _ _) hg hokn.lt (hX5 _ _ _ _)) rfl ?_
        rintro _ _ ⟨rfl, rfl⟩
        refine TOps.not rfl rfl ?_
        refine TOps.blk rfl (by repeat (first | exact Ext.refl _ | refine Ext.cons rfl ?_)) (by repeat (first | exact Le.refl _ | apply Le.drop))
      refine TOps.next ?_
      refine Tri.cond rfl (fun hc7 => ?_) (fun hc7 => ?_)
      · try simp only [decide_eq_true_eq, decide_eq_false_iff_not, Bool.and_eq_true, Bool.or_eq_true, Bool.not_eq_true', Bool.and_eq_false_iff, Bool.or_eq_false_iff, Bool.not_eq_false', Int.not_lt, Int.not_le, ne_eq, Decidable.not_not, Option.isSome_iff_ne_none, Option.isNone_iff_eq_none] at hc7
        have hfalse : False := by simp at hc7
        refine Tri.seq (Tri.region ?_)
        refine TOps.assign rfl rfl ?_
        refine TOps.next ?_
        exact hfalse.elim
      try simp only [decide_eq_true_eq, decide_eq_false_iff_not, Bool.and_eq_true, Bool.or_eq_true, Bool.not_eq_true', Bool.and_eq_false_iff, Bool.or_eq_false_iff, Bool.not_eq_false', Int.not_lt, Int.not_le, ne_eq, Decidable.not_not, Option.isSome_iff_ne_none, Option.isNone_iff_eq_none] at hc7
      refine Tri.fin ?_
      first
       | refine Nrm.body ((la', lcap'), (xa', xcap'), N' ++ HX) ⟨hla', by dsimp only; rw [List.append_assoc]; exact hx1, hx2⟩ ⟨rfl, rfl, rfl, rfl, rfl, trivial⟩ (by dsimp only; rw [List.append_assoc]; exact (Sp.le (by repeat (first | exact Sp.refl _ | exact Sp.sub (by assumption) | refine Sp.cons (by repeat (first | exact Pick.here | apply Pick.there)) ?_ | exact Sp.nil | apply Sp.skip))))
       | refine Nrm.body ((la, lcap), (xa', xcap'), N' ++ HX) ⟨hla', by dsimp only; rw [List.append_assoc]; exact hx1, hx2⟩ ⟨rfl, rfl, rfl, rfl, rfl, trivial⟩ (by dsimp only; rw [List.append_assoc]; exact (Sp.le (by repeat (first | exact Sp.refl _ | exact Sp.sub (by assumption) | refine Sp.cons (by repeat (first | exact Pick.here | apply Pick.there)) ?_ | exact Sp.nil | apply Sp.skip))))
    try simp only [decide_eq_true_eq, decide_eq_false_iff_not, Bool.and_eq_true, Bool.or_eq_true, Bool.not_eq_true', Bool.and_eq_false_iff, Bool.or_eq_false_iff, Bool.not_eq_false', Int.not_lt, Int.not_le, ne_eq, Decidable.not_not, Option.isSome_iff_ne_none, Option.isNone_iff_eq_none] at hc6
    have hac : F.act Z ac = F.play Z ac.2 true := by unfold Fm.act; rw [if_neg hc4, if_neg hc6]
    refine Tri.seq (Tri.region ?_)
    refine TOps.move rfl rfl ?_
    first | refine TOps.fieldB 1 rfl Try.underlying55 rfl rfl ti3 rfl rfl rfl ?_ | refine TOps.fieldN 1 rfl Try.underlying55 rfl rfl ti3 rfl rfl rfl ?_
    refine TOps.load1 rfl ti3 (by first | exact Rd.lit (by repeat (first | exact List.Mem.head _ | apply List.Mem.tail)) rfl | (repeat (first | assumption | exact Rd.fld (by assumption) 1 rfl | apply Rd.up))) rfl ?_
    refine TOps.call (vs := [_, _]) Try.call19 ⟨rfl, rfl, trivial⟩ (mfail_g (hFM _ _) hg hok hp1 ac.2) rfl ?_
    rintro _ _ ⟨la', lcap', hla', rfl, rfl⟩
    refine TOps.move rfl rfl ?_
    refine TOps.extract rfl rfl rfl ?_
    refine TOps.extract rfl rfl rfl ?_
    refine TOps.assign rfl rfl ?_
    refine TOps.assign rfl rfl ?_
    refine TOps.next ?_
    refine Tri.region ?_
    refine TOps.loadN rfl ti53 (by first | exact Rd.all (by repeat (first | exact List.Mem.head _ | apply List.Mem.tail)) | (repeat (first | assumption | apply Rd.up))) rfl rfl ?_
    first | refine TOps.fieldB 1 rfl Try.underlying55 rfl rfl ti3 rfl rfl rfl ?_ | refine TOps.fieldN 1 rfl Try.underlying55 rfl rfl ti3 rfl rfl rfl ?_
    refine TOps.load1 rfl ti3 (by first | exact Rd.lit (by repeat (first | exact List.Mem.head _ | apply List.Mem.tail)) rfl | (repeat (first | assumption | exact Rd.fld (by assumption) 1 rfl | apply Rd.up))) rfl ?_
    refine TOps.call (vs := [_, _, _]) Try.call29 ⟨rfl, rfl, rfl, trivial⟩ (ract_g (hX4 _ _ _ _) hg hok (hL4 _ _ _ _) hp2 hp3 ac.2 true) rfl ?_
    rintro _ _ ⟨N', xa', xcap', hx1, hx2, rfl, rfl⟩
    refine TOps.le (H' := row (some m) 70 5 1 [.int .i64 F.vars, nv, .int .i64 F.top, .int .i64 (F.play Z ac.2 true).f, slV la' 0 (F.play Z ac.2 true).log.length lcap'] :: row la' 42 3 lcap' (logCells (F.play Z ac.2 true).log) :: row (some b8) 53 5 1 [.int .i64 F.vars, slV na off F.nodes.length cap nsp, .int .i64 F.top, .int .i64 Z.f, slV xa 0 Z.log.length xcap] :: row (some b10) 55 2 1 [.int .u8 ac.1, .int .i64 ac.2] :: (N' ++ (HX ++ HB))) Le.pull4 ?_
    refine TOps.move rfl rfl ?_
    refine TOps.extract rfl rfl rfl ?_
    refine TOps.extract rfl rfl rfl ?_
    refine TOps.extract rfl rfl rfl ?_
    refine TOps.storeN rfl rfl ti53 rfl rfl (by repeat (first | exact Upd.here | apply Upd.there)) (by first | decide | (simp; done) | (simp; omega)) ?_
    refine TOps.assign rfl rfl ?_
    refine TOps.assign rfl rfl ?_
    refine TOps.fin ?_
    refine Nrm.unB ?_
    refine Nrm.next ?_
    refine Tri.seq (Tri.region ?_)
    rw [← hac] at hla' hx1 hx2 ⊢
    rw [← hact] at hla' hx1 hx2 ⊢
    have hX5 : ∀ (a b c d : Ent), RF (a :: b :: c :: d :: (N' ++ (HX ++ HB))) (.agg (List.toArray [.int .i64 F.vars, slV na off F.nodes.length cap nsp, .int .i64 F.top])) F := fun a b c d => hF0.le (Le.drop (Le.drop (Le.drop (Le.drop ((Le.sub (List.sublist_append_right _ _)).trans lX)))))
    have hF5 : ∀ (a b c d : Ent), RF (a :: b :: c :: d :: (N' ++ (HX ++ HB))) (.agg (List.toArray [.int .i64 F.vars, nv, .int .i64 F.top])) F := fun a b c d => hFB.le (Le.drop (Le.drop (Le.drop (Le.drop ((Le.sub (List.sublist_append_right _ _)).trans lX)))))
    refine TOps.move rfl rfl ?_
    refine TOps.call (vs := [_]) Try.call27 ⟨rfl, trivial⟩ (num_g _) rfl ?_
    rintro _ _ ⟨rfl, rfl⟩
    refine TOps.move rfl rfl ?_
    refine TOps.neqIr (r := false) rfl rfl (by simp) rfl ?_
    refine TOps.move rfl rfl ?_
    refine' TOps.orB 3 rfl rfl rfl rfl (fun hg25_4 => ?_) ?_; rotate_left
    · have hg25_4' := hg25_4
      try simp only [decide_eq_true_eq, decide_eq_false_iff_not, Bool.and_eq_true, Bool.or_eq_true, Bool.not_eq_true', Bool.and_eq_false_iff, Bool.or_eq_false_iff, Bool.not_eq_false', Int.not_lt, Int.not_le, ne_eq, Decidable.not_not] at hg25_4'
      refine TOps.strip 4 false rfl rfl hg25_4 rfl ?_
      refine TOps.move rfl rfl ?_
      refine TOps.move rfl rfl ?_
      refine TOps.neqBr2 (r := false) rfl rfl (by simp) Try.underlying4 rfl ?_
      refine TOps.blk rfl (by repeat (first | exact Ext.refl _ | refine Ext.cons rfl ?_)) (by repeat (first | exact Le.refl _ | apply Le.drop))
    refine TOps.move rfl rfl ?_
    refine' TOps.orB 4 rfl rfl rfl rfl (fun hg25_9 => ?_) ?_; rotate_left
    · have hg25_9' := hg25_9
      try simp only [decide_eq_true_eq, decide_eq_false_iff_not, Bool.and_eq_true, Bool.or_eq_true, Bool.not_eq_true', Bool.and_eq_false_iff, Bool.or_eq_false_iff, Bool.not_eq_false', Int.not_lt, Int.not_le, ne_eq, Decidable.not_not] at hg25_9'
      refine TOps.strip 9 false rfl rfl hg25_9 rfl ?_
      refine TOps.move rfl rfl ?_
      refine TOps.loadN rfl ti53 (by first | exact Rd.all (by repeat (first | exact List.Mem.head _ | apply List.Mem.tail)) | (repeat (first | assumption | apply Rd.up))) rfl rfl ?_
      refine TOps.call (vs := [_, _]) Try.call30 ⟨rfl, rfl, trivial⟩ (isLaw_g (F := F) (nv := nv) (Rd.all (List.Mem.head _)) (hF5 _ _ _ _) hg hokn.lt (hX5 _ _ _ _)) rfl ?_
      rintro _ _ ⟨rfl, rfl⟩
      refine TOps.not rfl rfl ?_
      refine TOps.blk rfl (by repeat (first | exact Ext.refl _ | refine Ext.cons rfl ?_)) (by repeat (first | exact Le.refl _ | apply Le.drop))
    refine TOps.next ?_
    refine Tri.cond rfl (fun hc8 => ?_) (fun hc8 => ?_)
    · try simp only [decide_eq_true_eq, decide_eq_false_iff_not, Bool.and_eq_true, Bool.or_eq_true, Bool.not_eq_true', Bool.and_eq_false_iff, Bool.or_eq_false_iff, Bool.not_eq_false', Int.not_lt, Int.not_le, ne_eq, Decidable.not_not, Option.isSome_iff_ne_none, Option.isNone_iff_eq_none] at hc8
      have hfalse : False := by simp at hc8
      refine Tri.seq (Tri.region ?_)
      refine TOps.assign rfl rfl ?_
      refine TOps.next ?_
      exact hfalse.elim
    try simp only [decide_eq_true_eq, decide_eq_false_iff_not, Bool.and_eq_true, Bool.or_eq_true, Bool.not_eq_true', Bool.and_eq_false_iff, Bool.or_eq_false_iff, Bool.not_eq_false', Int.not_lt, Int.not_le, ne_eq, Decidable.not_not, Option.isSome_iff_ne_none, Option.isNone_iff_eq_none] at hc8
    refine Tri.fin ?_
    first
     | refine Nrm.body ((la', lcap'), (xa', xcap'), N' ++ HX) ⟨hla', by dsimp only; rw [List.append_assoc]; exact hx1, hx2⟩ ⟨rfl, rfl, rfl, rfl, rfl, trivial⟩ (by dsimp only; rw [List.append_assoc]; exact (Sp.le (by repeat (first | exact Sp.refl _ | exact Sp.sub (by assumption) | refine Sp.cons (by repeat (first | exact Pick.here | apply Pick.there)) ?_ | exact Sp.nil | apply Sp.skip))))
     | refine Nrm.body ((la, lcap), (xa', xcap'), N' ++ HX) ⟨hla', by dsimp only; rw [List.append_assoc]; exact hx1, hx2⟩ ⟨rfl, rfl, rfl, rfl, rfl, trivial⟩ (by dsimp only; rw [List.append_assoc]; exact (Sp.le (by repeat (first | exact Sp.refl _ | exact Sp.sub (by assumption) | refine Sp.cons (by repeat (first | exact Pick.here | apply Pick.there)) ?_ | exact Sp.nil | apply Sp.skip))))
  rw [List.take_length] at hM hp
  obtain ⟨⟨la, lcap⟩, ⟨xa, xcap⟩, HX⟩ := x
  dsimp only at hp hM ⊢
  obtain ⟨hp1, hp2, hp3⟩ := hp
  have hok := (Reach.acts F l).ok
  generalize F.acts l = Z at *
  have hl3 : RdS (row (some m) 70 5 1 [.int .i64 F.vars, nv, .int .i64 F.top, .int .i64 Z.f, slV la 0 Z.log.length lcap] :: row la 42 3 lcap (logCells Z.log) :: row (some b8) 53 5 1 [.int .i64 F.vars, slV na off F.nodes.length cap nsp, .int .i64 F.top, .int .i64 Z.f, slV xa 0 Z.log.length xcap] :: (HX ++ HB)) la 0 (logCells Z.log) := RdS.ofRowA (List.Mem.tail _ (List.Mem.head _)) (fun h => hp1 (fun h0 => h (by rw [h0]; rfl)))
  have hll : ∀ (x : OA (logCells Z.log) × Nat) (c : Nat), Le (match c with | 0 => row (some m) 70 5 1 [.int .i64 F.vars, nv, .int .i64 F.top, .int .i64 Z.f, slV la 0 Z.log.length lcap] :: row la 42 3 lcap (logCells Z.log) :: row (some b8) 53 5 1 [.int .i64 F.vars, slV na off F.nodes.length cap nsp, .int .i64 F.top, .int .i64 Z.f, slV xa 0 Z.log.length xcap] :: (HX ++ HB) | _ + 1 => row x.1.1 42 3 x.2 (logCells Z.log) :: row (some m) 70 5 1 [.int .i64 F.vars, nv, .int .i64 F.top, .int .i64 Z.f, slV la 0 Z.log.length lcap] :: row la 42 3 lcap (logCells Z.log) :: row (some b8) 53 5 1 [.int .i64 F.vars, slV na off F.nodes.length cap nsp, .int .i64 F.top, .int .i64 Z.f, slV xa 0 Z.log.length xcap] :: (HX ++ HB)) (row (some m) 70 5 1 [.int .i64 F.vars, nv, .int .i64 F.top, .int .i64 Z.f, slV la 0 Z.log.length lcap] :: row la 42 3 lcap (logCells Z.log) :: row (some b8) 53 5 1 [.int .i64 F.vars, slV na off F.nodes.length cap nsp, .int .i64 F.top, .int .i64 Z.f, slV xa 0 Z.log.length xcap] :: (HX ++ HB)) := by
    intro x c; cases c; exact Le.refl _; exact Le.drop (Le.refl _)
  refine Nrm.of hS hM ?_
  refine Nrm.next ?_
  refine Tri.seq ?_
  refine Tri.drawX (X := OA (logCells Z.log) × Nat) rfl [(5, .pointer (some ⟨m, 0, none⟩)), (8, .pointer (some ⟨b8, 0, none⟩))] [] (fun x => [_, slV x.1.1 0 Z.log.length x.2, _, _, _, _]) (fun x c => match c with | 0 => row (some m) 70 5 1 [.int .i64 F.vars, nv, .int .i64 F.top, .int .i64 Z.f, slV la 0 Z.log.length lcap] :: row la 42 3 lcap (logCells Z.log) :: row (some b8) 53 5 1 [.int .i64 F.vars, slV na off F.nodes.length cap nsp, .int .i64 F.top, .int .i64 Z.f, slV xa 0 Z.log.length xcap] :: (HX ++ HB) | _ + 1 => row x.1.1 42 3 x.2 (logCells Z.log) :: row (some m) 70 5 1 [.int .i64 F.vars, nv, .int .i64 F.top, .int .i64 Z.f, slV la 0 Z.log.length lcap] :: row la 42 3 lcap (logCells Z.log) :: row (some b8) 53 5 1 [.int .i64 F.vars, slV na off F.nodes.length cap nsp, .int .i64 F.top, .int .i64 Z.f, slV xa 0 Z.log.length xcap] :: (HX ++ HB)) [1] (OA.zero _, 0) [5] rfl rfl ⟨rfl, rfl, trivial⟩ trivial (by repeat (first | exact Le.refl _ | assumption | apply Le.drop)) (by
    refine ⟨?_, ?_, ?_, ?_, ?_, ?_, trivial⟩
    · refine ⟨fun x S c he hw hd hc hcu hm _ => ?_, trivial⟩
      refine TOps.move (he _ _ rfl) rfl ?_
      exact TOps.fin (Nrm.draw x (fun _ _ _ => rfl) rfl (by first | exact Le.refl _ | assumption | exact (by repeat (first | exact Le.refl _ | assumption | apply Le.drop))))
    · refine ⟨fun x S c he hw hd hc hcu hm _ => ?_, trivial⟩
      obtain ⟨h0, -⟩ := hd
      obtain rfl : c = 0 := hm rfl
      refine TOps.call (vs := [_]) Try.call18 ⟨h0, trivial⟩ (mlog_g (l := Z.log) (Rd.all (List.Mem.head _)) hl3 hok.len) rfl ?_
      rintro _ _ ⟨ua, ucap, rfl, hua, rfl⟩
      refine TOps.fin (Nrm.draw (⟨ua, hua⟩, ucap) ?_ rfl (Le.refl _))
      intro j hj hcj; rcases j with _|_|_|_|_|_|j <;> first | rfl | exact absurd rfl hj | exact absurd hcj (by decide)
    · refine ⟨fun x S c he hw hd hc hcu hm _ => ?_, trivial⟩
      first | refine TOps.fieldB 4 (he _ _ rfl) Try.underlying53 rfl rfl ti39 rfl rfl rfl ?_ | refine TOps.fieldN 4 (he _ _ rfl) Try.underlying53 rfl rfl ti39 rfl rfl rfl ?_
      exact TOps.fin (Nrm.draw x (fun _ _ _ => rfl) rfl (by first | exact Le.refl _ | assumption | exact (by repeat (first | exact Le.refl _ | assumption | apply Le.drop))))
    · refine ⟨fun x S c he hw hd hc hcu hm _ => ?_, trivial⟩
      obtain ⟨h2, -⟩ := hd
      refine TOps.load1 h2 ti39 (Rd.le (Rd.lit (List.Mem.tail _ (List.Mem.tail _ (List.Mem.head _))) rfl) (hll x c)) rfl ?_
      exact TOps.fin (Nrm.draw x (fun _ _ _ => rfl) rfl (by first | exact Le.refl _ | assumption | exact (by repeat (first | exact Le.refl _ | assumption | apply Le.drop))))
    · refine ⟨fun x S c he hw hd hc hcu hm _ => ?_, trivial⟩
      obtain ⟨h1, h3, _, -⟩ := hd
      obtain ⟨c', rfl⟩ : ∃ c', c = c' + 1 := ⟨c - 1, by have : 1 ≤ c := hc; omega⟩
      refine TOps.call (vs := [_, _]) Try.call21 ⟨h1, h3, trivial⟩ (samePlayed_g (l := Z.log) (RdS.ofRowA (List.Mem.head _) x.1.2) (RdS.up (RdS.up (RdS.up (RdS.up hp2)))) rfl rfl (by have := hok.len; omega)) rfl ?_
      rintro _ _ ⟨rfl, rfl⟩
      exact TOps.fin (Nrm.draw x (fun _ _ _ => rfl) rfl (by first | exact Le.refl _ | assumption | exact (by repeat (first | exact Le.refl _ | assumption | apply Le.drop))))
    · refine ⟨fun x S c he hw hd hc hcu hm _ => ?_, trivial⟩
      obtain ⟨h4, _, h0, h1, h2, h3, _, -⟩ := hd
      refine TOps.assign h4 rfl ?_
      exact TOps.fin (Nrm.draw x (fun _ _ _ => rfl) rfl (by first | exact Le.refl _ | assumption | exact (by repeat (first | exact Le.refl _ | assumption | apply Le.drop))))
    ) (fun w => ?_)
  refine Nrm.next ?_
  refine Tri.ret1 (H' := H) Try.results6 (fun _ _ h => h) (.tmp rfl) (Le.drop (Le.drop (Le.drop (Le.drop ((Le.sub (List.sublist_append_right _ _)).trans lB))))) ⟨rfl, rfl⟩
theorem monitorPlays_g {H : List Ent} {fv : Value} {F : Fm} (hF : RF H fv F) (hk : F.ok) {l : List (Int × Int)} {aa sp : Option Nat} {ao acap : Nat} (hr : RdS H aa ao (actCells l) sp) (hl : l.length ≤ 9223372036854775807) (hb : ∀ a ∈ l, 0 ≤ a.1 ∧ a.1 ≤ 255) :
    Gives Try.prog 6 [fv, slV aa ao l.length acap sp] H (R1 (.bool true) H) := by
  cases he : F.err with
  | some e => exact monitorPlaysErr_g (m := none) hF hk he
  | none => exact monitorPlaysOk_g hF ((Fm.good_iff F).1 he) hr hl hb
end Go.Proofs
