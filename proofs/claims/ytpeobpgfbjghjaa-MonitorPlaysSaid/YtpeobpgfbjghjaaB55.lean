import Derived.Test.YtpeobpgfbjghjaaA55
import Derived.Test.YtpeobpgfbjghjaaGL48
namespace Go.Proofs
open Go.GL
set_option linter.unusedVariables false
set_option linter.unusedSimpArgs false
theorem mvalue_g {H : List Ent} {m : Nat} {F : Fm} {nv lv : Value} {f : Nat} (hr : Rd H m 0 [.int .i64 F.vars, nv, .int .i64 F.top, .int .i64 f, lv]) (hF : RF H (.agg (List.toArray [.int .i64 F.vars, nv, .int .i64 F.top])) F) (hg : F.Good) (hf : f < 2 ^ F.vars.toNat) (s : Nat) (hs : s < 2 ^ F.vars.toNat) :
    Gives Try.prog 35 [.pointer (some ⟨m, 0, none⟩), .int .i64 s] H (R1 (.bool (F.value (s : Nat))) H) := by
  have hse := Fm.setErr_of hg hs
  refine Gives.enter Try.func35 rfl (by exact Try.ntmps35) rfl ?_
  refine Tri.seq (Tri.region ?_)
  refine TOps.assign rfl rfl ?_
  refine TOps.next ?_
  refine Tri.seq (Tri.region ?_)
  refine TOps.move rfl rfl ?_
  refine TOps.nilCheck rfl rfl ?_
  refine TOps.field0 rfl Try.underlying70 rfl rfl ti24 rfl rfl rfl ?_
  refine TOps.loadN rfl ti24 (show Rd H m 0 [.int .i64 F.vars, nv, .int .i64 F.top] from hr.pre 3) rfl rfl ?_
  refine TOps.move rfl rfl ?_
  refine TOps.call (vs := [_, _]) Try.call16 ⟨rfl, rfl, trivial⟩ (value_g hF hg.ok (s : Int)) rfl ?_
  rintro _ _ ⟨rfl, rfl⟩
  rw [hse, show ((none : Option Int).isNone && F.value (s : Nat)) = F.value (s : Nat) from rfl]
  refine TOps.move rfl rfl ?_
  refine TOps.extract rfl rfl rfl ?_
  refine TOps.extract rfl rfl rfl ?_
  refine TOps.assign rfl rfl ?_
  refine TOps.assign rfl rfl ?_
  refine TOps.next ?_
  refine Tri.seq (Tri.region ?_)
  refine TOps.move rfl rfl ?_
  refine TOps.assign rfl rfl ?_
  refine TOps.next ?_
  refine Tri.ret1 (H' := H) Try.results35 (fun _ _ h => h) (.tmp rfl) (Le.refl _) ⟨rfl, rfl⟩
theorem mtop_g {H : List Ent} {m : Nat} {F : Fm} {nv lv : Value} {f : Nat} (hr : Rd H m 0 [.int .i64 F.vars, nv, .int .i64 F.top, .int .i64 f, lv]) (hF : RF H (.agg (List.toArray [.int .i64 F.vars, nv, .int .i64 F.top])) F) (hg : F.Good) (hf : f < 2 ^ F.vars.toNat) : Gives Try.prog 15 [.pointer (some ⟨m, 0, none⟩)] H (R1 (.bool (F.value (f : Nat))) H) := by
  refine Gives.enter Try.func15 rfl (by exact Try.ntmps15) rfl ?_
  refine Tri.seq (Tri.region ?_)
  refine TOps.assign rfl rfl ?_
  refine TOps.next ?_
  refine Tri.seq (Tri.region ?_)
  refine TOps.move rfl rfl ?_
  refine TOps.neqPtrNil rfl Try.underlying31 rfl ?_
  refine TOps.move rfl rfl ?_
  refine' TOps.andB 6 rfl rfl rfl rfl (fun hg1_2 => ?_) ?_; rotate_left
  · have hg1_2' := hg1_2
    try simp only [decide_eq_true_eq, decide_eq_false_iff_not, Bool.and_eq_true, Bool.or_eq_true, Bool.not_eq_true', Bool.and_eq_false_iff, Bool.or_eq_false_iff, Bool.not_eq_false', Int.not_lt, Int.not_le, ne_eq, Decidable.not_not] at hg1_2'
    refine TOps.strip 2 true rfl rfl hg1_2 rfl ?_
    refine TOps.move rfl rfl ?_
    refine TOps.move rfl rfl ?_
    refine TOps.nilCheck rfl rfl ?_
    first | refine TOps.fieldB 3 rfl Try.underlying70 rfl rfl ti3 rfl rfl rfl ?_ | refine TOps.fieldN 3 rfl Try.underlying70 rfl rfl ti3 rfl rfl rfl ?_
    refine TOps.load1 rfl ti3 (by first | exact Rd.lit (by repeat (first | exact List.Mem.head _ | apply List.Mem.tail)) rfl | (repeat (first | assumption | exact Rd.fld (by assumption) 3 rfl | apply Rd.up))) rfl ?_
    refine TOps.call (vs := [_, _]) Try.call35 ⟨rfl, rfl, trivial⟩ (mvalue_g hr hF hg hf f hf) rfl ?_
    rintro _ _ ⟨rfl, rfl⟩
    refine TOps.blk rfl (by repeat (first | exact Ext.refl _ | refine Ext.cons rfl ?_)) (by repeat (first | exact Le.refl _ | apply Le.drop))
  refine TOps.assign rfl rfl ?_
  refine TOps.next ?_
  refine Tri.ret1 (H' := H) Try.results15 (fun _ _ h => h) (.tmp rfl) (Le.refl _) ⟨rfl, rfl⟩
theorem mtopNil_g {H : List Ent} : Gives Try.prog 15 [.pointer none] H (R1 (.bool false) H) := by
  refine Gives.enter Try.func15 rfl (by exact Try.ntmps15) rfl ?_
  refine Tri.seq (Tri.region ?_)
  refine TOps.assign rfl rfl ?_
  refine TOps.next ?_
  refine Tri.seq (Tri.region ?_)
  refine TOps.move rfl rfl ?_
  refine TOps.neqPtrNil rfl Try.underlying31 rfl ?_
  refine TOps.move rfl rfl ?_
  refine' TOps.andB 6 rfl rfl rfl rfl (fun hg1_2 => ?_) ?_; rotate_left
  · exact absurd hg1_2 (by first | decide | simp)
  rotate_left
  exact false
  refine TOps.assign rfl rfl ?_
  refine TOps.next ?_
  refine Tri.ret1 (H' := H) Try.results15 (fun _ _ h => h) (.tmp rfl) (Le.refl _) ⟨rfl, rfl⟩
theorem mfailed_g {H : List Ent} {m : Nat} {F : Fm} {nv lv : Value} {f : Nat} (hr : Rd H m 0 [.int .i64 F.vars, nv, .int .i64 F.top, .int .i64 f, lv]) (hF : RF H (.agg (List.toArray [.int .i64 F.vars, nv, .int .i64 F.top])) F) (hg : F.Good) (hf : f < 2 ^ F.vars.toNat) : Gives Try.prog 12 [.pointer (some ⟨m, 0, none⟩)] H (R1 (.int .i64 f) H) := by
  refine Gives.enter Try.func12 rfl (by exact Try.ntmps12) rfl ?_
  refine Tri.seq (Tri.region ?_)
  refine TOps.assign rfl rfl ?_
  refine TOps.next ?_
  refine Tri.seq ?_
  refine Tri.seq (Tri.region ?_)
  refine TOps.move rfl rfl ?_
  refine TOps.eqlPtrNil rfl Try.underlying31 rfl ?_
  refine TOps.next ?_
  refine Tri.cond rfl (fun hc1 => ?_) (fun hc1 => ?_)
  · exact absurd hc1 (by first | decide | simp)
  try simp only [decide_eq_true_eq, decide_eq_false_iff_not, Bool.and_eq_true, Bool.or_eq_true, Bool.not_eq_true', Bool.and_eq_false_iff, Bool.or_eq_false_iff, Bool.not_eq_false', Int.not_lt, Int.not_le, ne_eq, Decidable.not_not, Option.isSome_iff_ne_none, Option.isNone_iff_eq_none] at hc1
  refine Tri.fin ?_
  refine Nrm.next ?_
  refine Tri.seq (Tri.region ?_)
  refine TOps.move rfl rfl ?_
  refine TOps.nilCheck rfl rfl ?_
  first | refine TOps.fieldB 3 rfl Try.underlying70 rfl rfl ti3 rfl rfl rfl ?_ | refine TOps.fieldN 3 rfl Try.underlying70 rfl rfl ti3 rfl rfl rfl ?_
  refine TOps.load1 rfl ti3 (by first | exact Rd.lit (by repeat (first | exact List.Mem.head _ | apply List.Mem.tail)) rfl | (repeat (first | assumption | exact Rd.fld (by assumption) 3 rfl | apply Rd.up))) rfl ?_
  refine TOps.assign rfl rfl ?_
  refine TOps.next ?_
  refine Tri.ret1 (H' := H) Try.results12 (fun _ _ h => h) (.tmp rfl) (Le.refl _) ⟨rfl, rfl⟩
theorem mfailedNil_g {H : List Ent} : Gives Try.prog 12 [.pointer none] H (R1 (.int .i64 0) H) := by
  refine Gives.enter Try.func12 rfl (by exact Try.ntmps12) rfl ?_
  refine Tri.seq (Tri.region ?_)
  refine TOps.assign rfl rfl ?_
  refine TOps.next ?_
  refine Tri.seq ?_
  refine Tri.seq (Tri.region ?_)
  refine TOps.move rfl rfl ?_
  refine TOps.eqlPtrNil rfl Try.underlying31 rfl ?_
  refine TOps.next ?_
  refine Tri.cond rfl (fun hc1 => ?_) (fun hc1 => ?_)
  · try simp only [decide_eq_true_eq, decide_eq_false_iff_not, Bool.and_eq_true, Bool.or_eq_true, Bool.not_eq_true', Bool.and_eq_false_iff, Bool.or_eq_false_iff, Bool.not_eq_false', Int.not_lt, Int.not_le, ne_eq, Decidable.not_not, Option.isSome_iff_ne_none, Option.isNone_iff_eq_none] at hc1
    refine Tri.seq (Tri.region ?_)
    refine TOps.assign rfl rfl ?_
    refine TOps.next ?_
    refine Tri.ret1 (H' := H) Try.results12 (fun _ _ h => h) (.tmp rfl) (Le.refl _) ⟨rfl, rfl⟩
  · exact absurd hc1 (by first | decide | simp)
theorem mlog_g {H : List Ent} {m : Nat} {x0 x1 x2 x3 : Value} {l : List Pl} {la : Option Nat} {lcap : Nat} (hr : Rd H m 0 [x0, x1, x2, x3, slV la 0 l.length lcap]) (hl : RdS H la 0 (logCells l)) (h4 : l.length ≤ 4096) :
    Gives Try.prog 18 [.pointer (some ⟨m, 0, none⟩)] H (fun u H' => ∃ a' cap', u = slV a' 0 l.length cap' ∧ (logCells l ≠ [] → ∃ b, a' = some b) ∧ row a' 42 3 cap' (logCells l) :: H = H') := by
  refine Gives.enter Try.func18 rfl (by exact Try.ntmps18) rfl ?_
  refine Tri.seq (Tri.region ?_)
  refine TOps.assign rfl rfl ?_
  refine TOps.next ?_
  refine Tri.seq ?_
  refine Tri.seq (Tri.region ?_)
  refine TOps.move rfl rfl ?_
  refine TOps.eqlPtrNil rfl Try.underlying31 rfl ?_
  refine TOps.next ?_
  refine Tri.cond rfl (fun hc1 => ?_) (fun hc1 => ?_)
  · exact absurd hc1 (by first | decide | simp)
  try simp only [decide_eq_true_eq, decide_eq_false_iff_not, Bool.and_eq_true, Bool.or_eq_true, Bool.not_eq_true', Bool.and_eq_false_iff, Bool.or_eq_false_iff, Bool.not_eq_false', Int.not_lt, Int.not_le, ne_eq, Decidable.not_not, Option.isSome_iff_ne_none, Option.isNone_iff_eq_none] at hc1
  refine Tri.fin ?_
  refine Nrm.next ?_
  refine Tri.seq (Tri.region ?_)
  refine TOps.move rfl rfl ?_
  refine TOps.nilCheck rfl rfl ?_
  first | refine TOps.fieldB 4 rfl Try.underlying70 rfl rfl ti39 rfl rfl rfl ?_ | refine TOps.fieldN 4 rfl Try.underlying70 rfl rfl ti39 rfl rfl rfl ?_
  refine TOps.load1 rfl ti39 (by first | exact Rd.lit (by repeat (first | exact List.Mem.head _ | apply List.Mem.tail)) rfl | (repeat (first | assumption | exact Rd.fld (by assumption) 4 rfl | apply Rd.up))) rfl ?_
  refine TOps.call (vs := [_]) Try.call39 ⟨rfl, trivial⟩ (clonePl_g hl (by omega)) rfl ?_
  rintro _ _ ⟨a', cap', rfl, h0, rfl⟩
  refine TOps.assign rfl rfl ?_
  refine TOps.next ?_
  refine Tri.ret1 (H' := _) Try.results18 (fun _ _ h => h) (.tmp rfl) (Le.refl _) ⟨a', cap', rfl, h0, rfl⟩
theorem mlogNil_g {H : List Ent} : Gives Try.prog 18 [.pointer none] H (R1 (slV none 0 0 0) H) := by
  refine Gives.enter Try.func18 rfl (by exact Try.ntmps18) rfl ?_
  refine Tri.seq (Tri.region ?_)
  refine TOps.assign rfl rfl ?_
  refine TOps.next ?_
  refine Tri.seq ?_
  refine Tri.seq (Tri.region ?_)
  refine TOps.move rfl rfl ?_
  refine TOps.eqlPtrNil rfl Try.underlying31 rfl ?_
  refine TOps.next ?_
  refine Tri.cond rfl (fun hc1 => ?_) (fun hc1 => ?_)
  · try simp only [decide_eq_true_eq, decide_eq_false_iff_not, Bool.and_eq_true, Bool.or_eq_true, Bool.not_eq_true', Bool.and_eq_false_iff, Bool.or_eq_false_iff, Bool.not_eq_false', Int.not_lt, Int.not_le, ne_eq, Decidable.not_not, Option.isSome_iff_ne_none, Option.isNone_iff_eq_none] at hc1
    refine Tri.seq (Tri.region ?_)
    refine TOps.assign rfl rfl ?_
    refine TOps.next ?_
    refine Tri.ret1 (H' := H) Try.results18 (fun _ _ h => h) (.tmp rfl) (Le.refl _) ⟨rfl, rfl⟩
  · exact absurd hc1 (by first | decide | simp)
theorem mdeciding_g {H : List Ent} {m : Nat} {F : Fm} {nv lv : Value} {f : Nat} (hr : Rd H m 0 [.int .i64 F.vars, nv, .int .i64 F.top, .int .i64 f, lv]) (hF : RF H (.agg (List.toArray [.int .i64 F.vars, nv, .int .i64 F.top])) F) (hg : F.Good) (hf : f < 2 ^ F.vars.toNat) (set : Nat) (hset : set < 2 ^ F.vars.toNat) : Gives Try.prog 34 [.pointer (some ⟨m, 0, none⟩), .int .i64 set] H (R1 (.int .i64 (F.dec f set : Nat)) H) := by
  have g0 := hg.v0; have g1 := hg.v1
  obtain ⟨v, hv⟩ := Int.eq_ofNat_of_zero_le g0
  have hvn : F.vars.toNat = v := by omega
  have h24 := pow24 (show v ≤ 24 by omega)
  have hdec : F.dec f set = F.decTo f set v := by unfold Fm.dec; rw [hvn]
  have hff := hf; have hss := hset
  rw [hvn] at hff hss
  rw [hdec]
  have hr0 := hr
  rw [hv] at hr0
  refine Gives.enter Try.func34 rfl (by exact Try.ntmps34) rfl ?_
  refine Tri.seq (Tri.region ?_)
  refine TOps.assign rfl rfl ?_
  refine TOps.next ?_
  refine Tri.seq (Tri.region ?_)
  refine TOps.move rfl rfl ?_
  refine TOps.call (vs := [_]) Try.call15 ⟨rfl, trivial⟩ (mtop_g hr hF hg hf) rfl ?_
  rintro _ _ ⟨rfl, rfl⟩
  refine TOps.assign rfl rfl ?_
  refine TOps.assign rfl rfl ?_
  refine TOps.next ?_
  refine Tri.seq ?_
  refine Tri.seq (Tri.region ?_)
  refine TOps.move rfl rfl ?_
  refine TOps.nilCheck rfl rfl ?_
  refine TOps.field0 rfl Try.underlying70 rfl rfl ti24 rfl rfl rfl ?_
  refine TOps.field0 rfl Try.underlying24 rfl rfl ti3 rfl rfl rfl ?_
  refine TOps.load1 rfl ti3 (hr0.fld 0 rfl) rfl ?_
  refine TOps.move rfl rfl ?_
  refine TOps.next ?_
  refine Tri.range (X := Unit) (fun x k => [(0, .pointer (some ⟨m, 0, none⟩)), (1, .int .i64 set), (6, .bool (F.value (f : Nat))), (5, .int .i64 (F.decTo f set k : Nat))]) (fun x k => H) (fun x k => True) (by omega) rfl rfl rfl (fun _ _ => ⟨rfl, rfl, rfl, rfl⟩) () trivial ⟨rfl, rfl, rfl, rfl, trivial⟩ (by repeat (first | exact Le.refl _ | assumption | apply Le.drop)) (fun k x hlt hp => ?_) (fun x ac wc hp hS hM => ?_)
  · skip
    have hdl := F.decTo_lt f set k
    have h2k : 2 ^ k < 2 ^ v := Nat.pow_lt_pow_right (by decide) (by omega)
    have hxl : f ^^^ 2 ^ k < 2 ^ F.vars.toNat := by rw [hvn]; exact xor_bit_lt hff (by omega)
    have hds : F.decTo f set (k + 1) = (bif set.testBit k && (F.value ((f ^^^ 2 ^ k : Nat) : Int) != F.value (f : Nat)) then F.decTo f set k ||| 2 ^ k else F.decTo f set k) := rfl
    have hbit := bit_step set k (by omega)
    refine Tri.seq (Tri.region ?_)
    refine TOps.move rfl rfl ?_
    refine TOps.assign rfl rfl ?_
    refine TOps.next ?_
    refine Tri.seq ?_
    cases hsb : set.testBit k
    · skip
      rw [hsb] at hbit
      refine Tri.drawC rfl [(0, .pointer (some ⟨m, 0, none⟩)), (1, .int .i64 set), (6, .bool (F.value (f : Nat))), (5, .int .i64 (F.decTo f set k : Nat)), (14, .int .i64 v), (15, .int .i64 k), (7, .int .i64 k)] [] [_, _, _, _, _, _, _, _, _, _, _, _, _, _, _, _, _, _] (H) [17] rfl ⟨rfl, rfl, rfl, rfl, rfl, rfl, rfl, trivial⟩ trivial (by repeat (first | exact Le.refl _ | assumption | apply Le.drop)) (by
        refine ⟨?_, ?_, ?_, ?_, ?_, ?_, ?_, ?_, ?_, ?_, ?_, ?_, ?_, ?_, ?_, ?_, ?_, ?_, trivial⟩
        · refine ⟨fun x S c he hw hd hc hcu hm _ => ?_, trivial⟩
          refine TOps.move (he _ _ rfl) rfl ?_
          exact TOps.fin (Nrm.draw x (fun _ _ _ => rfl) rfl (by first | exact Le.refl _ | assumption | exact (by repeat (first | exact Le.refl _ | assumption | apply Le.drop))))
        · refine ⟨fun x S c he hw hd hc hcu hm _ => ?_, trivial⟩
          refine TOps.move (he _ _ rfl) rfl ?_
          exact TOps.fin (Nrm.draw x (fun _ _ _ => rfl) rfl (by first | exact Le.refl _ | assumption | exact (by repeat (first | exact Le.refl _ | assumption | apply Le.drop))))
        · refine ⟨fun x S c he hw hd hc hcu hm _ => ?_, trivial⟩
          obtain ⟨h0, h1, -⟩ := hd
          refine TOps.shr h0 h1 (by omega) rfl rfl ?_
          exact TOps.fin (Nrm.draw x (fun _ _ _ => rfl) rfl (by first | exact Le.refl _ | assumption | exact (by repeat (first | exact Le.refl _ | assumption | apply Le.drop))))
        · refine ⟨fun x S c he hw hd hc hcu hm _ => ?_, trivial⟩
          obtain ⟨h2, -⟩ := hd
          refine TOps.and (r := 0) h2 rfl (by rw [Int.toNat_natCast]; exact hbit) rfl ?_
          exact TOps.fin (Nrm.draw x (fun _ _ _ => rfl) rfl (by first | exact Le.refl _ | assumption | exact (by repeat (first | exact Le.refl _ | assumption | apply Le.drop))))
        · refine ⟨fun x S c he hw hd hc hcu hm _ => ?_, trivial⟩
          obtain ⟨h3, -⟩ := hd
          refine TOps.eqlIr (r := false) h3 rfl rfl rfl ?_
          exact TOps.fin (Nrm.draw x (fun _ _ _ => rfl) rfl (by first | exact Le.refl _ | assumption | exact (by repeat (first | exact Le.refl _ | assumption | apply Le.drop))))
        · refine ⟨fun x S c he hw hd hc hcu hm _ => ?_, trivial⟩
          obtain ⟨h4, -⟩ := hd
          refine TOps.move h4 rfl ?_
          exact TOps.fin (Nrm.draw x (fun _ _ _ => rfl) rfl (by first | exact Le.refl _ | assumption | exact (by repeat (first | exact Le.refl _ | assumption | apply Le.drop))))
        · refine ⟨fun x S c he hw hd hc hcu hm hgd => ?_, ⟨_, rfl⟩, .inl ⟨rfl, fun x => .inr ⟨.inl rfl, rfl⟩⟩⟩
          exact absurd hgd (by first | (intro h; cases h; done) | simp_all)
        · refine ⟨fun x S c he hw hd hc hcu hm hgd => ?_, ⟨_, rfl⟩, .inl ⟨rfl, fun x => .inr ⟨.inl rfl, rfl⟩⟩⟩
          exact absurd hgd (by first | (intro h; cases h; done) | simp_all)
        · refine ⟨fun x S c he hw hd hc hcu hm hgd => ?_, ⟨_, rfl⟩, .inl ⟨rfl, fun x => .inr ⟨.inl rfl, rfl⟩⟩⟩
          exact absurd hgd (by first | (intro h; cases h; done) | simp_all)
        · refine ⟨fun x S c he hw hd hc hcu hm hgd => ?_, ⟨_, rfl⟩, .inl ⟨rfl, fun x => .inr ⟨.inl rfl, rfl⟩⟩⟩
          exact absurd hgd (by first | (intro h; cases h; done) | simp_all)
        · refine ⟨fun x S c he hw hd hc hcu hm hgd => ?_, ⟨_, rfl⟩, .inl ⟨rfl, fun x => .inr ⟨.inl rfl, rfl⟩⟩⟩
          exact absurd hgd (by first | (intro h; cases h; done) | simp_all)
        · refine ⟨fun x S c he hw hd hc hcu hm hgd => ?_, ⟨_, rfl⟩, .inl ⟨rfl, fun x => .inr ⟨.inl rfl, rfl⟩⟩⟩
          exact absurd hgd (by first | (intro h; cases h; done) | simp_all)
        · refine ⟨fun x S c he hw hd hc hcu hm hgd => ?_, ⟨_, rfl⟩, .inl ⟨rfl, fun x => .inr ⟨.inl rfl, rfl⟩⟩⟩
          exact absurd hgd (by first | (intro h; cases h; done) | simp_all)
        · refine ⟨fun x S c he hw hd hc hcu hm hgd => ?_, ⟨_, rfl⟩, .inl ⟨rfl, fun x => .inr ⟨.inl rfl, rfl⟩⟩⟩
          exact absurd hgd (by first | (intro h; cases h; done) | simp_all)
        · refine ⟨fun x S c he hw hd hc hcu hm hgd => ?_, ⟨_, rfl⟩, .inl ⟨rfl, fun x => .inr ⟨.inl rfl, rfl⟩⟩⟩
          exact absurd hgd (by first | (intro h; cases h; done) | simp_all)
        · refine ⟨fun x S c he hw hd hc hcu hm hgd => ?_, ⟨_, rfl⟩, .inl ⟨rfl, fun x => .inr ⟨.inl rfl, rfl⟩⟩⟩
          exact absurd hgd (by first | (intro h; cases h; done) | simp_all)
        · refine ⟨fun x S c he hw hd hc hcu hm hgd => ?_, ⟨_, rfl⟩, .inl ⟨rfl, fun x => .inr ⟨.inl rfl, rfl⟩⟩⟩
          exact absurd hgd (by first | (intro h; cases h; done) | simp_all)
        · refine ⟨fun x S c he hw hd hc hcu hm _ => ?_, trivial⟩
          obtain ⟨h5, h16, -⟩ := hd
          refine TOps.pickr (r := .bool (set.testBit k && (F.value ((f ^^^ 2 ^ k : Nat) : Int) != F.value (f : Nat)))) h5 h16 rfl (by rw [hsb]; rfl) rfl ?_
          exact TOps.fin (Nrm.draw x (fun _ _ _ => rfl) rfl (by first | exact Le.refl _ | assumption | exact (by repeat (first | exact Le.refl _ | assumption | apply Le.drop))))
        ) ?_
      refine Nrm.next ?_
      refine Tri.cond rfl (fun hc1 => ?_) (fun hc1 => ?_)
      · try simp only [decide_eq_true_eq, decide_eq_false_iff_not, Bool.and_eq_true, Bool.or_eq_true, Bool.not_eq_true', Bool.and_eq_false_iff, Bool.or_eq_false_iff, Bool.not_eq_false', Int.not_lt, Int.not_le, ne_eq, Decidable.not_not, Option.isSome_iff_ne_none, Option.isNone_iff_eq_none] at hc1
        have hq : (set.testBit k && (F.value ((f ^^^ 2 ^ k : Nat) : Int) != F.value (f : Nat))) = true := by simpa using hc1
        rw [hq, cond_true] at hds
        refine Tri.region ?_
        refine TOps.move rfl rfl ?_
        refine TOps.move rfl rfl ?_
        refine TOps.shl (r := ((2 ^ k : Nat) : Int)) rfl rfl (by omega) (by rw [Int.toNat_natCast]; exact ishl_one (by omega)) rfl ?_
        refine TOps.or (r := ((F.decTo f set k ||| 2 ^ k : Nat) : Int)) rfl rfl (ior_nat (by omega) (by omega)) rfl ?_
        refine TOps.assign rfl rfl ?_
        refine TOps.fin ?_
        refine Nrm.body () trivial ⟨rfl, rfl, rfl, rfl, rfl, (by rw [hds]; rfl), trivial⟩ (by repeat (first | exact Le.refl _ | assumption | apply Le.drop))
      try simp only [decide_eq_true_eq, decide_eq_false_iff_not, Bool.and_eq_true, Bool.or_eq_true, Bool.not_eq_true', Bool.and_eq_false_iff, Bool.or_eq_false_iff, Bool.not_eq_false', Int.not_lt, Int.not_le, ne_eq, Decidable.not_not, Option.isSome_iff_ne_none, Option.isNone_iff_eq_none] at hc1
      have hq : (set.testBit k && (F.value ((f ^^^ 2 ^ k : Nat) : Int) != F.value (f : Nat))) = false := by rw [Bool.and_eq_false_iff]; simpa using hc1
      rw [hq, cond_false] at hds
      refine Tri.fin ?_
      refine Nrm.body () trivial ⟨rfl, rfl, rfl, rfl, rfl, (by rw [hds]; rfl), trivial⟩ (by repeat (first | exact Le.refl _ | assumption | apply Le.drop))
    · skip
      rw [hsb] at hbit
      refine Tri.drawC rfl [(0, .pointer (some ⟨m, 0, none⟩)), (1, .int .i64 set), (6, .bool (F.value (f : Nat))), (5, .int .i64 (F.decTo f set k : Nat)), (14, .int .i64 v), (15, .int .i64 k), (7, .int .i64 k)] [] [_, _, _, _, _, _, _, _, _, _, _, _, _, _, _, _, _, _] (H) [17] rfl ⟨rfl, rfl, rfl, rfl, rfl, rfl, rfl, trivial⟩ trivial (by repeat (first | exact Le.refl _ | assumption | apply Le.drop)) (by
        refine ⟨?_, ?_, ?_, ?_, ?_, ?_, ?_, ?_, ?_, ?_, ?_, ?_, ?_, ?_, ?_, ?_, ?_, ?_, trivial⟩
        · refine ⟨fun x S c he hw hd hc hcu hm _ => ?_, trivial⟩
          refine TOps.move (he _ _ rfl) rfl ?_
          exact TOps.fin (Nrm.draw x (fun _ _ _ => rfl) rfl (by first | exact Le.refl _ | assumption | exact (by repeat (first | exact Le.refl _ | assumption | apply Le.drop))))
        · refine ⟨fun x S c he hw hd hc hcu hm _ => ?_, trivial⟩
          refine TOps.move (he _ _ rfl) rfl ?_
          exact TOps.fin (Nrm.draw x (fun _ _ _ => rfl) rfl (by first | exact Le.refl _ | assumption | exact (by repeat (first | exact Le.refl _ | assumption | apply Le.drop))))
        · refine ⟨fun x S c he hw hd hc hcu hm _ => ?_, trivial⟩
          obtain ⟨h0, h1, -⟩ := hd
          refine TOps.shr h0 h1 (by omega) rfl rfl ?_
          exact TOps.fin (Nrm.draw x (fun _ _ _ => rfl) rfl (by first | exact Le.refl _ | assumption | exact (by repeat (first | exact Le.refl _ | assumption | apply Le.drop))))
        · refine ⟨fun x S c he hw hd hc hcu hm _ => ?_, trivial⟩
          obtain ⟨h2, -⟩ := hd
          refine TOps.and (r := 1) h2 rfl (by rw [Int.toNat_natCast]; exact hbit) rfl ?_
          exact TOps.fin (Nrm.draw x (fun _ _ _ => rfl) rfl (by first | exact Le.refl _ | assumption | exact (by repeat (first | exact Le.refl _ | assumption | apply Le.drop))))
        · refine ⟨fun x S c he hw hd hc hcu hm _ => ?_, trivial⟩
          obtain ⟨h3, -⟩ := hd
          refine TOps.eqlIr (r := true) h3 rfl rfl rfl ?_
          exact TOps.fin (Nrm.draw x (fun _ _ _ => rfl) rfl (by first | exact Le.refl _ | assumption | exact (by repeat (first | exact Le.refl _ | assumption | apply Le.drop))))
        · refine ⟨fun x S c he hw hd hc hcu hm _ => ?_, trivial⟩
          obtain ⟨h4, -⟩ := hd
          refine TOps.move h4 rfl ?_
          exact TOps.fin (Nrm.draw x (fun _ _ _ => rfl) rfl (by first | exact Le.refl _ | assumption | exact (by repeat (first | exact Le.refl _ | assumption | apply Le.drop))))
        · refine ⟨fun x S c he hw hd hc hcu hm hgd => ?_, ⟨_, rfl⟩, .inl ⟨rfl, fun x => .inl rfl⟩⟩
          obtain ⟨h5, -⟩ := hd
          refine TOps.move (he _ _ rfl) rfl ?_
          exact TOps.fin (Nrm.draw x (fun _ _ _ => rfl) rfl (by first | exact Le.refl _ | assumption | exact (by repeat (first | exact Le.refl _ | assumption | apply Le.drop))))
        · refine ⟨fun x S c he hw hd hc hcu hm hgd => ?_, ⟨_, rfl⟩, .inl ⟨rfl, fun x => .inl rfl⟩⟩
          obtain ⟨h5, -⟩ := hd
          refine TOps.move (he _ _ rfl) rfl ?_
          exact TOps.fin (Nrm.draw x (fun _ _ _ => rfl) rfl (by first | exact Le.refl _ | assumption | exact (by repeat (first | exact Le.refl _ | assumption | apply Le.drop))))
        · refine ⟨fun x S c he hw hd hc hcu hm hgd => ?_, ⟨_, rfl⟩, .inl ⟨rfl, fun x => .inl rfl⟩⟩
          obtain ⟨h7, h5, -⟩ := hd
          refine TOps.nilCheck h7 rfl ?_
          exact TOps.fin (Nrm.draw x (fun _ _ _ => rfl) rfl (by first | exact Le.refl _ | assumption | exact (by repeat (first | exact Le.refl _ | assumption | apply Le.drop))))
        · refine ⟨fun x S c he hw hd hc hcu hm hgd => ?_, ⟨_, rfl⟩, .inl ⟨rfl, fun x => .inl rfl⟩⟩
          obtain ⟨h8, h5, -⟩ := hd
          first | refine TOps.fieldB 3 h8 Try.underlying70 rfl rfl ti3 rfl rfl rfl ?_ | refine TOps.fieldN 3 h8 Try.underlying70 rfl rfl ti3 rfl rfl rfl ?_
          exact TOps.fin (Nrm.draw x (fun _ _ _ => rfl) rfl (by first | exact Le.refl _ | assumption | exact (by repeat (first | exact Le.refl _ | assumption | apply Le.drop))))
        · refine ⟨fun x S c he hw hd hc hcu hm hgd => ?_, ⟨_, rfl⟩, .inl ⟨rfl, fun x => .inl rfl⟩⟩
          obtain ⟨h9, h5, -⟩ := hd
          refine TOps.load1 h9 ti3 (hr.fld 3 rfl) rfl ?_
          exact TOps.fin (Nrm.draw x (fun _ _ _ => rfl) rfl (by first | exact Le.refl _ | assumption | exact (by repeat (first | exact Le.refl _ | assumption | apply Le.drop))))
        · refine ⟨fun x S c he hw hd hc hcu hm hgd => ?_, ⟨_, rfl⟩, .inl ⟨rfl, fun x => .inl rfl⟩⟩
          obtain ⟨h5, -⟩ := hd
          refine TOps.move (he _ _ rfl) rfl ?_
          exact TOps.fin (Nrm.draw x (fun _ _ _ => rfl) rfl (by first | exact Le.refl _ | assumption | exact (by repeat (first | exact Le.refl _ | assumption | apply Le.drop))))
        · refine ⟨fun x S c he hw hd hc hcu hm hgd => ?_, ⟨_, rfl⟩, .inl ⟨rfl, fun x => .inl rfl⟩⟩
          obtain ⟨h11, h5, -⟩ := hd
          refine TOps.shl (r := ((2 ^ k : Nat) : Int)) rfl h11 (by omega) (by rw [Int.toNat_natCast]; exact ishl_one (by omega)) rfl ?_
          exact TOps.fin (Nrm.draw x (fun _ _ _ => rfl) rfl (by first | exact Le.refl _ | assumption | exact (by repeat (first | exact Le.refl _ | assumption | apply Le.drop))))
        · refine ⟨fun x S c he hw hd hc hcu hm hgd => ?_, ⟨_, rfl⟩, .inl ⟨rfl, fun x => .inl rfl⟩⟩
          obtain ⟨h10, h12, h5, -⟩ := hd
          refine TOps.xor (r := ((f ^^^ 2 ^ k : Nat) : Int)) h10 h12 (ixor_nat (by omega) (by omega)) rfl ?_
          exact TOps.fin (Nrm.draw x (fun _ _ _ => rfl) rfl (by first | exact Le.refl _ | assumption | exact (by repeat (first | exact Le.refl _ | assumption | apply Le.drop))))
        · refine ⟨fun x S c he hw hd hc hcu hm hgd => ?_, ⟨_, rfl⟩, .inl ⟨rfl, fun x => .inl rfl⟩⟩
          obtain ⟨h6, h13, h5, _, -⟩ := hd
          refine TOps.call (vs := [_, _]) Try.call35 ⟨h6, h13, trivial⟩ (mvalue_g hr hF hg hf (f ^^^ 2 ^ k) hxl) rfl ?_
          rintro _ _ ⟨rfl, rfl⟩
          exact TOps.fin (Nrm.draw x (fun _ _ _ => rfl) rfl (by first | exact Le.refl _ | assumption | exact (by repeat (first | exact Le.refl _ | assumption | apply Le.drop))))
        · refine ⟨fun x S c he hw hd hc hcu hm hgd => ?_, ⟨_, rfl⟩, .inl ⟨rfl, fun x => .inl rfl⟩⟩
          obtain ⟨h5, -⟩ := hd
          refine TOps.move (he _ _ rfl) rfl ?_
          exact TOps.fin (Nrm.draw x (fun _ _ _ => rfl) rfl (by first | exact Le.refl _ | assumption | exact (by repeat (first | exact Le.refl _ | assumption | apply Le.drop))))
        · refine ⟨fun x S c he hw hd hc hcu hm hgd => ?_, ⟨_, rfl⟩, .inl ⟨rfl, fun x => .inl rfl⟩⟩
          obtain ⟨h14, h15, h5, -⟩ := hd
          refine TOps.neqB h14 h15 Try.underlying4 rfl ?_
          exact TOps.fin (Nrm.draw x (fun _ _ _ => rfl) rfl (by first | exact Le.refl _ | assumption | exact (by repeat (first | exact Le.refl _ | assumption | apply Le.drop))))
        · refine ⟨fun x S c he hw hd hc hcu hm _ => ?_, trivial⟩
          obtain ⟨h5, h16, -⟩ := hd
          refine TOps.pickr (r := .bool (set.testBit k && (F.value ((f ^^^ 2 ^ k : Nat) : Int) != F.value (f : Nat)))) h5 h16 rfl (by rw [hsb]; rfl) rfl ?_
          exact TOps.fin (Nrm.draw x (fun _ _ _ => rfl) rfl (by first | exact Le.refl _ | assumption | exact (by repeat (first | exact Le.refl _ | assumption | apply Le.drop))))
        ) ?_
      refine Nrm.next ?_
      refine Tri.cond rfl (fun hc1 => ?_) (fun hc1 => ?_)
      · try simp only [decide_eq_true_eq, decide_eq_false_iff_not, Bool.and_eq_true, Bool.or_eq_true, Bool.not_eq_true', Bool.and_eq_false_iff, Bool.or_eq_false_iff, Bool.not_eq_false', Int.not_lt, Int.not_le, ne_eq, Decidable.not_not, Option.isSome_iff_ne_none, Option.isNone_iff_eq_none] at hc1
        have hq : (set.testBit k && (F.value ((f ^^^ 2 ^ k : Nat) : Int) != F.value (f : Nat))) = true := by simpa using hc1
        rw [hq, cond_true] at hds
        refine Tri.region ?_
        refine TOps.move rfl rfl ?_
        refine TOps.move rfl rfl ?_
        refine TOps.shl (r := ((2 ^ k : Nat) : Int)) rfl rfl (by omega) (by rw [Int.toNat_natCast]; exact ishl_one (by omega)) rfl ?_
        refine TOps.or (r := ((F.decTo f set k ||| 2 ^ k : Nat) : Int)) rfl rfl (ior_nat (by omega) (by omega)) rfl ?_
        refine TOps.assign rfl rfl ?_
        refine TOps.fin ?_
        refine Nrm.body () trivial ⟨rfl, rfl, rfl, rfl, rfl, (by rw [hds]; rfl), trivial⟩ (by repeat (first | exact Le.refl _ | assumption | apply Le.drop))
      try simp only [decide_eq_true_eq, decide_eq_false_iff_not, Bool.and_eq_true, Bool.or_eq_true, Bool.not_eq_true', Bool.and_eq_false_iff, Bool.or_eq_false_iff, Bool.not_eq_false', Int.not_lt, Int.not_le, ne_eq, Decidable.not_not, Option.isSome_iff_ne_none, Option.isNone_iff_eq_none] at hc1
      have hq : (set.testBit k && (F.value ((f ^^^ 2 ^ k : Nat) : Int) != F.value (f : Nat))) = false := by rw [Bool.and_eq_false_iff]; simpa using hc1
      rw [hq, cond_false] at hds
      refine Tri.fin ?_
      refine Nrm.body () trivial ⟨rfl, rfl, rfl, rfl, rfl, (by rw [hds]; rfl), trivial⟩ (by repeat (first | exact Le.refl _ | assumption | apply Le.drop))
  refine Nrm.of hS hM ?_
  refine Nrm.next ?_
  refine Tri.seq (Tri.region ?_)
  refine TOps.move rfl rfl ?_
  refine TOps.assign rfl rfl ?_
  refine TOps.next ?_
  refine Tri.ret1 (H' := H) Try.results34 (fun _ _ h => h) (.tmp rfl) (Le.refl _) ⟨rfl, rfl⟩
theorem mcritical_g {H : List Ent} {m : Nat} {F : Fm} {nv lv : Value} {f : Nat} (hr : Rd H m 0 [.int .i64 F.vars, nv, .int .i64 F.top, .int .i64 f, lv]) (hF : RF H (.agg (List.toArray [.int .i64 F.vars, nv, .int .i64 F.top])) F) (hg : F.Good) (hf : f < 2 ^ F.vars.toNat) : Gives Try.prog 13 [.pointer (some ⟨m, 0, none⟩)] H (R1 (.int .i64 (F.crit f : Nat)) H) := by
  have g0 := hg.v0; have g1 := hg.v1
  obtain ⟨v, hv⟩ := Int.eq_ofNat_of_zero_le g0
  have hvn : F.vars.toNat = v := by omega
  have h24 := pow24 (show v ≤ 24 by omega)
  have hwk : F.work f = 2 ^ v - 1 - f := by unfold Fm.work; rw [hvn]
  have hwl : F.work f < 2 ^ F.vars.toNat := by rw [hwk, hvn]; have := Nat.two_pow_pos v; omega
  have hff := hf
  rw [hvn] at hff
  have hr0 := hr
  rw [hv] at hr0
  refine Gives.enter Try.func13 rfl (by exact Try.ntmps13) rfl ?_
  refine Tri.seq (Tri.region ?_)
  refine TOps.assign rfl rfl ?_
  refine TOps.next ?_
  refine Tri.seq ?_
  refine Tri.seq (Tri.region ?_)
  refine TOps.move rfl rfl ?_
  refine TOps.eqlPtrNil rfl Try.underlying31 rfl ?_
  refine TOps.next ?_
  refine Tri.cond rfl (fun hc1 => ?_) (fun hc1 => ?_)
  · exact absurd hc1 (by first | decide | simp)
  try simp only [decide_eq_true_eq, decide_eq_false_iff_not, Bool.and_eq_true, Bool.or_eq_true, Bool.not_eq_true', Bool.and_eq_false_iff, Bool.or_eq_false_iff, Bool.not_eq_false', Int.not_lt, Int.not_le, ne_eq, Decidable.not_not, Option.isSome_iff_ne_none, Option.isNone_iff_eq_none] at hc1
  refine Tri.fin ?_
  refine Nrm.next ?_
  refine Tri.seq ?_
  refine Tri.drawC rfl [(0, .pointer (some ⟨m, 0, none⟩))] [] [_, _, _, _, _, _, _, _, _, _, _, _, _, _, _] (H) [14] rfl ⟨rfl, trivial⟩ trivial (by repeat (first | exact Le.refl _ | assumption | apply Le.drop)) (by
    refine ⟨?_, ?_, ?_, ?_, ?_, ?_, ?_, ?_, ?_, ?_, ?_, ?_, ?_, ?_, ?_, trivial⟩
    · refine ⟨fun x S c he hw hd hc hcu hm _ => ?_, trivial⟩
      refine TOps.move (he _ _ rfl) rfl ?_
      exact TOps.fin (Nrm.draw x (fun _ _ _ => rfl) rfl (by first | exact Le.refl _ | assumption | exact (by repeat (first | exact Le.refl _ | assumption | apply Le.drop))))
    · refine ⟨fun x S c he hw hd hc hcu hm _ => ?_, trivial⟩
      refine TOps.move (he _ _ rfl) rfl ?_
      exact TOps.fin (Nrm.draw x (fun _ _ _ => rfl) rfl (by first | exact Le.refl _ | assumption | exact (by repeat (first | exact Le.refl _ | assumption | apply Le.drop))))
    · refine ⟨fun x S c he hw hd hc hcu hm _ => ?_, trivial⟩
      obtain ⟨h1, -⟩ := hd
      refine TOps.nilCheck h1 rfl ?_
      exact TOps.fin (Nrm.draw x (fun _ _ _ => rfl) rfl (by first | exact Le.refl _ | assumption | exact (by repeat (first | exact Le.refl _ | assumption | apply Le.drop))))
    · refine ⟨fun x S c he hw hd hc hcu hm _ => ?_, trivial⟩
      obtain ⟨h2, -⟩ := hd
      refine TOps.field0 h2 Try.underlying70 rfl rfl ti24 rfl rfl rfl ?_
      exact TOps.fin (Nrm.draw x (fun _ _ _ => rfl) rfl (by first | exact Le.refl _ | assumption | exact (by repeat (first | exact Le.refl _ | assumption | apply Le.drop))))
    · refine ⟨fun x S c he hw hd hc hcu hm _ => ?_, trivial⟩
      obtain ⟨h3, -⟩ := hd
      refine TOps.field0 h3 Try.underlying24 rfl rfl ti3 rfl rfl rfl ?_
      exact TOps.fin (Nrm.draw x (fun _ _ _ => rfl) rfl (by first | exact Le.refl _ | assumption | exact (by repeat (first | exact Le.refl _ | assumption | apply Le.drop))))
    · refine ⟨fun x S c he hw hd hc hcu hm _ => ?_, trivial⟩
      obtain ⟨h4, -⟩ := hd
      refine TOps.load1 h4 ti3 (hr0.fld 0 rfl) rfl ?_
      exact TOps.fin (Nrm.draw x (fun _ _ _ => rfl) rfl (by first | exact Le.refl _ | assumption | exact (by repeat (first | exact Le.refl _ | assumption | apply Le.drop))))
    · refine ⟨fun x S c he hw hd hc hcu hm _ => ?_, trivial⟩
      obtain ⟨h5, -⟩ := hd
      refine TOps.shl (r := ((2 ^ v : Nat) : Int)) rfl h5 (by omega) (by rw [Int.toNat_natCast]; exact ishl_one (by omega)) rfl ?_
      exact TOps.fin (Nrm.draw x (fun _ _ _ => rfl) rfl (by first | exact Le.refl _ | assumption | exact (by repeat (first | exact Le.refl _ | assumption | apply Le.drop))))
    · refine ⟨fun x S c he hw hd hc hcu hm _ => ?_, trivial⟩
      obtain ⟨h6, -⟩ := hd
      refine TOps.sub (r := ((2 ^ v - 1 : Nat) : Int)) h6 rfl (by rw [wrapI (by omega) (by omega)]; omega) rfl ?_
      exact TOps.fin (Nrm.draw x (fun _ _ _ => rfl) rfl (by first | exact Le.refl _ | assumption | exact (by repeat (first | exact Le.refl _ | assumption | apply Le.drop))))
    · refine ⟨fun x S c he hw hd hc hcu hm _ => ?_, trivial⟩
      refine TOps.move (he _ _ rfl) rfl ?_
      exact TOps.fin (Nrm.draw x (fun _ _ _ => rfl) rfl (by first | exact Le.refl _ | assumption | exact (by repeat (first | exact Le.refl _ | assumption | apply Le.drop))))
    · refine ⟨fun x S c he hw hd hc hcu hm _ => ?_, trivial⟩
      obtain ⟨h8, -⟩ := hd
      refine TOps.nilCheck h8 rfl ?_
      exact TOps.fin (Nrm.draw x (fun _ _ _ => rfl) rfl (by first | exact Le.refl _ | assumption | exact (by repeat (first | exact Le.refl _ | assumption | apply Le.drop))))
    · refine ⟨fun x S c he hw hd hc hcu hm _ => ?_, trivial⟩
      obtain ⟨h9, -⟩ := hd
      first | refine TOps.fieldB 3 h9 Try.underlying70 rfl rfl ti3 rfl rfl rfl ?_ | refine TOps.fieldN 3 h9 Try.underlying70 rfl rfl ti3 rfl rfl rfl ?_
      exact TOps.fin (Nrm.draw x (fun _ _ _ => rfl) rfl (by first | exact Le.refl _ | assumption | exact (by repeat (first | exact Le.refl _ | assumption | apply Le.drop))))
    · refine ⟨fun x S c he hw hd hc hcu hm _ => ?_, trivial⟩
      obtain ⟨h10, -⟩ := hd
      refine TOps.load1 h10 ti3 (hr.fld 3 rfl) rfl ?_
      exact TOps.fin (Nrm.draw x (fun _ _ _ => rfl) rfl (by first | exact Le.refl _ | assumption | exact (by repeat (first | exact Le.refl _ | assumption | apply Le.drop))))
    · refine ⟨fun x S c he hw hd hc hcu hm _ => ?_, trivial⟩
      obtain ⟨h7, h11, -⟩ := hd
      refine TOps.sub (r := ((F.work f : Nat) : Int)) h7 h11 (by rw [wrapI (by omega) (by omega)]; omega) rfl ?_
      exact TOps.fin (Nrm.draw x (fun _ _ _ => rfl) rfl (by first | exact Le.refl _ | assumption | exact (by repeat (first | exact Le.refl _ | assumption | apply Le.drop))))
    · refine ⟨fun x S c he hw hd hc hcu hm _ => ?_, trivial⟩
      obtain ⟨h0, h12, -⟩ := hd
      refine TOps.call (vs := [_, _]) Try.call34 ⟨h0, h12, trivial⟩ (mdeciding_g hr hF hg hf (F.work f) hwl) rfl ?_
      rintro _ _ ⟨rfl, rfl⟩
      exact TOps.fin (Nrm.draw x (fun _ _ _ => rfl) rfl (by first | exact Le.refl _ | assumption | exact (by repeat (first | exact Le.refl _ | assumption | apply Le.drop))))
    · refine ⟨fun x S c he hw hd hc hcu hm _ => ?_, trivial⟩
      obtain ⟨h13, _, h0, h1, h2, h3, h4, h5, h6, h7, h8, h9, h10, h11, h12, _, -⟩ := hd
      refine TOps.assign h13 rfl ?_
      exact TOps.fin (Nrm.draw x (fun _ _ _ => rfl) rfl (by first | exact Le.refl _ | assumption | exact (by repeat (first | exact Le.refl _ | assumption | apply Le.drop))))
    ) ?_
  refine Nrm.next ?_
  refine Tri.ret1 (H' := H) Try.results13 (fun _ _ h => h) (.tmp rfl) (Le.refl _) ⟨rfl, rfl⟩
theorem mcriticalNil_g {H : List Ent} : Gives Try.prog 13 [.pointer none] H (R1 (.int .i64 0) H) := by
  refine Gives.enter Try.func13 rfl (by exact Try.ntmps13) rfl ?_
  refine Tri.seq (Tri.region ?_)
  refine TOps.assign rfl rfl ?_
  refine TOps.next ?_
  refine Tri.seq ?_
  refine Tri.seq (Tri.region ?_)
  refine TOps.move rfl rfl ?_
  refine TOps.eqlPtrNil rfl Try.underlying31 rfl ?_
  refine TOps.next ?_
  refine Tri.cond rfl (fun hc1 => ?_) (fun hc1 => ?_)
  · try simp only [decide_eq_true_eq, decide_eq_false_iff_not, Bool.and_eq_true, Bool.or_eq_true, Bool.not_eq_true', Bool.and_eq_false_iff, Bool.or_eq_false_iff, Bool.not_eq_false', Int.not_lt, Int.not_le, ne_eq, Decidable.not_not, Option.isSome_iff_ne_none, Option.isNone_iff_eq_none] at hc1
    refine Tri.seq (Tri.region ?_)
    refine TOps.assign rfl rfl ?_
    refine TOps.next ?_
    refine Tri.ret1 (H' := H) Try.results13 (fun _ _ h => h) (.tmp rfl) (Le.refl _) ⟨rfl, rfl⟩
  · exact absurd hc1 (by first | decide | simp)
theorem mhealing_g {H : List Ent} {m : Nat} {F : Fm} {nv lv : Value} {f : Nat} (hr : Rd H m 0 [.int .i64 F.vars, nv, .int .i64 F.top, .int .i64 f, lv]) (hF : RF H (.agg (List.toArray [.int .i64 F.vars, nv, .int .i64 F.top])) F) (hg : F.Good) (hf : f < 2 ^ F.vars.toNat) : Gives Try.prog 14 [.pointer (some ⟨m, 0, none⟩)] H (R1 (.int .i64 (F.heal f : Nat)) H) := by
  refine Gives.enter Try.func14 rfl (by exact Try.ntmps14) rfl ?_
  refine Tri.seq (Tri.region ?_)
  refine TOps.assign rfl rfl ?_
  refine TOps.next ?_
  refine Tri.seq ?_
  refine Tri.seq (Tri.region ?_)
  refine TOps.move rfl rfl ?_
  refine TOps.eqlPtrNil rfl Try.underlying31 rfl ?_
  refine TOps.next ?_
  refine Tri.cond rfl (fun hc1 => ?_) (fun hc1 => ?_)
  · exact absurd hc1 (by first | decide | simp)
  try simp only [decide_eq_true_eq, decide_eq_false_iff_not, Bool.and_eq_true, Bool.or_eq_true, Bool.not_eq_true', Bool.and_eq_false_iff, Bool.or_eq_false_iff, Bool.not_eq_false', Int.not_lt, Int.not_le, ne_eq, Decidable.not_not, Option.isSome_iff_ne_none, Option.isNone_iff_eq_none] at hc1
  refine Tri.fin ?_
  refine Nrm.next ?_
  refine Tri.seq (Tri.region ?_)
  refine TOps.move rfl rfl ?_
  refine TOps.move rfl rfl ?_
  refine TOps.nilCheck rfl rfl ?_
  first | refine TOps.fieldB 3 rfl Try.underlying70 rfl rfl ti3 rfl rfl rfl ?_ | refine TOps.fieldN 3 rfl Try.underlying70 rfl rfl ti3 rfl rfl rfl ?_
  refine TOps.load1 rfl ti3 (hr.fld 3 rfl) rfl ?_
  refine TOps.call (vs := [_, _]) Try.call34 ⟨rfl, rfl, trivial⟩ (mdeciding_g hr hF hg hf f hf) rfl ?_
  rintro _ _ ⟨rfl, rfl⟩
  refine TOps.assign rfl rfl ?_
  refine TOps.next ?_
  refine Tri.ret1 (H' := H) Try.results14 (fun _ _ h => h) (.tmp rfl) (Le.refl _) ⟨rfl, rfl⟩
theorem mhealingNil_g {H : List Ent} : Gives Try.prog 14 [.pointer none] H (R1 (.int .i64 0) H) := by
  refine Gives.enter Try.func14 rfl (by exact Try.ntmps14) rfl ?_
  refine Tri.seq (Tri.region ?_)
  refine TOps.assign rfl rfl ?_
  refine TOps.next ?_
  refine Tri.seq ?_
  refine Tri.seq (Tri.region ?_)
  refine TOps.move rfl rfl ?_
  refine TOps.eqlPtrNil rfl Try.underlying31 rfl ?_
  refine TOps.next ?_
  refine Tri.cond rfl (fun hc1 => ?_) (fun hc1 => ?_)
  · try simp only [decide_eq_true_eq, decide_eq_false_iff_not, Bool.and_eq_true, Bool.or_eq_true, Bool.not_eq_true', Bool.and_eq_false_iff, Bool.or_eq_false_iff, Bool.not_eq_false', Int.not_lt, Int.not_le, ne_eq, Decidable.not_not, Option.isSome_iff_ne_none, Option.isNone_iff_eq_none] at hc1
    refine Tri.seq (Tri.region ?_)
    refine TOps.assign rfl rfl ?_
    refine TOps.next ?_
    refine Tri.ret1 (H' := H) Try.results14 (fun _ _ h => h) (.tmp rfl) (Le.refl _) ⟨rfl, rfl⟩
  · exact absurd hc1 (by first | decide | simp)
theorem mplay_g {H0 : List Ent} {m : Nat} {F : Fm} {nv : Value} {Z : Mo} {la : Option Nat} {lcap : Nat} (hF : RF H0 (.agg (List.toArray [.int .i64 F.vars, nv, .int .i64 F.top])) F) (hg : F.Good) (hS : MoOk F Z) (hla : Z.log ≠ [] → ∃ b, la = some b) (i : Int) (fl : Bool) :
    Gives Try.prog 40 [.pointer (some ⟨m, 0, none⟩), .int .i64 i, .bool fl] (row (some m) 70 5 1 [.int .i64 F.vars, nv, .int .i64 F.top, .int .i64 Z.f, slV la 0 Z.log.length lcap] :: row la 42 3 lcap (logCells Z.log) :: H0) (fun u H' => ∃ la' lcap', ((F.play Z i fl).log ≠ [] → ∃ b, la' = some b) ∧ u = .tuple (List.toArray [.bool (F.playTop Z i fl), errV 47 (F.playErr Z i fl)]) ∧ row (some m) 70 5 1 [.int .i64 F.vars, nv, .int .i64 F.top, .int .i64 (F.play Z i fl).f, slV la' 0 (F.play Z i fl).log.length lcap'] :: row la' 42 3 lcap' (logCells (F.play Z i fl).log) :: H0 = H') := by
  have g0 := hg.v0; have g1 := hg.v1
  obtain ⟨v, hv⟩ := Int.eq_ofNat_of_zero_le g0
  have hvn : F.vars.toNat = v := by omega
  have h24 := pow24 (show v ≤ 24 by omega)
  have hff := hS.lt
  have hl4 := hS.len
  have hlc := logCells_length Z.log
  rw [hvn] at hff
  have hsp : ∀ x : Bool, decide ((if x then (1 : Int) else 0) = 1) = x := fun x => by cases x <;> rfl
  have hF1 : ∀ (e1 e2 : Ent), RF (e1 :: e2 :: H0) (.agg (List.toArray [.int .i64 F.vars, nv, .int .i64 F.top])) F := fun e1 e2 => hF.le (Le.drop (Le.drop (Le.refl _)))
  refine Gives.enter Try.func40 rfl (by exact Try.ntmps40) rfl ?_
  refine Tri.seq (Tri.region ?_)
  refine TOps.assign rfl rfl ?_
  refine TOps.assign rfl rfl ?_
  refine TOps.next ?_
  refine Tri.seq ?_
  refine Tri.block ?_
  refine Tri.seq (Tri.region ?_)
  refine TOps.move rfl rfl ?_
  refine TOps.eqlPtrNil rfl Try.underlying31 rfl ?_
  refine TOps.assign rfl rfl ?_
  refine TOps.next ?_
  refine Tri.cond rfl (fun hc1 => ?_) (fun hc1 => ?_)
  · exact absurd hc1 (by first | decide | simp)
  try simp only [decide_eq_true_eq, decide_eq_false_iff_not, Bool.and_eq_true, Bool.or_eq_true, Bool.not_eq_true', Bool.and_eq_false_iff, Bool.or_eq_false_iff, Bool.not_eq_false', Int.not_lt, Int.not_le, ne_eq, Decidable.not_not, Option.isSome_iff_ne_none, Option.isNone_iff_eq_none] at hc1
  refine Tri.seq (Tri.region ?_)
  refine TOps.move rfl rfl ?_
  refine TOps.lss rfl rfl rfl ?_
  refine TOps.move rfl rfl ?_
  refine' TOps.orB 7 rfl rfl rfl rfl (fun hg3_2 => ?_) ?_; rotate_left
  · have hg3_2' := hg3_2
    try simp only [decide_eq_true_eq, decide_eq_false_iff_not, Bool.and_eq_true, Bool.or_eq_true, Bool.not_eq_true', Bool.and_eq_false_iff, Bool.or_eq_false_iff, Bool.not_eq_false', Int.not_lt, Int.not_le, ne_eq, Decidable.not_not] at hg3_2'
    refine TOps.strip 2 false rfl rfl hg3_2 rfl ?_
    refine TOps.move rfl rfl ?_
    refine TOps.move rfl rfl ?_
    refine TOps.nilCheck rfl rfl ?_
    refine TOps.field0 rfl Try.underlying70 rfl rfl ti24 rfl rfl rfl ?_
    refine TOps.field0 rfl Try.underlying24 rfl rfl ti3 rfl rfl rfl ?_
    refine TOps.load1 rfl ti3 (by first | exact Rd.lit (by repeat (first | exact List.Mem.head _ | apply List.Mem.tail)) rfl | (repeat (first | assumption | exact Rd.fld (by assumption) 0 rfl | apply Rd.up))) rfl ?_
    refine TOps.geq rfl rfl rfl ?_
    refine TOps.blk rfl (by repeat (first | exact Ext.refl _ | refine Ext.cons rfl ?_)) (by repeat (first | exact Le.refl _ | apply Le.drop))
  refine TOps.assign rfl rfl ?_
  refine TOps.next ?_
  refine Tri.cond rfl (fun hc2 => ?_) (fun hc2 => ?_)
  · try simp only [decide_eq_true_eq, decide_eq_false_iff_not, Bool.and_eq_true, Bool.or_eq_true, Bool.not_eq_true', Bool.and_eq_false_iff, Bool.or_eq_false_iff, Bool.not_eq_false', Int.not_lt, Int.not_le, ne_eq, Decidable.not_not, Option.isSome_iff_ne_none, Option.isNone_iff_eq_none] at hc2
    have hpe := Fm.playErr_1 (F := F) (S := Z) (i := i) (fl := fl) (by omega)
    refine Tri.seq (Tri.region ?_)
    refine TOps.makeInterface rfl Try.underlying47 rfl rfl ?_
    refine TOps.assign rfl rfl ?_
    refine TOps.assign rfl rfl ?_
    refine TOps.next ?_
    refine Tri.ret2 (H' := row (some m) 70 5 1 [.int .i64 F.vars, nv, .int .i64 F.top, .int .i64 Z.f, slV la 0 Z.log.length lcap] :: row la 42 3 lcap (logCells Z.log) :: H0) Try.results40 (fun _ _ h => h) (.tmp rfl) (.tmp rfl) (Le.refl _) ⟨la, lcap, by rw [Fm.play_err hpe]; exact hla, by unfold Fm.playTop; rw [hpe]; rfl, by rw [Fm.play_err hpe]⟩
  try simp only [decide_eq_true_eq, decide_eq_false_iff_not, Bool.and_eq_true, Bool.or_eq_true, Bool.not_eq_true', Bool.and_eq_false_iff, Bool.or_eq_false_iff, Bool.not_eq_false', Int.not_lt, Int.not_le, ne_eq, Decidable.not_not, Option.isSome_iff_ne_none, Option.isNone_iff_eq_none] at hc2
  obtain ⟨n, rfl⟩ := Int.eq_ofNat_of_zero_le (show 0 ≤ i by omega)
  have hnv : n < v := by omega
  have hin : ¬ ((n : Int) < 0 ∨ F.vars ≤ n) := by omega
  have hbit := bit_step Z.f n (by omega)
  have h2n : 2 ^ n < 2 ^ v := Nat.pow_lt_pow_right (by decide) hnv
  have hxl : Z.f ^^^ 2 ^ n < 2 ^ F.vars.toNat := by rw [hvn]; exact xor_bit_lt hff hnv
  refine Tri.seq (Tri.region ?_)
  refine TOps.move rfl rfl ?_
  refine TOps.nilCheck rfl rfl ?_
  first | refine TOps.fieldB 3 rfl Try.underlying70 rfl rfl ti3 rfl rfl rfl ?_ | refine TOps.fieldN 3 rfl Try.underlying70 rfl rfl ti3 rfl rfl rfl ?_
  refine TOps.load1 rfl ti3 (by first | exact Rd.lit (by repeat (first | exact List.Mem.head _ | apply List.Mem.tail)) rfl | (repeat (first | assumption | exact Rd.fld (by assumption) 3 rfl | apply Rd.up))) rfl ?_
  refine TOps.move rfl rfl ?_
  refine TOps.shr rfl rfl (by omega) rfl rfl ?_
  refine TOps.and (r := if Z.f.testBit n then 1 else 0) rfl rfl (by rw [Int.toNat_natCast]; exact hbit) rfl ?_
  refine TOps.eqlIr (r := Z.f.testBit n) rfl rfl (hsp _) rfl ?_
  refine TOps.move rfl rfl ?_
  refine TOps.eqlB rfl rfl Try.underlying4 rfl ?_
  refine TOps.assign rfl rfl ?_
  refine TOps.next ?_
  refine Tri.cond rfl (fun hc3 => ?_) (fun hc3 => ?_)
  · try simp only [decide_eq_true_eq, decide_eq_false_iff_not, Bool.and_eq_true, Bool.or_eq_true, Bool.not_eq_true', Bool.and_eq_false_iff, Bool.or_eq_false_iff, Bool.not_eq_false', Int.not_lt, Int.not_le, ne_eq, Decidable.not_not, Option.isSome_iff_ne_none, Option.isNone_iff_eq_none] at hc3
    have hpe := Fm.playErr_2 (F := F) (S := Z) (i := n) (fl := fl) hin (by simpa using hc3)
    refine Tri.seq (Tri.region ?_)
    refine TOps.makeInterface rfl Try.underlying47 rfl rfl ?_
    refine TOps.assign rfl rfl ?_
    refine TOps.assign rfl rfl ?_
    refine TOps.next ?_
    refine Tri.ret2 (H' := row (some m) 70 5 1 [.int .i64 F.vars, nv, .int .i64 F.top, .int .i64 Z.f, slV la 0 Z.log.length lcap] :: row la 42 3 lcap (logCells Z.log) :: H0) Try.results40 (fun _ _ h => h) (.tmp rfl) (.tmp rfl) (Le.refl _) ⟨la, lcap, by rw [Fm.play_err hpe]; exact hla, by unfold Fm.playTop; rw [hpe]; rfl, by rw [Fm.play_err hpe]⟩
  try simp only [decide_eq_true_eq, decide_eq_false_iff_not, Bool.and_eq_true, Bool.or_eq_true, Bool.not_eq_true', Bool.and_eq_false_iff, Bool.or_eq_false_iff, Bool.not_eq_false', Int.not_lt, Int.not_le, ne_eq, Decidable.not_not, Option.isSome_iff_ne_none, Option.isNone_iff_eq_none] at hc3
  have hnb : ¬ Z.f.testBit (n : Int).toNat = fl := by simpa using hc3
  refine Tri.seq (Tri.region ?_)
  refine TOps.move rfl rfl ?_
  refine TOps.nilCheck rfl rfl ?_
  first | refine TOps.fieldB 4 rfl Try.underlying70 rfl rfl ti39 rfl rfl rfl ?_ | refine TOps.fieldN 4 rfl Try.underlying70 rfl rfl ti39 rfl rfl rfl ?_
  refine TOps.load1 rfl ti39 (by first | exact Rd.lit (by repeat (first | exact List.Mem.head _ | apply List.Mem.tail)) rfl | (repeat (first | assumption | exact Rd.fld (by assumption) 4 rfl | apply Rd.up))) rfl ?_
  refine TOps.len rfl Try.underlying39 rfl ?_
  refine TOps.eqlI rfl rfl rfl ?_
  refine TOps.assign rfl rfl ?_
  refine TOps.next ?_
  refine Tri.cond rfl (fun hc4 => ?_) (fun hc4 => ?_)
  · try simp only [decide_eq_true_eq, decide_eq_false_iff_not, Bool.and_eq_true, Bool.or_eq_true, Bool.not_eq_true', Bool.and_eq_false_iff, Bool.or_eq_false_iff, Bool.not_eq_false', Int.not_lt, Int.not_le, ne_eq, Decidable.not_not, Option.isSome_iff_ne_none, Option.isNone_iff_eq_none] at hc4
    have hpe := Fm.playErr_3 (F := F) (S := Z) (i := n) (fl := fl) hin hnb (by omega)
    refine Tri.seq (Tri.region ?_)
    refine TOps.makeInterface rfl Try.underlying47 rfl rfl ?_
    refine TOps.assign rfl rfl ?_
    refine TOps.assign rfl rfl ?_
    refine TOps.next ?_
    refine Tri.ret2 (H' := row (some m) 70 5 1 [.int .i64 F.vars, nv, .int .i64 F.top, .int .i64 Z.f, slV la 0 Z.log.length lcap] :: row la 42 3 lcap (logCells Z.log) :: H0) Try.results40 (fun _ _ h => h) (.tmp rfl) (.tmp rfl) (Le.refl _) ⟨la, lcap, by rw [Fm.play_err hpe]; exact hla, by unfold Fm.playTop; rw [hpe]; rfl, by rw [Fm.play_err hpe]⟩
  try simp only [decide_eq_true_eq, decide_eq_false_iff_not, Bool.and_eq_true, Bool.or_eq_true, Bool.not_eq_true', Bool.and_eq_false_iff, Bool.or_eq_false_iff, Bool.not_eq_false', Int.not_lt, Int.not_le, ne_eq, Decidable.not_not, Option.isSome_iff_ne_none, Option.isNone_iff_eq_none] at hc4
  have hpe := Fm.playErr_4 (F := F) (S := Z) (i := n) (fl := fl) hin hnb (by omega)
  refine Tri.fin ?_
  refine Nrm.unB ?_
  refine Nrm.next ?_
  refine Tri.seq ?_
  refine Tri.drawX (X := Unit) rfl [(0, .pointer (some ⟨m, 0, none⟩)), (1, .int .i64 n), (2, .bool fl)] [] (fun x => [_, _, _, _, _, _, _, _, _, undef]) (fun x c => match c with | 0 => row (some m) 70 5 1 [.int .i64 F.vars, nv, .int .i64 F.top, .int .i64 Z.f, slV la 0 Z.log.length lcap] :: row la 42 3 lcap (logCells Z.log) :: H0 | _ + 1 => row (some m) 70 5 1 [.int .i64 F.vars, nv, .int .i64 F.top, .int .i64 ((Z.f ^^^ 2 ^ n : Nat) : Int), slV la 0 Z.log.length lcap] :: row la 42 3 lcap (logCells Z.log) :: H0) [9] () [] rfl rfl ⟨rfl, rfl, rfl, trivial⟩ trivial (by repeat (first | exact Le.refl _ | assumption | apply Le.drop)) (by
    refine ⟨?_, ?_, ?_, ?_, ?_, ?_, ?_, ?_, ?_, ?_, trivial⟩
    · refine ⟨fun x S c he hw hd hc hcu hm _ => ?_, trivial⟩
      refine TOps.move (he _ _ rfl) rfl ?_
      exact TOps.fin (Nrm.draw x (fun _ _ _ => rfl) rfl (by first | exact Le.refl _ | assumption | exact (by repeat (first | exact Le.refl _ | assumption | apply Le.drop))))
    · refine ⟨fun x S c he hw hd hc hcu hm _ => ?_, trivial⟩
      obtain ⟨h0, -⟩ := hd
      refine TOps.nilCheck h0 rfl ?_
      exact TOps.fin (Nrm.draw x (fun _ _ _ => rfl) rfl (by first | exact Le.refl _ | assumption | exact (by repeat (first | exact Le.refl _ | assumption | apply Le.drop))))
    · refine ⟨fun x S c he hw hd hc hcu hm _ => ?_, trivial⟩
      obtain ⟨h1, -⟩ := hd
      first | refine TOps.fieldB 3 h1 Try.underlying70 rfl rfl ti3 rfl rfl rfl ?_ | refine TOps.fieldN 3 h1 Try.underlying70 rfl rfl ti3 rfl rfl rfl ?_
      exact TOps.fin (Nrm.draw x (fun _ _ _ => rfl) rfl (by first | exact Le.refl _ | assumption | exact (by repeat (first | exact Le.refl _ | assumption | apply Le.drop))))
    · refine ⟨fun x S c he hw hd hc hcu hm _ => ?_, trivial⟩
      obtain ⟨h2, -⟩ := hd
      obtain rfl : c = 0 := by have : c ≤ 0 := hcu; omega
      refine TOps.load1 h2 ti3 (Rd.lit (by repeat (first | exact List.Mem.head _ | apply List.Mem.tail)) rfl) rfl ?_
      exact TOps.fin (Nrm.draw x (fun _ _ _ => rfl) rfl (by first | exact Le.refl _ | assumption | exact (by repeat (first | exact Le.refl _ | assumption | apply Le.drop))))
    · refine ⟨fun x S c he hw hd hc hcu hm _ => ?_, trivial⟩
      refine TOps.move (he _ _ rfl) rfl ?_
      exact TOps.fin (Nrm.draw x (fun _ _ _ => rfl) rfl (by first | exact Le.refl _ | assumption | exact (by repeat (first | exact Le.refl _ | assumption | apply Le.drop))))
    · refine ⟨fun x S c he hw hd hc hcu hm _ => ?_, trivial⟩
      obtain ⟨h4, -⟩ := hd
      refine TOps.shl (r := ((2 ^ n : Nat) : Int)) rfl h4 (by omega) (by rw [Int.toNat_natCast]; exact ishl_one (by omega)) rfl ?_
      exact TOps.fin (Nrm.draw x (fun _ _ _ => rfl) rfl (by first | exact Le.refl _ | assumption | exact (by repeat (first | exact Le.refl _ | assumption | apply Le.drop))))
    · refine ⟨fun x S c he hw hd hc hcu hm _ => ?_, trivial⟩
      obtain ⟨h3, h5, -⟩ := hd
      refine TOps.xor (r := ((Z.f ^^^ 2 ^ n : Nat) : Int)) h3 h5 (ixor_nat (by omega) (by omega)) rfl ?_
      exact TOps.fin (Nrm.draw x (fun _ _ _ => rfl) rfl (by first | exact Le.refl _ | assumption | exact (by repeat (first | exact Le.refl _ | assumption | apply Le.drop))))
    · refine ⟨fun x S c he hw hd hc hcu hm _ => ?_, trivial⟩
      obtain ⟨h0, _, h1, h2, h3, h4, h5, h6, -⟩ := hd
      refine TOps.nilCheck h0 rfl ?_
      exact TOps.fin (Nrm.draw x (fun _ _ _ => rfl) rfl (by first | exact Le.refl _ | assumption | exact (by repeat (first | exact Le.refl _ | assumption | apply Le.drop))))
    · refine ⟨fun x S c he hw hd hc hcu hm _ => ?_, trivial⟩
      obtain ⟨h7, h0, h1, h2, h3, h4, h5, h6, -⟩ := hd
      first | refine TOps.fieldB 3 h7 Try.underlying70 rfl rfl ti3 rfl rfl rfl ?_ | refine TOps.fieldN 3 h7 Try.underlying70 rfl rfl ti3 rfl rfl rfl ?_
      exact TOps.fin (Nrm.draw x (fun _ _ _ => rfl) rfl (by first | exact Le.refl _ | assumption | exact (by repeat (first | exact Le.refl _ | assumption | apply Le.drop))))
    · refine ⟨fun x S c he hw hd hc hcu hm _ => ?_, trivial⟩
      obtain ⟨h8, h6, h0, h1, h2, h3, h4, h5, _, -⟩ := hd
      obtain rfl : c = 0 := hm rfl
      refine TOps.store1 h8 h6 ti3 rfl rfl Upd.here (by simp) ?_
      exact TOps.fin (Nrm.draw x (fun _ _ _ => rfl) rfl (by first | exact Le.refl _ | assumption | exact (by repeat (first | exact Le.refl _ | assumption | apply Le.drop))))
    ) (fun x => ?_)
  refine Nrm.next ?_
  refine Tri.seq (Tri.region ?_)
  refine TOps.move rfl rfl ?_
  refine TOps.call (vs := [_]) Try.call15 ⟨rfl, trivial⟩ (mtop_g (F := F) (nv := nv) (f := Z.f ^^^ 2 ^ n) (Rd.all (List.Mem.head _)) (hF1 _ _) hg hxl) rfl ?_
  rintro _ _ ⟨rfl, rfl⟩
  refine TOps.assign rfl rfl ?_
  refine TOps.next ?_
  refine Tri.seq (Tri.region ?_)
  refine TOps.move rfl rfl ?_
  refine TOps.move rfl rfl ?_
  refine TOps.nilCheck rfl rfl ?_
  first | refine TOps.fieldB 4 rfl Try.underlying70 rfl rfl ti39 rfl rfl rfl ?_ | refine TOps.fieldN 4 rfl Try.underlying70 rfl rfl ti39 rfl rfl rfl ?_
  refine TOps.load1 rfl ti39 (by first | exact Rd.lit (by repeat (first | exact List.Mem.head _ | apply List.Mem.tail)) rfl | (repeat (first | assumption | exact Rd.fld (by assumption) 4 rfl | apply Rd.up))) rfl ?_
  refine TOps.move rfl rfl ?_
  refine TOps.move rfl rfl ?_
  refine TOps.move rfl rfl ?_
  refine TOps.buildStruct (vs := [(0, _), (1, _), (2, _)]) (xs := [_, _, _]) [(0, 1), (1, 1), (2, 1)] Try.underlying42 ti42 (fun w => by simp) ⟨rfl, rfl, rfl, rfl, rfl, rfl, trivial⟩ rfl rfl ?_
  refine TOps.buildSlice (vs := [_]) (xs := [_, _, _]) Try.underlying39 ti42 ⟨rfl, rfl, trivial⟩ rfl rfl rfl rfl rfl rfl (by decide) rfl (fun b66 => ?_)
  refine TOps.appendLit rfl rfl Try.underlying39 ti42 rfl (fun _ _ => (by repeat (first | exact Upd.here | apply Upd.there))) rfl hlc rfl (by omega) (by omega) (by simp) rfl (fun b67 cap67 => ?_)
  refine TOps.nilCheck rfl rfl ?_
  first | refine TOps.fieldB 4 rfl Try.underlying70 rfl rfl ti39 rfl rfl rfl ?_ | refine TOps.fieldN 4 rfl Try.underlying70 rfl rfl ti39 rfl rfl rfl ?_
  refine TOps.store1 rfl rfl ti39 rfl rfl (by repeat (first | exact Upd.here | apply Upd.there)) (by first | decide | (simp; done) | (simp; omega) | exact (show (4 : Nat) < 5 by decide)) ?_
  refine TOps.next ?_
  refine Tri.seq (Tri.region ?_)
  refine TOps.move rfl rfl ?_
  refine TOps.assign rfl rfl ?_
  refine TOps.assign rfl rfl ?_
  refine TOps.next ?_
  refine Tri.ret2 (H' := row (some m) 70 5 1 [.int .i64 F.vars, nv, .int .i64 F.top, .int .i64 (Z.push (Z.f ^^^ 2 ^ n) ⟨n, fl, F.value ((Z.f ^^^ 2 ^ n : Nat) : Int)⟩).f, slV (some b67) 0 (Z.push (Z.f ^^^ 2 ^ n) ⟨n, fl, F.value ((Z.f ^^^ 2 ^ n : Nat) : Int)⟩).log.length cap67] :: row (some b67) 42 3 cap67 (logCells (Z.push (Z.f ^^^ 2 ^ n) ⟨n, fl, F.value ((Z.f ^^^ 2 ^ n : Nat) : Int)⟩).log) :: H0) Try.results40 (fun _ _ h => h) (.tmp rfl) (.tmp rfl) (Sp.le (by repeat (first | exact Sp.refl _ | exact Sp.sub (by assumption) | refine Sp.cons (by repeat (first | exact Pick.here | exact Pick.row (by first | (simp; done) | (rw [logCells_append]; rfl)) | apply Pick.there)) ?_ | exact Sp.nil | apply Sp.skip))) ⟨some b67, cap67, fun _ => ⟨_, rfl⟩, by unfold Fm.playTop; rw [hpe]; rfl, by rw [Fm.play_ok hpe]; rfl⟩
theorem mplayNil_g {H : List Ent} (i : Int) (fl : Bool) : Gives Try.prog 40 [.pointer none, .int .i64 i, .bool fl] H (R1 (.tuple (List.toArray [.bool false, errV 47 (some 1)])) H) := by
  refine Gives.enter Try.func40 rfl (by exact Try.ntmps40) rfl ?_
  refine Tri.seq (Tri.region ?_)
  refine TOps.assign rfl rfl ?_
  refine TOps.assign rfl rfl ?_
  refine TOps.next ?_
  refine Tri.seq ?_
  refine Tri.block ?_
  refine Tri.seq (Tri.region ?_)
  refine TOps.move rfl rfl ?_
  refine TOps.eqlPtrNil rfl Try.underlying31 rfl ?_
  refine TOps.assign rfl rfl ?_
  refine TOps.next ?_
  refine Tri.cond rfl (fun hc1 => ?_) (fun hc1 => ?_)
  · try simp only [decide_eq_true_eq, decide_eq_false_iff_not, Bool.and_eq_true, Bool.or_eq_true, Bool.not_eq_true', Bool.and_eq_false_iff, Bool.or_eq_false_iff, Bool.not_eq_false', Int.not_lt, Int.not_le, ne_eq, Decidable.not_not, Option.isSome_iff_ne_none, Option.isNone_iff_eq_none] at hc1
    refine Tri.seq (Tri.region ?_)
    refine TOps.makeInterface rfl Try.underlying47 rfl rfl ?_
    refine TOps.assign rfl rfl ?_
    refine TOps.assign rfl rfl ?_
    refine TOps.next ?_
    refine Tri.ret2 (H' := H) Try.results40 (fun _ _ h => h) (.tmp rfl) (.tmp rfl) (Le.refl _) ⟨rfl, rfl⟩
  · exact absurd hc1 (by first | decide | simp)
theorem mfail_g {H0 : List Ent} {m : Nat} {F : Fm} {nv : Value} {Z : Mo} {la : Option Nat} {lcap : Nat} (hF : RF H0 (.agg (List.toArray [.int .i64 F.vars, nv, .int .i64 F.top])) F) (hg : F.Good) (hS : MoOk F Z) (hla : Z.log ≠ [] → ∃ b, la = some b) (i : Int) :
    Gives Try.prog 19 [.pointer (some ⟨m, 0, none⟩), .int .i64 i] (row (some m) 70 5 1 [.int .i64 F.vars, nv, .int .i64 F.top, .int .i64 Z.f, slV la 0 Z.log.length lcap] :: row la 42 3 lcap (logCells Z.log) :: H0) (fun u H' => ∃ la' lcap', ((F.play Z i true).log ≠ [] → ∃ b, la' = some b) ∧ u = .tuple (List.toArray [.bool (F.playTop Z i true), errV 47 (F.playErr Z i true)]) ∧ row (some m) 70 5 1 [.int .i64 F.vars, nv, .int .i64 F.top, .int .i64 (F.play Z i true).f, slV la' 0 (F.play Z i true).log.length lcap'] :: row la' 42 3 lcap' (logCells (F.play Z i true).log) :: H0 = H') := by
  refine Gives.enter Try.func19 rfl (by exact Try.ntmps19) rfl ?_
  refine Tri.seq (Tri.region ?_)
  refine TOps.assign rfl rfl ?_
  refine TOps.assign rfl rfl ?_
  refine TOps.next ?_
  refine Tri.seq (Tri.region ?_)
  refine TOps.move rfl rfl ?_
  refine TOps.move rfl rfl ?_
  refine TOps.call (vs := [_, _, _]) Try.call40 ⟨rfl, rfl, rfl, trivial⟩ (mplay_g hF hg hS hla i true) rfl ?_
  rintro _ _ ⟨la', lcap', hla', rfl, rfl⟩
  refine TOps.extract rfl rfl rfl ?_
  refine TOps.extract rfl rfl rfl ?_
  refine TOps.assign rfl rfl ?_
  refine TOps.assign rfl rfl ?_
  refine TOps.next ?_
  refine Tri.ret2 (H' := _) Try.results19 (fun _ _ h => h) (.tmp rfl) (.tmp rfl) (Le.refl _) ⟨la', lcap', hla', rfl, rfl⟩
theorem mfailNil_g {H : List Ent} (i : Int) : Gives Try.prog 19 [.pointer none, .int .i64 i] H (R1 (.tuple (List.toArray [.bool false, errV 47 (some 1)])) H) := by
  refine Gives.enter Try.func19 rfl (by exact Try.ntmps19) rfl ?_
  refine Tri.seq (Tri.region ?_)
  refine TOps.assign rfl rfl ?_
  refine TOps.assign rfl rfl ?_
  refine TOps.next ?_
  refine Tri.seq (Tri.region ?_)
  refine TOps.move rfl rfl ?_
  refine TOps.move rfl rfl ?_
  refine TOps.call (vs := [_, _, _]) Try.call40 ⟨rfl, rfl, rfl, trivial⟩ (mplayNil_g i true) rfl ?_
  rintro _ _ ⟨rfl, rfl⟩
  refine TOps.extract rfl rfl rfl ?_
  refine TOps.extract rfl rfl rfl ?_
  refine TOps.assign rfl rfl ?_
  refine TOps.assign rfl rfl ?_
  refine TOps.next ?_
  refine Tri.ret2 (H' := H) Try.results19 (fun _ _ h => h) (.tmp rfl) (.tmp rfl) (Le.refl _) ⟨rfl, rfl⟩
theorem mrepair_g {H0 : List Ent} {m : Nat} {F : Fm} {nv : Value} {Z : Mo} {la : Option Nat} {lcap : Nat} (hF : RF H0 (.agg (List.toArray [.int .i64 F.vars, nv, .int .i64 F.top])) F) (hg : F.Good) (hS : MoOk F Z) (hla : Z.log ≠ [] → ∃ b, la = some b) (i : Int) :
    Gives Try.prog 20 [.pointer (some ⟨m, 0, none⟩), .int .i64 i] (row (some m) 70 5 1 [.int .i64 F.vars, nv, .int .i64 F.top, .int .i64 Z.f, slV la 0 Z.log.length lcap] :: row la 42 3 lcap (logCells Z.log) :: H0) (fun u H' => ∃ la' lcap', ((F.play Z i false).log ≠ [] → ∃ b, la' = some b) ∧ u = .tuple (List.toArray [.bool (F.playTop Z i false), errV 47 (F.playErr Z i false)]) ∧ row (some m) 70 5 1 [.int .i64 F.vars, nv, .int .i64 F.top, .int .i64 (F.play Z i false).f, slV la' 0 (F.play Z i false).log.length lcap'] :: row la' 42 3 lcap' (logCells (F.play Z i false).log) :: H0 = H') := by
  refine Gives.enter Try.func20 rfl (by exact Try.ntmps20) rfl ?_
  refine Tri.seq (Tri.region ?_)
  refine TOps.assign rfl rfl ?_
  refine TOps.assign rfl rfl ?_
  refine TOps.next ?_
  refine Tri.seq (Tri.region ?_)
  refine TOps.move rfl rfl ?_
  refine TOps.move rfl rfl ?_
  refine TOps.call (vs := [_, _, _]) Try.call40 ⟨rfl, rfl, rfl, trivial⟩ (mplay_g hF hg hS hla i false) rfl ?_
  rintro _ _ ⟨la', lcap', hla', rfl, rfl⟩
  refine TOps.extract rfl rfl rfl ?_
  refine TOps.extract rfl rfl rfl ?_
  refine TOps.assign rfl rfl ?_
  refine TOps.assign rfl rfl ?_
  refine TOps.next ?_
  refine Tri.ret2 (H' := _) Try.results20 (fun _ _ h => h) (.tmp rfl) (.tmp rfl) (Le.refl _) ⟨la', lcap', hla', rfl, rfl⟩
theorem mrepairNil_g {H : List Ent} (i : Int) : Gives Try.prog 20 [.pointer none, .int .i64 i] H (R1 (.tuple (List.toArray [.bool false, errV 47 (some 1)])) H) := by
  refine Gives.enter Try.func20 rfl (by exact Try.ntmps20) rfl ?_
  refine Tri.seq (Tri.region ?_)
  refine TOps.assign rfl rfl ?_
  refine TOps.assign rfl rfl ?_
  refine TOps.next ?_
  refine Tri.seq (Tri.region ?_)
  refine TOps.move rfl rfl ?_
  refine TOps.move rfl rfl ?_
  refine TOps.call (vs := [_, _, _]) Try.call40 ⟨rfl, rfl, rfl, trivial⟩ (mplayNil_g i false) rfl ?_
  rintro _ _ ⟨rfl, rfl⟩
  refine TOps.extract rfl rfl rfl ?_
  refine TOps.extract rfl rfl rfl ?_
  refine TOps.assign rfl rfl ?_
  refine TOps.assign rfl rfl ?_
  refine TOps.next ?_
  refine Tri.ret2 (H' := H) Try.results20 (fun _ _ h => h) (.tmp rfl) (.tmp rfl) (Le.refl _) ⟨rfl, rfl⟩
theorem mundo_g {H0 : List Ent} {m : Nat} {F : Fm} {nv : Value} {Z : Mo} {la : Option Nat} {lcap : Nat} (hg : F.Good) (hS : MoOk F Z) (hla : Z.log ≠ [] → ∃ b, la = some b) :
    Gives Try.prog 22 [.pointer (some ⟨m, 0, none⟩)] (row (some m) 70 5 1 [.int .i64 F.vars, nv, .int .i64 F.top, .int .i64 Z.f, slV la 0 Z.log.length lcap] :: row la 42 3 lcap (logCells Z.log) :: H0) (fun u H' => (Z.undo.log ≠ [] → ∃ b, la = some b) ∧ u = errV 47 Z.undoErr ∧ row (some m) 70 5 1 [.int .i64 F.vars, nv, .int .i64 F.top, .int .i64 Z.undo.f, slV la 0 Z.undo.log.length lcap] :: row la 42 3 lcap (logCells Z.undo.log) :: H0 = H') := by
  have g0 := hg.v0; have g1 := hg.v1
  obtain ⟨v, hv⟩ := Int.eq_ofNat_of_zero_le g0
  have hvn : F.vars.toNat = v := by omega
  have h24 := pow24 (show v ≤ 24 by omega)
  have hff := hS.lt
  have hl4 := hS.len
  have hev := hS.ev
  rw [hvn] at hff
  obtain ⟨f, log⟩ := Z
  dsimp only at hla hff hl4 hev ⊢
  refine Gives.enter Try.func22 rfl (by exact Try.ntmps22) rfl ?_
  refine Tri.seq (Tri.region ?_)
  refine TOps.assign rfl rfl ?_
  refine TOps.next ?_
  refine Tri.seq ?_
  refine Tri.seq (Tri.region ?_)
  refine TOps.move rfl rfl ?_
  refine TOps.eqlPtrNil rfl Try.underlying31 rfl ?_
  refine TOps.next ?_
  refine Tri.cond rfl (fun hc1 => ?_) (fun hc1 => ?_)
  · exact absurd hc1 (by first | decide | simp)
  try simp only [decide_eq_true_eq, decide_eq_false_iff_not, Bool.and_eq_true, Bool.or_eq_true, Bool.not_eq_true', Bool.and_eq_false_iff, Bool.or_eq_false_iff, Bool.not_eq_false', Int.not_lt, Int.not_le, ne_eq, Decidable.not_not, Option.isSome_iff_ne_none, Option.isNone_iff_eq_none] at hc1
  refine Tri.fin ?_
  refine Nrm.next ?_
  refine Tri.seq ?_
  refine Tri.seq (Tri.region ?_)
  refine TOps.move rfl rfl ?_
  refine TOps.nilCheck rfl rfl ?_
  first | refine TOps.fieldB 4 rfl Try.underlying70 rfl rfl ti39 rfl rfl rfl ?_ | refine TOps.fieldN 4 rfl Try.underlying70 rfl rfl ti39 rfl rfl rfl ?_
  refine TOps.load1 rfl ti39 (by first | exact Rd.lit (by repeat (first | exact List.Mem.head _ | apply List.Mem.tail)) rfl | (repeat (first | assumption | exact Rd.fld (by assumption) 4 rfl | apply Rd.up))) rfl ?_
  refine TOps.len rfl Try.underlying39 rfl ?_
  refine TOps.eqlI rfl rfl rfl ?_
  refine TOps.next ?_
  refine Tri.cond rfl (fun hc2 => ?_) (fun hc2 => ?_)
  · try simp only [decide_eq_true_eq, decide_eq_false_iff_not, Bool.and_eq_true, Bool.or_eq_true, Bool.not_eq_true', Bool.and_eq_false_iff, Bool.or_eq_false_iff, Bool.not_eq_false', Int.not_lt, Int.not_le, ne_eq, Decidable.not_not, Option.isSome_iff_ne_none, Option.isNone_iff_eq_none] at hc2
    obtain rfl : log = [] := List.eq_nil_of_length_eq_zero (by omega)
    refine Tri.seq (Tri.region ?_)
    refine TOps.makeInterface rfl Try.underlying47 rfl rfl ?_
    refine TOps.assign rfl rfl ?_
    refine TOps.next ?_
    refine Tri.ret1 (H' := row (some m) 70 5 1 [.int .i64 F.vars, nv, .int .i64 F.top, .int .i64 f, slV la 0 0 lcap] :: row la 42 3 lcap [] :: H0) Try.results22 (fun _ _ h => h) (.tmp rfl) (Le.refl _) ⟨fun h => absurd rfl h, rfl, rfl⟩
  try simp only [decide_eq_true_eq, decide_eq_false_iff_not, Bool.and_eq_true, Bool.or_eq_true, Bool.not_eq_true', Bool.and_eq_false_iff, Bool.or_eq_false_iff, Bool.not_eq_false', Int.not_lt, Int.not_le, ne_eq, Decidable.not_not, Option.isSome_iff_ne_none, Option.isNone_iff_eq_none] at hc2
  obtain ⟨l, p, rfl⟩ : ∃ l p, log = l ++ [p] := by
    rcases List.eq_nil_or_concat log with rfl | ⟨l, p, rfl⟩
    · simp at hc2
    · exact ⟨l, p, by simp⟩
  obtain ⟨lb, rfl⟩ := hla (by simp)
  have hpe := hev p (by simp)
  obtain ⟨n, hn⟩ := Int.eq_ofNat_of_zero_le hpe.1
  have h2n : 2 ^ n < 2 ^ v := Nat.pow_lt_pow_right (by decide) (by omega)
  have hll : (l ++ [p]).length = l.length + 1 := by simp
  have hEv := logCells_last l p 0 (.int .i64 p.ev) rfl
  rw [Nat.add_zero] at hEv
  rw [hll] at hl4 ⊢
  rw [hn] at hEv
  refine Tri.fin ?_
  refine Nrm.next ?_
  refine Tri.seq (Tri.region ?_)
  refine TOps.move rfl rfl ?_
  refine TOps.nilCheck rfl rfl ?_
  first | refine TOps.fieldB 4 rfl Try.underlying70 rfl rfl ti39 rfl rfl rfl ?_ | refine TOps.fieldN 4 rfl Try.underlying70 rfl rfl ti39 rfl rfl rfl ?_
  refine TOps.load1 rfl ti39 (by first | exact Rd.lit (by repeat (first | exact List.Mem.head _ | apply List.Mem.tail)) rfl | (repeat (first | assumption | exact Rd.fld (by assumption) 4 rfl | apply Rd.up))) rfl ?_
  refine TOps.len rfl Try.underlying39 rfl ?_
  refine TOps.sub (r := ((l.length : Nat) : Int)) rfl rfl (by rw [wrapI (by omega) (by omega)]; omega) rfl ?_
  refine TOps.assign rfl rfl ?_
  refine TOps.next ?_
  refine Tri.seq ?_
  refine Tri.drawX (X := Unit) rfl [(0, .pointer (some ⟨m, 0, none⟩)), (3, .int .i64 (l.length : Nat))] [] (fun x => [_, _, _, _, _, _, _, _, _, _, _, _, _, _, _, _, undef]) (fun x c => match c with | 0 => row (some m) 70 5 1 [.int .i64 F.vars, nv, .int .i64 F.top, .int .i64 f, slV (some lb) 0 (l.length + 1) lcap] :: row (some lb) 42 3 lcap (logCells (l ++ [p])) :: H0 | _ + 1 => row (some m) 70 5 1 [.int .i64 F.vars, nv, .int .i64 F.top, .int .i64 ((f ^^^ 2 ^ n : Nat) : Int), slV (some lb) 0 (l.length + 1) lcap] :: row (some lb) 42 3 lcap (logCells (l ++ [p])) :: H0) [16] () [] rfl rfl ⟨rfl, rfl, trivial⟩ trivial (by repeat (first | exact Le.refl _ | assumption | apply Le.drop)) (by
    refine ⟨?_, ?_, ?_, ?_, ?_, ?_, ?_, ?_, ?_, ?_, ?_, ?_, ?_, ?_, ?_, ?_, ?_, trivial⟩
    · refine ⟨fun x S c he hw hd hc hcu hm _ => ?_, trivial⟩
      refine TOps.move (he _ _ rfl) rfl ?_
      exact TOps.fin (Nrm.draw x (fun _ _ _ => rfl) rfl (by first | exact Le.refl _ | assumption | exact (by repeat (first | exact Le.refl _ | assumption | apply Le.drop))))
    · refine ⟨fun x S c he hw hd hc hcu hm _ => ?_, trivial⟩
      obtain ⟨h0, -⟩ := hd
      refine TOps.nilCheck h0 rfl ?_
      exact TOps.fin (Nrm.draw x (fun _ _ _ => rfl) rfl (by first | exact Le.refl _ | assumption | exact (by repeat (first | exact Le.refl _ | assumption | apply Le.drop))))
    · refine ⟨fun x S c he hw hd hc hcu hm _ => ?_, trivial⟩
      obtain ⟨h1, -⟩ := hd
      first | refine TOps.fieldB 3 h1 Try.underlying70 rfl rfl ti3 rfl rfl rfl ?_ | refine TOps.fieldN 3 h1 Try.underlying70 rfl rfl ti3 rfl rfl rfl ?_
      exact TOps.fin (Nrm.draw x (fun _ _ _ => rfl) rfl (by first | exact Le.refl _ | assumption | exact (by repeat (first | exact Le.refl _ | assumption | apply Le.drop))))
    · refine ⟨fun x S c he hw hd hc hcu hm _ => ?_, trivial⟩
      obtain ⟨h2, -⟩ := hd
      obtain rfl : c = 0 := by have : c ≤ 0 := hcu; omega
      refine TOps.load1 h2 ti3 (Rd.lit (by repeat (first | exact List.Mem.head _ | apply List.Mem.tail)) rfl) rfl ?_
      exact TOps.fin (Nrm.draw x (fun _ _ _ => rfl) rfl (by first | exact Le.refl _ | assumption | exact (by repeat (first | exact Le.refl _ | assumption | apply Le.drop))))
    · refine ⟨fun x S c he hw hd hc hcu hm _ => ?_, trivial⟩
      refine TOps.move (he _ _ rfl) rfl ?_
      exact TOps.fin (Nrm.draw x (fun _ _ _ => rfl) rfl (by first | exact Le.refl _ | assumption | exact (by repeat (first | exact Le.refl _ | assumption | apply Le.drop))))
    · refine ⟨fun x S c he hw hd hc hcu hm _ => ?_, trivial⟩
      obtain ⟨h4, -⟩ := hd
      refine TOps.nilCheck h4 rfl ?_
      exact TOps.fin (Nrm.draw x (fun _ _ _ => rfl) rfl (by first | exact Le.refl _ | assumption | exact (by repeat (first | exact Le.refl _ | assumption | apply Le.drop))))
    · refine ⟨fun x S c he hw hd hc hcu hm _ => ?_, trivial⟩
      obtain ⟨h5, -⟩ := hd
      first | refine TOps.fieldB 4 h5 Try.underlying70 rfl rfl ti39 rfl rfl rfl ?_ | refine TOps.fieldN 4 h5 Try.underlying70 rfl rfl ti39 rfl rfl rfl ?_
      exact TOps.fin (Nrm.draw x (fun _ _ _ => rfl) rfl (by first | exact Le.refl _ | assumption | exact (by repeat (first | exact Le.refl _ | assumption | apply Le.drop))))
    · refine ⟨fun x S c he hw hd hc hcu hm _ => ?_, trivial⟩
      obtain ⟨h6, -⟩ := hd
      obtain rfl : c = 0 := by have : c ≤ 0 := hcu; omega
      refine TOps.load1 h6 ti39 (Rd.lit (by repeat (first | exact List.Mem.head _ | apply List.Mem.tail)) rfl) rfl ?_
      exact TOps.fin (Nrm.draw x (fun _ _ _ => rfl) rfl (by first | exact Le.refl _ | assumption | exact (by repeat (first | exact Le.refl _ | assumption | apply Le.drop))))
    · refine ⟨fun x S c he hw hd hc hcu hm _ => ?_, trivial⟩
      refine TOps.move (he _ _ rfl) rfl ?_
      exact TOps.fin (Nrm.draw x (fun _ _ _ => rfl) rfl (by first | exact Le.refl _ | assumption | exact (by repeat (first | exact Le.refl _ | assumption | apply Le.drop))))
    · refine ⟨fun x S c he hw hd hc hcu hm _ => ?_, trivial⟩
      obtain ⟨h7, h8, -⟩ := hd
      refine TOps.indexAddr (off' := l.length * 3) h7 h8 Try.underlying39 ti42 (by omega) (by omega) (by omega) rfl ?_
      exact TOps.fin (Nrm.draw x (fun _ _ _ => rfl) rfl (by first | exact Le.refl _ | assumption | exact (by repeat (first | exact Le.refl _ | assumption | apply Le.drop))))
    · refine ⟨fun x S c he hw hd hc hcu hm _ => ?_, trivial⟩
      obtain ⟨h9, -⟩ := hd
      refine TOps.field0 h9 Try.underlying42 rfl rfl ti3 rfl rfl rfl ?_
      exact TOps.fin (Nrm.draw x (fun _ _ _ => rfl) rfl (by first | exact Le.refl _ | assumption | exact (by repeat (first | exact Le.refl _ | assumption | apply Le.drop))))
    · refine ⟨fun x S c he hw hd hc hcu hm _ => ?_, trivial⟩
      obtain ⟨h10, -⟩ := hd
      obtain rfl : c = 0 := by have : c ≤ 0 := hcu; omega
      refine TOps.load1 (v := .int .i64 n) h10 ti3 (Rd.lit (by repeat (first | exact List.Mem.head _ | apply List.Mem.tail)) hEv) rfl ?_
      exact TOps.fin (Nrm.draw x (fun _ _ _ => rfl) rfl (by first | exact Le.refl _ | assumption | exact (by repeat (first | exact Le.refl _ | assumption | apply Le.drop))))
    · refine ⟨fun x S c he hw hd hc hcu hm _ => ?_, trivial⟩
      obtain ⟨h11, -⟩ := hd
      refine TOps.shl (r := ((2 ^ n : Nat) : Int)) rfl h11 (by omega) (by rw [Int.toNat_natCast]; exact ishl_one (by omega)) rfl ?_
      exact TOps.fin (Nrm.draw x (fun _ _ _ => rfl) rfl (by first | exact Le.refl _ | assumption | exact (by repeat (first | exact Le.refl _ | assumption | apply Le.drop))))
    · refine ⟨fun x S c he hw hd hc hcu hm _ => ?_, trivial⟩
      obtain ⟨h3, h12, -⟩ := hd
      refine TOps.xor (r := ((f ^^^ 2 ^ n : Nat) : Int)) h3 h12 (ixor_nat (by omega) (by omega)) rfl ?_
      exact TOps.fin (Nrm.draw x (fun _ _ _ => rfl) rfl (by first | exact Le.refl _ | assumption | exact (by repeat (first | exact Le.refl _ | assumption | apply Le.drop))))
    · refine ⟨fun x S c he hw hd hc hcu hm _ => ?_, trivial⟩
      obtain ⟨h0, _, h1, h2, h3, h4, h5, h6, h7, h8, h9, h10, h11, h12, h13, -⟩ := hd
      refine TOps.nilCheck h0 rfl ?_
      exact TOps.fin (Nrm.draw x (fun _ _ _ => rfl) rfl (by first | exact Le.refl _ | assumption | exact (by repeat (first | exact Le.refl _ | assumption | apply Le.drop))))
    · refine ⟨fun x S c he hw hd hc hcu hm _ => ?_, trivial⟩
      obtain ⟨h14, h0, h1, h2, h3, h4, h5, h6, h7, h8, h9, h10, h11, h12, h13, -⟩ := hd
      first | refine TOps.fieldB 3 h14 Try.underlying70 rfl rfl ti3 rfl rfl rfl ?_ | refine TOps.fieldN 3 h14 Try.underlying70 rfl rfl ti3 rfl rfl rfl ?_
      exact TOps.fin (Nrm.draw x (fun _ _ _ => rfl) rfl (by first | exact Le.refl _ | assumption | exact (by repeat (first | exact Le.refl _ | assumption | apply Le.drop))))
    · refine ⟨fun x S c he hw hd hc hcu hm _ => ?_, trivial⟩
      obtain ⟨h15, h13, h0, h1, h2, h3, h4, h5, h6, h7, h8, h9, h10, h11, h12, _, -⟩ := hd
      obtain rfl : c = 0 := hm rfl
      refine TOps.store1 h15 h13 ti3 rfl rfl Upd.here (by simp) ?_
      exact TOps.fin (Nrm.draw x (fun _ _ _ => rfl) rfl (by first | exact Le.refl _ | assumption | exact (by repeat (first | exact Le.refl _ | assumption | apply Le.drop))))
    ) (fun x => ?_)
  refine Nrm.next ?_
  refine Tri.seq (Tri.region ?_)
  refine TOps.move rfl rfl ?_
  refine TOps.move rfl rfl ?_
  refine TOps.nilCheck rfl rfl ?_
  first | refine TOps.fieldB 4 rfl Try.underlying70 rfl rfl ti39 rfl rfl rfl ?_ | refine TOps.fieldN 4 rfl Try.underlying70 rfl rfl ti39 rfl rfl rfl ?_
  refine TOps.load1 rfl ti39 (by first | exact Rd.lit (by repeat (first | exact List.Mem.head _ | apply List.Mem.tail)) rfl | (repeat (first | assumption | exact Rd.fld (by assumption) 4 rfl | apply Rd.up))) rfl ?_
  refine TOps.move rfl rfl ?_
  refine TOps.rowCap (b := lb) (E := 42) (sz := 3) (cap := lcap) (xs := logCells (l ++ [p])) (by repeat (first | exact List.Mem.head _ | apply List.Mem.tail)) (fun hcap => ?_)
  rw [logCells_length, hll] at hcap
  refine TOps.sliceHi rfl rfl Try.underlying39 ti42 (by omega) rfl ?_
  refine TOps.nilCheck rfl rfl ?_
  first | refine TOps.fieldB 4 rfl Try.underlying70 rfl rfl ti39 rfl rfl rfl ?_ | refine TOps.fieldN 4 rfl Try.underlying70 rfl rfl ti39 rfl rfl rfl ?_
  refine TOps.store1 rfl rfl ti39 rfl rfl (by repeat (first | exact Upd.here | apply Upd.there)) (by first | decide | (simp; done) | (simp; omega) | exact (show (4 : Nat) < 5 by decide)) ?_
  refine TOps.next ?_
  refine Tri.seq (Tri.region ?_)
  refine TOps.assign rfl rfl ?_
  refine TOps.next ?_
  refine Tri.ret1 (H' := row (some m) 70 5 1 [.int .i64 F.vars, nv, .int .i64 F.top, .int .i64 ((f ^^^ 2 ^ n : Nat) : Int), slV (some lb) 0 l.length lcap] :: row (some lb) 42 3 lcap (logCells l) :: H0) Try.results22 (fun _ _ h => h) (.tmp rfl) (by rw [logCells_append]; exact Le.rowCut2) ⟨fun _ => ⟨_, rfl⟩, by unfold Mo.undoErr; rw [if_neg (by simp)]; rfl, by rw [Mo.undo_snoc, hn]; rfl⟩
theorem mundoNil_g {H : List Ent} : Gives Try.prog 22 [.pointer none] H (R1 (errV 47 (some 1)) H) := by
  refine Gives.enter Try.func22 rfl (by exact Try.ntmps22) rfl ?_
  refine Tri.seq (Tri.region ?_)
  refine TOps.assign rfl rfl ?_
  refine TOps.next ?_
  refine Tri.seq ?_
  refine Tri.seq (Tri.region ?_)
  refine TOps.move rfl rfl ?_
  refine TOps.eqlPtrNil rfl Try.underlying31 rfl ?_
  refine TOps.next ?_
  refine Tri.cond rfl (fun hc1 => ?_) (fun hc1 => ?_)
  · try simp only [decide_eq_true_eq, decide_eq_false_iff_not, Bool.and_eq_true, Bool.or_eq_true, Bool.not_eq_true', Bool.and_eq_false_iff, Bool.or_eq_false_iff, Bool.not_eq_false', Int.not_lt, Int.not_le, ne_eq, Decidable.not_not, Option.isSome_iff_ne_none, Option.isNone_iff_eq_none] at hc1
    refine Tri.seq (Tri.region ?_)
    refine TOps.makeInterface rfl Try.underlying47 rfl rfl ?_
    refine TOps.assign rfl rfl ?_
    refine TOps.next ?_
    refine Tri.ret1 (H' := H) Try.results22 (fun _ _ h => h) (.tmp rfl) (Le.refl _) ⟨rfl, rfl⟩
  · exact absurd hc1 (by first | decide | simp)
end Go.Proofs
