import Derived.Test.YtclpcnbdmmlogaaI09
namespace Go.Proofs
open Go.GL
set_option linter.unusedVariables false
set_option linter.unusedSimpArgs false
theorem rtvalue_g {H : List Ent} {fv : Value} {F : Fm} (hF : RF H fv F) (hg : F.Good) (y n : Int) :
    Gives Try.prog 21 [fv, .agg (List.toArray [.int .i64 y, .int .i64 n])] H (R1 (.int .i64 (F.tval y n F.top.toNat : Nat)) H) := by
  have hF0 := hF
  obtain ⟨a, off, cap, nsp, rfl, hN⟩ := hF
  have g0 := hg.v0; have g1 := hg.v1; have g2 := hg.n1; have gt := hg.topLt
  have hnl := F.tnodeVals_length y n
  refine Gives.enter Try.func21 rfl (by exact Try.ntmps21) rfl ?_
  refine Tri.seq (Tri.region ?_)
  refine TOps.boxN rfl ti24 rfl rfl (fun b2 => ?_)
  refine TOps.hide (fun H1 l1 s1 r1 => ?_)
  replace hF0 := hF0.le l1
  refine TOps.boxN rfl ti31 rfl rfl (fun b3 => ?_)
  refine TOps.hide (fun H2 l2 s2 r2 => ?_)
  replace hF0 := hF0.le l2; replace r1 := r1.le l2; have l3 := l2.trans l1
  refine TOps.assign rfl rfl ?_
  refine TOps.next ?_
  refine Tri.seq ?_
  have hll : ∀ (x : Nat) (c : Nat), Le (match c with | 0 => H2 | _ + 1 => row (some x) 3 1 F.nodes.length (nats (F.tnodeVals y n)) :: H2) H2 := by
    intro x c; cases c; exact Le.refl _; exact Le.drop (Le.refl _)
  refine Tri.drawX (X := Nat) rfl [(2, .pointer (some ⟨b2, 0, none⟩)), (3, .pointer (some ⟨b3, 0, none⟩))] [] (fun x => [_, _, _, slV (some x) 0 F.nodes.length F.nodes.length, _, _, _, _, _]) (fun x c => match c with | 0 => H2 | _ + 1 => row (some x) 3 1 F.nodes.length (nats (F.tnodeVals y n)) :: H2) [3] 0 [8] rfl rfl ⟨rfl, rfl, trivial⟩ trivial (by repeat (first | exact Le.refl _ | assumption | apply Le.drop)) (by
    refine ⟨?_, ?_, ?_, ?_, ?_, ?_, ?_, ?_, ?_, trivial⟩
    · refine ⟨fun x S c he hw hd hc hcu hm _ => ?_, trivial⟩
      refine TOps.loadN (he _ _ rfl) ti24 (Rd.le (by first | exact Rd.all (by repeat (first | exact List.Mem.head _ | apply List.Mem.tail)) | (repeat (first | assumption | apply Rd.up))) (hll x c)) rfl rfl ?_
      exact TOps.fin (Nrm.draw x (fun _ _ _ => rfl) rfl (by first | exact Le.refl _ | assumption | exact (by repeat (first | exact Le.refl _ | assumption | apply Le.drop))))
    · refine ⟨fun x S c he hw hd hc hcu hm _ => ?_, trivial⟩
      refine TOps.loadN (he _ _ rfl) ti24 (Rd.le (by first | exact Rd.all (by repeat (first | exact List.Mem.head _ | apply List.Mem.tail)) | (repeat (first | assumption | apply Rd.up))) (hll x c)) rfl rfl ?_
      exact TOps.fin (Nrm.draw x (fun _ _ _ => rfl) rfl (by first | exact Le.refl _ | assumption | exact (by repeat (first | exact Le.refl _ | assumption | apply Le.drop))))
    · refine ⟨fun x S c he hw hd hc hcu hm _ => ?_, trivial⟩
      refine TOps.loadN (he _ _ rfl) ti31 (Rd.le (by first | exact Rd.all (by repeat (first | exact List.Mem.head _ | apply List.Mem.tail)) | (repeat (first | assumption | apply Rd.up))) (hll x c)) rfl rfl ?_
      exact TOps.fin (Nrm.draw x (fun _ _ _ => rfl) rfl (by first | exact Le.refl _ | assumption | exact (by repeat (first | exact Le.refl _ | assumption | apply Le.drop))))
    · refine ⟨fun x S c he hw hd hc hcu hm _ => ?_, trivial⟩
      obtain ⟨h1, h2, -⟩ := hd
      obtain rfl : c = 0 := hm rfl
      refine TOps.call (vs := [_, _]) Try.call23 ⟨h1, h2, trivial⟩ (rtvalues_g hF0 hg y n) rfl ?_
      rintro _ _ ⟨b, rfl, rfl⟩
      refine TOps.fin (Nrm.draw b ?_ rfl (Le.refl _))
      intro j hj hcj; rcases j with _|_|_|_|_|_|_|_|_|j <;> first | rfl | exact absurd rfl hj | exact absurd hcj (by decide)
    · refine ⟨fun x S c he hw hd hc hcu hm _ => ?_, trivial⟩
      refine TOps.loadN (he _ _ rfl) ti31 (Rd.le (by first | exact Rd.all (by repeat (first | exact List.Mem.head _ | apply List.Mem.tail)) | (repeat (first | assumption | apply Rd.up))) (hll x c)) rfl rfl ?_
      exact TOps.fin (Nrm.draw x (fun _ _ _ => rfl) rfl (by first | exact Le.refl _ | assumption | exact (by repeat (first | exact Le.refl _ | assumption | apply Le.drop))))
    · refine ⟨fun x S c he hw hd hc hcu hm _ => ?_, trivial⟩
      first | refine TOps.fieldB 2 (he _ _ rfl) Try.underlying24 rfl rfl ti3 rfl rfl rfl ?_ | refine TOps.fieldN 2 (he _ _ rfl) Try.underlying24 rfl rfl ti3 rfl rfl rfl ?_
      exact TOps.fin (Nrm.draw x (fun _ _ _ => rfl) rfl (by first | exact Le.refl _ | assumption | exact (by repeat (first | exact Le.refl _ | assumption | apply Le.drop))))
    · refine ⟨fun x S c he hw hd hc hcu hm _ => ?_, trivial⟩
      obtain ⟨h5, -⟩ := hd
      refine TOps.load1 h5 ti3 (Rd.le (by first | exact Rd.lit (by repeat (first | exact List.Mem.head _ | apply List.Mem.tail)) rfl | (repeat (first | assumption | exact Rd.fld (by assumption) 2 rfl | apply Rd.up))) (hll x c)) rfl ?_
      exact TOps.fin (Nrm.draw x (fun _ _ _ => rfl) rfl (by first | exact Le.refl _ | assumption | exact (by repeat (first | exact Le.refl _ | assumption | apply Le.drop))))
    · refine ⟨fun x S c he hw hd hc hcu hm _ => ?_, trivial⟩
      obtain ⟨h0, h3, h4, h6, _, -⟩ := hd
      obtain ⟨c', rfl⟩ : ∃ c', c = c' + 1 := ⟨c - 1, by have : 1 ≤ c := hc; omega⟩
      refine TOps.call (vs := [_, _, _, _]) Try.call40 ⟨h0, h3, h4, h6, trivial⟩ (rtof_g (hF0.le (Le.drop (Le.refl _))) ⟨g0, g1⟩ (RdS.ofRowS (List.Mem.head _)) hnl (by omega) y n F.top gt.1 gt.2) rfl ?_
      rintro _ _ ⟨rfl, rfl⟩
      rw [ofT_tval hg y n gt.1]
      exact TOps.fin (Nrm.draw x (fun _ _ _ => rfl) rfl (Le.refl _))
    · refine ⟨fun x S c he hw hd hc hcu hm _ => ?_, trivial⟩
      obtain ⟨h7, _, h0, h1, h2, h3, h4, h5, h6, _, -⟩ := hd
      refine TOps.assign h7 rfl ?_
      exact TOps.fin (Nrm.draw x (fun _ _ _ => rfl) rfl (by first | exact Le.refl _ | assumption | exact (by repeat (first | exact Le.refl _ | assumption | apply Le.drop))))
    ) (fun w => ?_)
  refine Nrm.next ?_
  refine Tri.ret1 (H' := H) Try.results21 (fun _ _ h => h) (.tmp rfl) (Le.drop l3) ⟨rfl, rfl⟩
theorem rtnext_g {H : List Ent} {fv : Value} {F : Fm} (hF : RF H fv F) (hg : F.Good) (y n : Int) :
    Gives Try.prog 24 [fv, .agg (List.toArray [.int .i64 y, .int .i64 n])] H (R1 (.int .i64 (F.next y n)) H) := by
  have hF0 := hF
  obtain ⟨a, off, cap, nsp, rfl, hN⟩ := hF
  have g0 := hg.v0; have g1 := hg.v1; have g2 := hg.n1; have gt := hg.topLt
  have hnl := F.tnodeVals_length y n
  refine Gives.enter Try.func24 rfl (by exact Try.ntmps24) rfl ?_
  refine Tri.seq (Tri.region ?_)
  refine TOps.boxN rfl ti24 rfl rfl (fun b2 => ?_)
  refine TOps.hide (fun H1 l1 s1 r1 => ?_)
  replace hF0 := hF0.le l1; replace hN := hN.le l1
  refine TOps.boxN rfl ti31 rfl rfl (fun b3 => ?_)
  refine TOps.hide (fun H2 l2 s2 r2 => ?_)
  replace hF0 := hF0.le l2; replace hN := hN.le l2; replace r1 := r1.le l2; have l3 := l2.trans l1
  refine TOps.assign rfl rfl ?_
  refine TOps.next ?_
  refine Tri.seq (Tri.region ?_)
  refine TOps.loadN rfl ti24 (by first | exact Rd.all (by repeat (first | exact List.Mem.head _ | apply List.Mem.tail)) | (repeat (first | assumption | apply Rd.up))) rfl rfl ?_
  refine TOps.loadN rfl ti31 (by first | exact Rd.all (by repeat (first | exact List.Mem.head _ | apply List.Mem.tail)) | (repeat (first | assumption | apply Rd.up))) rfl rfl ?_
  refine TOps.call (vs := [_, _]) Try.call23 ⟨rfl, rfl, trivial⟩ (rtvalues_g hF0 hg y n) rfl ?_
  rintro _ _ ⟨b, rfl, rfl⟩
  refine TOps.hide (fun H3 l4 s4 rv => ?_)
  replace hN := hN.le l4; replace hF0 := hF0.le l4; replace r1 := r1.le l4; replace r2 := r2.le l4; have l6 := l4.trans l3
  have hof : ∀ qq : Int, 0 ≤ qq → qq < F.vars + F.nodes.length → Gives Try.prog 40 [.agg (List.toArray [.int .i64 F.vars, slV a off F.nodes.length cap nsp, .int .i64 F.top]), slV (some b) 0 F.nodes.length F.nodes.length, .agg (List.toArray [.int .i64 y, .int .i64 n]), .int .i64 qq] H3 (R1 (.int .i64 (F.tval y n qq.toNat : Nat)) H3) := by
    intro q h0 h1
    have hrs : RdS H3 (some b) 0 (nats (F.tnodeVals y n)) none := .inr ⟨b, rfl, rfl, rv⟩
    have h := rtof_g (cap := F.nodes.length) hF0 ⟨g0, g1⟩ hrs hnl (by omega) y n q h0 h1
    rw [ofT_tval hg y n h0] at h
    exact h
  refine TOps.assign rfl rfl ?_
  refine TOps.next ?_
  refine Tri.seq (Tri.region ?_)
  first | refine TOps.fieldB 2 rfl Try.underlying24 rfl rfl ti3 rfl rfl rfl ?_ | refine TOps.fieldN 2 rfl Try.underlying24 rfl rfl ti3 rfl rfl rfl ?_
  refine TOps.load1 rfl ti3 (by first | exact Rd.lit (by repeat (first | exact List.Mem.head _ | apply List.Mem.tail)) rfl | (repeat (first | assumption | exact Rd.fld (by assumption) 2 rfl | apply Rd.up))) rfl ?_
  refine TOps.assign rfl rfl ?_
  refine TOps.next ?_
  refine Tri.seq ?_
  refine Tri.seq (Tri.region ?_)
  refine TOps.loadN rfl ti24 (by first | exact Rd.all (by repeat (first | exact List.Mem.head _ | apply List.Mem.tail)) | (repeat (first | assumption | apply Rd.up))) rfl rfl ?_
  refine TOps.move rfl rfl ?_
  refine TOps.loadN rfl ti31 (by first | exact Rd.all (by repeat (first | exact List.Mem.head _ | apply List.Mem.tail)) | (repeat (first | assumption | apply Rd.up))) rfl rfl ?_
  refine TOps.move rfl rfl ?_
  refine TOps.call (vs := [_, _, _, _]) Try.call40 ⟨rfl, rfl, rfl, rfl, trivial⟩ (hof F.top gt.1 gt.2) rfl ?_
  rintro _ _ ⟨rfl, rfl⟩
  refine TOps.neqI rfl rfl rfl ?_
  refine TOps.next ?_
  refine Tri.cond rfl (fun hc1 => ?_) (fun hc1 => ?_)
  · try simp only [decide_eq_true_eq, decide_eq_false_iff_not, Bool.and_eq_true, Bool.or_eq_true, Bool.not_eq_true', Bool.and_eq_false_iff, Bool.or_eq_false_iff, Bool.not_eq_false', Int.not_lt, Int.not_le, ne_eq, Decidable.not_not, Option.isSome_iff_ne_none, Option.isNone_iff_eq_none] at hc1
    refine Tri.seq (Tri.region ?_)
    refine TOps.assign rfl rfl ?_
    refine TOps.next ?_
    refine Tri.ret1 (H' := H) Try.results24 (fun _ _ h => h) (.tmp rfl) l6 ⟨by unfold Fm.next; rw [if_pos (by omega)], rfl⟩
  try simp only [decide_eq_true_eq, decide_eq_false_iff_not, Bool.and_eq_true, Bool.or_eq_true, Bool.not_eq_true', Bool.and_eq_false_iff, Bool.or_eq_false_iff, Bool.not_eq_false', Int.not_lt, Int.not_le, ne_eq, Decidable.not_not, Option.isSome_iff_ne_none, Option.isNone_iff_eq_none] at hc1
  have ht2 : F.tval y n F.top.toNat = 2 := by omega
  have hnx : F.next y n = nextL F.vars.toNat F.nodes (F.tval y n) (F.top.toNat + 1) F.top.toNat := by unfold Fm.next; rw [if_neg (by omega)]
  refine Tri.fin ?_
  refine Nrm.next ?_
  refine Tri.seq ?_
  refine Tri.block ?_
  refine Tri.loop (X := Nat × Nat) (fun x => [(2, .pointer (some ⟨b2, 0, none⟩)), (3, .pointer (some ⟨b3, 0, none⟩)), (5, slV (some b) 0 F.nodes.length F.nodes.length), (6, .int .i64 (x.2 : Nat))]) (fun x => H3) (fun x => x.2 < x.1 ∧ x.2 < F.vars.toNat + F.nodes.length ∧ F.tval y n x.2 = 2 ∧ ((nextL F.vars.toNat F.nodes (F.tval y n) x.1 x.2 : Nat) : Int) = F.next y n) (fun x => x.2) (F.top.toNat + 1, F.top.toNat) ⟨by simp, by simp only; omega, ht2, hnx.symm⟩ ⟨rfl, rfl, rfl, (by refine congrArg (fun z : Int => some (Value.int .i64 z)) ?_; simp only; omega), trivial⟩ (by repeat (first | exact Le.refl _ | assumption | apply Le.drop)) (fun x hp => ?_)
  obtain ⟨f, t⟩ := x
  obtain ⟨p1, p2, p3, p4⟩ := hp
  dsimp only at p1 p2 p3 p4 ⊢
  refine Tri.seq ?_
  refine Tri.seq (Tri.region ?_)
  refine TOps.move rfl rfl ?_
  refine TOps.field0 rfl Try.underlying24 rfl rfl ti3 rfl rfl rfl ?_
  refine TOps.load1 rfl ti3 (by first | exact Rd.lit (by repeat (first | exact List.Mem.head _ | apply List.Mem.tail)) rfl | (repeat (first | assumption | exact Rd.fld (by assumption) 0 rfl | apply Rd.up))) rfl ?_
  refine TOps.geq rfl rfl rfl ?_
  refine TOps.next ?_
  refine Tri.cond rfl (fun hc2 => ?_) (fun hc2 => ?_)
  · try simp only [decide_eq_true_eq, decide_eq_false_iff_not, Bool.and_eq_true, Bool.or_eq_true, Bool.not_eq_true', Bool.and_eq_false_iff, Bool.or_eq_false_iff, Bool.not_eq_false', Int.not_lt, Int.not_le, ne_eq, Decidable.not_not, Option.isSome_iff_ne_none, Option.isNone_iff_eq_none] at hc2
    obtain ⟨i, rfl⟩ : ∃ i, t = F.vars.toNat + i := ⟨t - F.vars.toNat, by omega⟩
    have hi : i < F.nodes.length := by omega
    obtain ⟨f, rfl⟩ : ∃ g, f = g + 1 := ⟨f - 1, by omega⟩
    obtain ⟨nb, aa, ao, acap, asp, rfl, rfl, hn⟩ := hN.at hi
    have hfi := hg.fits i hi
    have hcells := hn.cells
    have hal := hfi.len
    obtain ⟨k, hk, hk1, hk2⟩ := Fm.next_arg hg y n hi p3
    have hbk := hfi.args _ (List.getElem_mem hk)
    have hn2 : nextL F.vars.toNat F.nodes (F.tval y n) (f + 1) (F.vars.toNat + i) = nextL F.vars.toNat F.nodes (F.tval y n) f (F.nodes[i].args[k]).toNat := by
      rw [nextL, if_neg (by omega), Nat.add_sub_cancel_left, show F.nodes.getD i ⟨0, 0, []⟩ = F.nodes[i] from by simp [hi]]
      simp only [hk1, Int.toNat_natCast]
      rw [show F.nodes[i].args.getD k 0 = F.nodes[i].args[k] from by simp [hk]]
    refine Tri.fin ?_
    refine Nrm.next ?_
    refine Tri.block ?_
    refine Tri.seq (Tri.region ?_)
    first | refine TOps.fieldB 1 rfl Try.underlying24 rfl rfl ti22 rfl rfl rfl ?_ | refine TOps.fieldN 1 rfl Try.underlying24 rfl rfl ti22 rfl rfl rfl ?_
    refine TOps.load1 rfl ti22 (by first | exact Rd.lit (by repeat (first | exact List.Mem.head _ | apply List.Mem.tail)) rfl | (repeat (first | assumption | exact Rd.fld (by assumption) 1 rfl | apply Rd.up))) rfl ?_
    refine TOps.move rfl rfl ?_
    refine TOps.field0 rfl Try.underlying24 rfl rfl ti3 rfl rfl rfl ?_
    refine TOps.load1 rfl ti3 (by first | exact Rd.lit (by repeat (first | exact List.Mem.head _ | apply List.Mem.tail)) rfl | (repeat (first | assumption | exact Rd.fld (by assumption) 0 rfl | apply Rd.up))) rfl ?_
    refine TOps.sub (r := (i : Int)) rfl rfl (by rw [wrapI (by omega) (by omega)]; omega) rfl ?_
    refine TOps.indexAddr (off' := off + i * 3) rfl rfl Try.underlying22 ti36 (by omega) (by omega) (by simp) rfl ?_
    refine TOps.fieldN 2 rfl Try.underlying36 rfl rfl ti34 rfl rfl rfl ?_
    refine TOps.load1 rfl ti34 (hcells.part 2 rfl) rfl ?_
    refine TOps.len rfl Try.underlying34 rfl ?_
    refine TOps.move rfl rfl ?_
    refine TOps.next ?_
    refine Tri.range (X := Unit) (fun q j => [(2, .pointer (some ⟨b2, 0, none⟩)), (3, .pointer (some ⟨b3, 0, none⟩)), (5, slV (some b) 0 F.nodes.length F.nodes.length), (6, .int .i64 ((F.vars.toNat + i : Nat) : Int)), (32, slV aa ao F.nodes[i].args.length acap asp)]) (fun q j => H3) (fun q j => ∀ z (hz : z < F.nodes[i].args.length), z < j → decide (F.tval y n (F.nodes[i].args[z]).toNat = 2) = false) (by omega) rfl rfl rfl (fun _ _ => ⟨rfl, rfl, rfl, rfl⟩) () (by intro z _ h; omega) ⟨rfl, rfl, rfl, rfl, rfl, trivial⟩ (by repeat (first | exact Le.refl _ | assumption | apply Le.drop)) (fun j q hltj hpj => ?_) (fun q ac wc hpj hS hM => ?_)
    · skip
      obtain ⟨ab, rfl, rfl, ha⟩ := hn.args.at hltj
      have hb := hfi.args _ (List.getElem_mem hltj)
      refine Tri.seq (Tri.region ?_)
      refine TOps.indexAddr (off' := ao + j) rfl rfl Try.underlying34 ti3 (by omega) (by omega) (by simp) rfl ?_
      refine TOps.load1 rfl ti3 (by first | exact Rd.lit (by repeat (first | exact List.Mem.head _ | apply List.Mem.tail)) rfl | (repeat (first | assumption | apply Rd.up))) rfl ?_
      refine TOps.assign rfl rfl ?_
      refine TOps.next ?_
      refine Tri.seq (Tri.region ?_)
      refine TOps.loadN rfl ti24 (by first | exact Rd.all (by repeat (first | exact List.Mem.head _ | apply List.Mem.tail)) | (repeat (first | assumption | apply Rd.up))) rfl rfl ?_
      refine TOps.move rfl rfl ?_
      refine TOps.loadN rfl ti31 (by first | exact Rd.all (by repeat (first | exact List.Mem.head _ | apply List.Mem.tail)) | (repeat (first | assumption | apply Rd.up))) rfl rfl ?_
      refine TOps.move rfl rfl ?_
      refine TOps.call (vs := [_, _, _, _]) Try.call40 ⟨rfl, rfl, rfl, rfl, trivial⟩ (hof F.nodes[i].args[j] (by omega) (by omega)) rfl ?_
      rintro _ _ ⟨rfl, rfl⟩
      refine TOps.eqlI rfl rfl rfl ?_
      refine TOps.next ?_
      refine Tri.cond rfl (fun hc3 => ?_) (fun hc3 => ?_)
      · try simp only [decide_eq_true_eq, decide_eq_false_iff_not, Bool.and_eq_true, Bool.or_eq_true, Bool.not_eq_true', Bool.and_eq_false_iff, Bool.or_eq_false_iff, Bool.not_eq_false', Int.not_lt, Int.not_le, ne_eq, Decidable.not_not, Option.isSome_iff_ne_none, Option.isNone_iff_eq_none] at hc3
        have hkj : k = j := by
          have := firstI_at (q := fun a => decide (F.tval y n a.toNat = 2)) hltj hpj (decide_eq_true (by omega))
          rw [hk1] at this; omega
        subst hkj
        refine Tri.seq (Tri.region ?_)
        refine TOps.move rfl rfl ?_
        refine TOps.assign rfl rfl ?_
        refine TOps.next ?_
        refine Tri.exitTo ?_
        repeat (with_reducible first | refine ExitTo.blk ?_ | refine ExitTo.blkNe rfl ?_ | refine ExitTo.body ?_ | refine ExitTo.brk rfl ?_ | refine ExitTo.bodyNe rfl rfl ?_ | refine ExitTo.seq ?_ | refine ExitTo.loop ?_)
        refine Nrm.unB ?_
        refine Nrm.loop (f, (F.nodes[i].args[k]).toNat) ⟨by simp only; omega, by simp only; omega, hk2, by rw [← hn2]; exact p4⟩ (by simp only; omega) ⟨rfl, rfl, rfl, (by first | exact hfalse.elim | (refine congrArg (fun z : Int => some (Value.int .i64 z)) ?_; simp only; omega)), trivial⟩ (by repeat (first | exact Le.refl _ | assumption | apply Le.drop))
      try simp only [decide_eq_true_eq, decide_eq_false_iff_not, Bool.and_eq_true, Bool.or_eq_true, Bool.not_eq_true', Bool.and_eq_false_iff, Bool.or_eq_false_iff, Bool.not_eq_false', Int.not_lt, Int.not_le, ne_eq, Decidable.not_not, Option.isSome_iff_ne_none, Option.isNone_iff_eq_none] at hc3
      refine Tri.fin ?_
      refine Nrm.body () (by intro z hz hzj; rcases Nat.lt_succ_iff_lt_or_eq.1 hzj with hzj | rfl; exact hpj z hz hzj; exact decide_eq_false (by omega)) ⟨rfl, rfl, rfl, rfl, rfl, rfl, rfl, trivial⟩ (by repeat (first | exact Le.refl _ | assumption | apply Le.drop))
    have hfalse : False := by have := hpj k hk hk; rw [decide_eq_true hk2] at this; cases this
    refine Nrm.of hS hM ?_
    refine Nrm.unB ?_
    refine Nrm.loop (f, (F.nodes[i].args[k]).toNat) ⟨by simp only; omega, by simp only; omega, hk2, by rw [← hn2]; exact p4⟩ (by simp only; omega) ⟨rfl, rfl, rfl, (by first | exact hfalse.elim | (refine congrArg (fun z : Int => some (Value.int .i64 z)) ?_; simp only; omega)), trivial⟩ (by repeat (first | exact Le.refl _ | assumption | apply Le.drop))
  try simp only [decide_eq_true_eq, decide_eq_false_iff_not, Bool.and_eq_true, Bool.or_eq_true, Bool.not_eq_true', Bool.and_eq_false_iff, Bool.or_eq_false_iff, Bool.not_eq_false', Int.not_lt, Int.not_le, ne_eq, Decidable.not_not, Option.isSome_iff_ne_none, Option.isNone_iff_eq_none] at hc2
  obtain ⟨f, rfl⟩ : ∃ g, f = g + 1 := ⟨f - 1, by omega⟩
  rw [nextL, if_pos (by omega)] at p4
  refine Tri.exitW ?_
  refine Nrm.next ?_
  refine Tri.seq (Tri.region ?_)
  refine TOps.move rfl rfl ?_
  refine TOps.assign rfl rfl ?_
  refine TOps.next ?_
  refine Tri.ret1 (H' := H) Try.results24 (fun _ _ h => h) (.tmp rfl) l6 ⟨by rw [← p4], rfl⟩
theorem intsN_g {H : List Ent} {xs ys : List Nat} {a1 s1 a2 s2 : Option Nat} {o1 c1 o2 c2 m1 m2 : Nat} (hr1 : RdS H a1 o1 (nats xs) s1) (hr2 : RdS H a2 o2 (nats ys) s2) (h1 : xs.length = m1) (h2 : ys.length = m2) (hm : m1 ≤ 1000000 ∧ m2 ≤ 1000000) :
    Gives Try.prog 22 [slV a1 o1 m1 c1 s1, slV a2 o2 m2 c2 s2] H (R1 (.bool (decide (xs = ys))) H) := by
  have e : ∀ l : List Nat, nats l = ints (l.map (fun (n : Nat) => (n : Int))) := fun l => by simp [nats, ints]
  have hq : ∀ l l' : List Nat, l.map (fun (n : Nat) => (n : Int)) = l'.map (fun (n : Nat) => (n : Int)) ↔ l = l' := fun l l' => ⟨fun h => (List.map_inj_right (fun x y h => by omega)).1 h, fun h => by rw [h]⟩
  subst h1 h2
  have h := ints_g (H := H) (xs := xs.map (fun (n : Nat) => (n : Int))) (ys := ys.map (fun (n : Nat) => (n : Int))) (c1 := c1) (c2 := c2) (by unfold RInts; rw [← e]; exact hr1) (by unfold RInts; rw [← e]; exact hr2) (by rw [List.length_map]; omega) (by rw [List.length_map]; omega)
  rw [List.length_map, List.length_map, decide_eq_decide.2 (hq xs ys)] at h
  exact h
theorem ternaryValues_g {H : List Ent} {fv : Value} {F : Fm} (hF : RF H fv F) (hk : F.ok) (y n : Int) :
    Gives Try.prog 6 [fv, .agg (List.toArray [.int .i64 y, .int .i64 n])] H (R1 (.bool true) H) := by
  have hF0 := hF
  obtain ⟨na, off, cap, nsp, rfl, hN⟩ := hF
  refine Gives.enter Try.func6 rfl (by exact Try.ntmps6) rfl ?_
  refine Tri.seq (Tri.region ?_)
  refine TOps.boxN rfl ti24 rfl rfl (fun b2 => ?_)
  refine TOps.hide (fun H1 l1 s1 r1 => ?_)
  replace hF0 := hF0.le l1
  refine TOps.boxN rfl ti31 rfl rfl (fun b3 => ?_)
  refine TOps.hide (fun H2 l2 s2 r2 => ?_)
  replace hF0 := hF0.le l2; replace r1 := r1.le l2; have l3 := l2.trans l1
  refine TOps.assign rfl rfl ?_
  refine TOps.next ?_
  refine Tri.seq ?_
  refine Tri.seq (Tri.region ?_)
  refine TOps.call (vs := []) Try.call9 trivial (awake09_g) rfl ?_
  rintro _ _ ⟨rfl, rfl⟩
  refine TOps.not rfl rfl ?_
  refine TOps.move rfl rfl ?_
  refine' TOps.orB 3 rfl rfl rfl rfl (fun hg1_2 => ?_) ?_; rotate_left
  · have hg1_2' := hg1_2
    try simp only [decide_eq_true_eq, decide_eq_false_iff_not, Bool.and_eq_true, Bool.or_eq_true, Bool.not_eq_true', Bool.and_eq_false_iff, Bool.or_eq_false_iff, Bool.not_eq_false', Int.not_lt, Int.not_le, ne_eq, Decidable.not_not] at hg1_2'
    refine TOps.strip 2 false rfl rfl hg1_2 rfl ?_
    refine TOps.loadN rfl ti24 (by first | exact Rd.all (by repeat (first | exact List.Mem.head _ | apply List.Mem.tail)) | (repeat (first | assumption | apply Rd.up))) rfl rfl ?_
    refine TOps.call (vs := [_]) Try.call10 ⟨rfl, trivial⟩ (light_g hF0 hk) rfl ?_
    rintro _ _ ⟨rfl, rfl⟩
    refine TOps.not rfl rfl ?_
    refine TOps.blk rfl (by repeat (first | exact Ext.refl _ | refine Ext.cons rfl ?_)) (by repeat (first | exact Le.refl _ | apply Le.drop))
  refine TOps.next ?_
  refine Tri.cond rfl (fun hc1 => ?_) (fun hc1 => ?_)
  · try simp only [decide_eq_true_eq, decide_eq_false_iff_not, Bool.and_eq_true, Bool.or_eq_true, Bool.not_eq_true', Bool.and_eq_false_iff, Bool.or_eq_false_iff, Bool.not_eq_false', Int.not_lt, Int.not_le, ne_eq, Decidable.not_not, Option.isSome_iff_ne_none, Option.isNone_iff_eq_none] at hc1
    refine Tri.seq (Tri.region ?_)
    refine TOps.call (vs := []) Try.call9 trivial (awake09_g) rfl ?_
    rintro _ _ ⟨rfl, rfl⟩
    refine TOps.assign rfl rfl ?_
    refine TOps.next ?_
    refine Tri.ret1 (H' := H) Try.results6 (fun _ _ h => h) (.tmp rfl) l3 ⟨rfl, rfl⟩
  try simp only [decide_eq_true_eq, decide_eq_false_iff_not, Bool.and_eq_true, Bool.or_eq_true, Bool.not_eq_true', Bool.and_eq_false_iff, Bool.or_eq_false_iff, Bool.not_eq_false', Int.not_lt, Int.not_le, ne_eq, Decidable.not_not, Option.isSome_iff_ne_none, Option.isNone_iff_eq_none] at hc1
  refine Tri.fin ?_
  refine Nrm.next ?_
  refine Tri.seq (Tri.region ?_)
  refine TOps.loadN rfl ti24 (by first | exact Rd.all (by repeat (first | exact List.Mem.head _ | apply List.Mem.tail)) | (repeat (first | assumption | apply Rd.up))) rfl rfl ?_
  refine TOps.loadN rfl ti31 (by first | exact Rd.all (by repeat (first | exact List.Mem.head _ | apply List.Mem.tail)) | (repeat (first | assumption | apply Rd.up))) rfl rfl ?_
  refine TOps.call (vs := [_, _]) Try.call13 ⟨rfl, rfl, trivial⟩ (tvalue_g hF0 hk y n) rfl ?_
  rintro _ _ ⟨rfl, rfl⟩
  refine TOps.move rfl rfl ?_
  refine TOps.extract rfl rfl rfl ?_
  refine TOps.extract rfl rfl rfl ?_
  refine TOps.assign rfl rfl ?_
  refine TOps.assign rfl rfl ?_
  refine TOps.next ?_
  refine Tri.seq (Tri.region ?_)
  refine TOps.loadN rfl ti24 (by first | exact Rd.all (by repeat (first | exact List.Mem.head _ | apply List.Mem.tail)) | (repeat (first | assumption | apply Rd.up))) rfl rfl ?_
  refine TOps.loadN rfl ti31 (by first | exact Rd.all (by repeat (first | exact List.Mem.head _ | apply List.Mem.tail)) | (repeat (first | assumption | apply Rd.up))) rfl rfl ?_
  refine TOps.call (vs := [_, _]) Try.call16 ⟨rfl, rfl, trivial⟩ (tvaluesTop_g hF0 hk y n) rfl ?_
  rintro _ _ ⟨xs, xa, xcap, hxs, rfl, hxa, rfl⟩
  have hrx : RdS (row xa 3 1 xcap (nats xs) :: H2) xa 0 (nats xs) := RdS.ofRowA (List.Mem.head _) hxa
  replace r1 := r1.up (e := row xa 3 1 xcap (nats xs)); replace r2 := r2.up (e := row xa 3 1 xcap (nats xs)); replace hF0 := hF0.le (Le.drop (e := row xa 3 1 xcap (nats xs)) (Le.refl _))
  generalize hH3 : row xa 3 1 xcap (nats xs) :: H2 = H3 at *
  have l4 : Le H3 H := by rw [← hH3]; exact Le.drop l3
  refine TOps.move rfl rfl ?_
  refine TOps.extract rfl rfl rfl ?_
  refine TOps.extract rfl rfl rfl ?_
  refine TOps.assign rfl rfl ?_
  refine TOps.assign rfl rfl ?_
  refine TOps.next ?_
  refine Tri.seq (Tri.region ?_)
  refine TOps.loadN rfl ti24 (by first | exact Rd.all (by repeat (first | exact List.Mem.head _ | apply List.Mem.tail)) | (repeat (first | assumption | apply Rd.up))) rfl rfl ?_
  refine TOps.loadN rfl ti31 (by first | exact Rd.all (by repeat (first | exact List.Mem.head _ | apply List.Mem.tail)) | (repeat (first | assumption | apply Rd.up))) rfl rfl ?_
  refine TOps.call (vs := [_, _]) Try.call17 ⟨rfl, rfl, trivial⟩ (tdecided_g hF0 hk y n) rfl ?_
  rintro _ _ ⟨rfl, rfl⟩
  refine TOps.move rfl rfl ?_
  refine TOps.extract rfl rfl rfl ?_
  refine TOps.extract rfl rfl rfl ?_
  refine TOps.assign rfl rfl ?_
  refine TOps.assign rfl rfl ?_
  refine TOps.next ?_
  refine Tri.seq (Tri.region ?_)
  refine TOps.loadN rfl ti24 (by first | exact Rd.all (by repeat (first | exact List.Mem.head _ | apply List.Mem.tail)) | (repeat (first | assumption | apply Rd.up))) rfl rfl ?_
  refine TOps.loadN rfl ti31 (by first | exact Rd.all (by repeat (first | exact List.Mem.head _ | apply List.Mem.tail)) | (repeat (first | assumption | apply Rd.up))) rfl rfl ?_
  refine TOps.call (vs := [_, _]) Try.call18 ⟨rfl, rfl, trivial⟩ (tnext_g hF0 hk y n) rfl ?_
  rintro _ _ ⟨rfl, rfl⟩
  refine TOps.move rfl rfl ?_
  refine TOps.extract rfl rfl rfl ?_
  refine TOps.extract rfl rfl rfl ?_
  refine TOps.assign rfl rfl ?_
  refine TOps.assign rfl rfl ?_
  refine TOps.next ?_
  refine Tri.seq ?_
  refine Tri.seq (Tri.region ?_)
  refine TOps.loadN rfl ti24 (by first | exact Rd.all (by repeat (first | exact List.Mem.head _ | apply List.Mem.tail)) | (repeat (first | assumption | apply Rd.up))) rfl rfl ?_
  refine TOps.loadN rfl ti31 (by first | exact Rd.all (by repeat (first | exact List.Mem.head _ | apply List.Mem.tail)) | (repeat (first | assumption | apply Rd.up))) rfl rfl ?_
  refine TOps.call (vs := [_, _]) Try.call19 ⟨rfl, rfl, trivial⟩ (rtcheck_g hF0 hk y n) rfl ?_
  rintro _ _ ⟨rfl, rfl⟩
  refine TOps.assign rfl rfl ?_
  refine TOps.next ?_
  refine Tri.seq (Tri.region ?_)
  refine TOps.move rfl rfl ?_
  refine TOps.neqI rfl rfl rfl ?_
  refine TOps.next ?_
  refine Tri.cond rfl (fun hc2 => ?_) (fun hc2 => ?_)
  · try simp only [decide_eq_true_eq, decide_eq_false_iff_not, Bool.and_eq_true, Bool.or_eq_true, Bool.not_eq_true', Bool.and_eq_false_iff, Bool.or_eq_false_iff, Bool.not_eq_false', Int.not_lt, Int.not_le, ne_eq, Decidable.not_not, Option.isSome_iff_ne_none, Option.isNone_iff_eq_none] at hc2
    obtain ⟨e, he⟩ : ∃ e, F.cubeErr y n = some e := by
      cases h : F.cubeErr y n with
      | none => rw [h] at hc2; exact absurd rfl hc2
      | some e => exact ⟨e, rfl⟩
    rw [he] at hxs
    replace hxs : xs = [] := hxs
    subst hxs
    rw [he]
    refine Tri.seq (Tri.region ?_)
    refine TOps.move rfl rfl ?_
    refine TOps.eqlI rfl rfl rfl ?_
    refine TOps.move rfl rfl ?_
    refine' TOps.andB 3 rfl rfl rfl rfl (fun hg9_2 => ?_) ?_; rotate_left
    · have hg9_2' := hg9_2
      try simp only [decide_eq_true_eq, decide_eq_false_iff_not, Bool.and_eq_true, Bool.or_eq_true, Bool.not_eq_true', Bool.and_eq_false_iff, Bool.or_eq_false_iff, Bool.not_eq_false', Int.not_lt, Int.not_le, ne_eq, Decidable.not_not] at hg9_2'
      refine TOps.strip 2 true rfl rfl hg9_2 rfl ?_
      refine TOps.move rfl rfl ?_
      refine TOps.len rfl Try.underlying34 rfl ?_
      refine TOps.eqlI rfl rfl rfl ?_
      refine TOps.blk rfl (by repeat (first | exact Ext.refl _ | refine Ext.cons rfl ?_)) (by repeat (first | exact Le.refl _ | apply Le.drop))
    refine TOps.move rfl rfl ?_
    refine' TOps.andB 2 rfl rfl rfl rfl (fun hg9_7 => ?_) ?_; rotate_left
    · have hg9_7' := hg9_7
      try simp only [decide_eq_true_eq, decide_eq_false_iff_not, Bool.and_eq_true, Bool.or_eq_true, Bool.not_eq_true', Bool.and_eq_false_iff, Bool.or_eq_false_iff, Bool.not_eq_false', Int.not_lt, Int.not_le, ne_eq, Decidable.not_not] at hg9_7'
      refine TOps.strip 7 true rfl rfl hg9_7 rfl ?_
      refine TOps.move rfl rfl ?_
      refine TOps.not rfl rfl ?_
      refine TOps.blk rfl (by repeat (first | exact Ext.refl _ | refine Ext.cons rfl ?_)) (by repeat (first | exact Le.refl _ | apply Le.drop))
    refine TOps.move rfl rfl ?_
    refine' TOps.andB 2 rfl rfl rfl rfl (fun hg9_11 => ?_) ?_; rotate_left
    · have hg9_11' := hg9_11
      try simp only [decide_eq_true_eq, decide_eq_false_iff_not, Bool.and_eq_true, Bool.or_eq_true, Bool.not_eq_true', Bool.and_eq_false_iff, Bool.or_eq_false_iff, Bool.not_eq_false', Int.not_lt, Int.not_le, ne_eq, Decidable.not_not] at hg9_11'
      refine TOps.strip 11 true rfl rfl hg9_11 rfl ?_
      refine TOps.move rfl rfl ?_
      refine TOps.eqlI rfl rfl rfl ?_
      refine TOps.blk rfl (by repeat (first | exact Ext.refl _ | refine Ext.cons rfl ?_)) (by repeat (first | exact Le.refl _ | apply Le.drop))
    refine TOps.move rfl rfl ?_
    refine' TOps.andB 4 rfl rfl rfl rfl (fun hg9_15 => ?_) ?_; rotate_left
    · have hg9_15' := hg9_15
      try simp only [decide_eq_true_eq, decide_eq_false_iff_not, Bool.and_eq_true, Bool.or_eq_true, Bool.not_eq_true', Bool.and_eq_false_iff, Bool.or_eq_false_iff, Bool.not_eq_false', Int.not_lt, Int.not_le, ne_eq, Decidable.not_not] at hg9_15'
      refine TOps.strip 15 true rfl rfl hg9_15 rfl ?_
      refine TOps.move rfl rfl ?_
      refine TOps.call (vs := [_]) Try.call20 ⟨rfl, trivial⟩ (num_g (some e)) rfl ?_
      rintro _ _ ⟨rfl, rfl⟩
      refine TOps.move rfl rfl ?_
      refine TOps.eqlI rfl rfl rfl ?_
      refine TOps.blk rfl (by repeat (first | exact Ext.refl _ | refine Ext.cons rfl ?_)) (by repeat (first | exact Le.refl _ | apply Le.drop))
    refine TOps.move rfl rfl ?_
    refine' TOps.andB 4 rfl rfl rfl rfl (fun hg9_21 => ?_) ?_; rotate_left
    · have hg9_21' := hg9_21
      try simp only [decide_eq_true_eq, decide_eq_false_iff_not, Bool.and_eq_true, Bool.or_eq_true, Bool.not_eq_true', Bool.and_eq_false_iff, Bool.or_eq_false_iff, Bool.not_eq_false', Int.not_lt, Int.not_le, ne_eq, Decidable.not_not] at hg9_21'
      refine TOps.strip 21 true rfl rfl hg9_21 rfl ?_
      refine TOps.move rfl rfl ?_
      refine TOps.call (vs := [_]) Try.call20 ⟨rfl, trivial⟩ (num_g (some e)) rfl ?_
      rintro _ _ ⟨rfl, rfl⟩
      refine TOps.move rfl rfl ?_
      refine TOps.eqlI rfl rfl rfl ?_
      refine TOps.blk rfl (by repeat (first | exact Ext.refl _ | refine Ext.cons rfl ?_)) (by repeat (first | exact Le.refl _ | apply Le.drop))
    refine TOps.move rfl rfl ?_
    refine' TOps.andB 4 rfl rfl rfl rfl (fun hg9_27 => ?_) ?_; rotate_left
    · have hg9_27' := hg9_27
      try simp only [decide_eq_true_eq, decide_eq_false_iff_not, Bool.and_eq_true, Bool.or_eq_true, Bool.not_eq_true', Bool.and_eq_false_iff, Bool.or_eq_false_iff, Bool.not_eq_false', Int.not_lt, Int.not_le, ne_eq, Decidable.not_not] at hg9_27'
      refine TOps.strip 27 true rfl rfl hg9_27 rfl ?_
      refine TOps.move rfl rfl ?_
      refine TOps.call (vs := [_]) Try.call20 ⟨rfl, trivial⟩ (num_g (some e)) rfl ?_
      rintro _ _ ⟨rfl, rfl⟩
      refine TOps.move rfl rfl ?_
      refine TOps.eqlI rfl rfl rfl ?_
      refine TOps.blk rfl (by repeat (first | exact Ext.refl _ | refine Ext.cons rfl ?_)) (by repeat (first | exact Le.refl _ | apply Le.drop))
    refine TOps.move rfl rfl ?_
    refine' TOps.andB 4 rfl rfl rfl rfl (fun hg9_33 => ?_) ?_; rotate_left
    · have hg9_33' := hg9_33
      try simp only [decide_eq_true_eq, decide_eq_false_iff_not, Bool.and_eq_true, Bool.or_eq_true, Bool.not_eq_true', Bool.and_eq_false_iff, Bool.or_eq_false_iff, Bool.not_eq_false', Int.not_lt, Int.not_le, ne_eq, Decidable.not_not] at hg9_33'
      refine TOps.strip 33 true rfl rfl hg9_33 rfl ?_
      refine TOps.move rfl rfl ?_
      refine TOps.call (vs := [_]) Try.call20 ⟨rfl, trivial⟩ (num_g (some e)) rfl ?_
      rintro _ _ ⟨rfl, rfl⟩
      refine TOps.move rfl rfl ?_
      refine TOps.eqlI rfl rfl rfl ?_
      refine TOps.blk rfl (by repeat (first | exact Ext.refl _ | refine Ext.cons rfl ?_)) (by repeat (first | exact Le.refl _ | apply Le.drop))
    refine TOps.assign rfl rfl ?_
    refine TOps.next ?_
    refine Tri.ret1 (H' := H) Try.results6 (fun _ _ h => h) (.tmp rfl) l4 ⟨by simp, rfl⟩
  try simp only [decide_eq_true_eq, decide_eq_false_iff_not, Bool.and_eq_true, Bool.or_eq_true, Bool.not_eq_true', Bool.and_eq_false_iff, Bool.or_eq_false_iff, Bool.not_eq_false', Int.not_lt, Int.not_le, ne_eq, Decidable.not_not, Option.isSome_iff_ne_none, Option.isNone_iff_eq_none] at hc2
  have he : F.cubeErr y n = none := by
    cases h : F.cubeErr y n with
    | none => rfl
    | some e => rw [h] at hc2; exact absurd hc2 (Fm.cubeErr_ne h)
  have hg := (Fm.cubeErr_none he).1
  have hnl := F.tnodeVals_length y n
  have g2 := hg.n1
  rw [he] at hxs
  replace hxs : xs = F.tnodeVals y n := hxs
  subst hxs
  rw [he]
  refine Tri.fin ?_
  refine Nrm.next ?_
  refine Tri.seq (Tri.region ?_)
  refine TOps.loadN rfl ti24 (by first | exact Rd.all (by repeat (first | exact List.Mem.head _ | apply List.Mem.tail)) | (repeat (first | assumption | apply Rd.up))) rfl rfl ?_
  refine TOps.loadN rfl ti31 (by first | exact Rd.all (by repeat (first | exact List.Mem.head _ | apply List.Mem.tail)) | (repeat (first | assumption | apply Rd.up))) rfl rfl ?_
  refine TOps.call (vs := [_, _]) Try.call21 ⟨rfl, rfl, trivial⟩ (rtvalue_g hF0 hg y n) rfl ?_
  rintro _ _ ⟨rfl, rfl⟩
  refine TOps.assign rfl rfl ?_
  refine TOps.next ?_
  refine Tri.seq (Tri.region ?_)
  refine TOps.move rfl rfl ?_
  refine TOps.eqlNil (T := 62) (o := none) rfl Try.underlying28 rfl ?_
  refine TOps.move rfl rfl ?_
  refine' TOps.andB 2 rfl rfl rfl rfl (fun hg11_2 => ?_) ?_; rotate_left
  · have hg11_2' := hg11_2
    try simp only [decide_eq_true_eq, decide_eq_false_iff_not, Bool.and_eq_true, Bool.or_eq_true, Bool.not_eq_true', Bool.and_eq_false_iff, Bool.or_eq_false_iff, Bool.not_eq_false', Int.not_lt, Int.not_le, ne_eq, Decidable.not_not] at hg11_2'
    refine TOps.strip 2 true rfl rfl hg11_2 rfl ?_
    refine TOps.move rfl rfl ?_
    refine TOps.eqlNil (T := 62) (o := none) rfl Try.underlying28 rfl ?_
    refine TOps.blk rfl (by repeat (first | exact Ext.refl _ | refine Ext.cons rfl ?_)) (by repeat (first | exact Le.refl _ | apply Le.drop))
  refine TOps.move rfl rfl ?_
  refine' TOps.andB 2 rfl rfl rfl rfl (fun hg11_6 => ?_) ?_; rotate_left
  · have hg11_6' := hg11_6
    try simp only [decide_eq_true_eq, decide_eq_false_iff_not, Bool.and_eq_true, Bool.or_eq_true, Bool.not_eq_true', Bool.and_eq_false_iff, Bool.or_eq_false_iff, Bool.not_eq_false', Int.not_lt, Int.not_le, ne_eq, Decidable.not_not] at hg11_6'
    refine TOps.strip 6 true rfl rfl hg11_6 rfl ?_
    refine TOps.move rfl rfl ?_
    refine TOps.eqlNil (T := 62) (o := none) rfl Try.underlying28 rfl ?_
    refine TOps.blk rfl (by repeat (first | exact Ext.refl _ | refine Ext.cons rfl ?_)) (by repeat (first | exact Le.refl _ | apply Le.drop))
  refine TOps.move rfl rfl ?_
  refine' TOps.andB 2 rfl rfl rfl rfl (fun hg11_10 => ?_) ?_; rotate_left
  · have hg11_10' := hg11_10
    try simp only [decide_eq_true_eq, decide_eq_false_iff_not, Bool.and_eq_true, Bool.or_eq_true, Bool.not_eq_true', Bool.and_eq_false_iff, Bool.or_eq_false_iff, Bool.not_eq_false', Int.not_lt, Int.not_le, ne_eq, Decidable.not_not] at hg11_10'
    refine TOps.strip 10 true rfl rfl hg11_10 rfl ?_
    refine TOps.move rfl rfl ?_
    refine TOps.eqlNil (T := 62) (o := none) rfl Try.underlying28 rfl ?_
    refine TOps.blk rfl (by repeat (first | exact Ext.refl _ | refine Ext.cons rfl ?_)) (by repeat (first | exact Le.refl _ | apply Le.drop))
  refine TOps.move rfl rfl ?_
  refine' TOps.andB 3 rfl rfl rfl rfl (fun hg11_14 => ?_) ?_; rotate_left
  · have hg11_14' := hg11_14
    try simp only [decide_eq_true_eq, decide_eq_false_iff_not, Bool.and_eq_true, Bool.or_eq_true, Bool.not_eq_true', Bool.and_eq_false_iff, Bool.or_eq_false_iff, Bool.not_eq_false', Int.not_lt, Int.not_le, ne_eq, Decidable.not_not] at hg11_14'
    refine TOps.strip 14 true rfl rfl hg11_14 rfl ?_
    refine TOps.move rfl rfl ?_
    refine TOps.move rfl rfl ?_
    refine TOps.eqlI rfl rfl rfl ?_
    refine TOps.blk rfl (by repeat (first | exact Ext.refl _ | refine Ext.cons rfl ?_)) (by repeat (first | exact Le.refl _ | apply Le.drop))
  refine TOps.move rfl rfl ?_
  refine' TOps.andB 5 rfl rfl rfl rfl (fun hg11_19 => ?_) ?_; rotate_left
  · have hg11_19' := hg11_19
    try simp only [decide_eq_true_eq, decide_eq_false_iff_not, Bool.and_eq_true, Bool.or_eq_true, Bool.not_eq_true', Bool.and_eq_false_iff, Bool.or_eq_false_iff, Bool.not_eq_false', Int.not_lt, Int.not_le, ne_eq, Decidable.not_not] at hg11_19'
    refine TOps.strip 19 true rfl rfl hg11_19 rfl ?_
    refine TOps.move rfl rfl ?_
    refine TOps.loadN rfl ti24 (by first | exact Rd.all (by repeat (first | exact List.Mem.head _ | apply List.Mem.tail)) | (repeat (first | assumption | apply Rd.up))) rfl rfl ?_
    refine TOps.loadN rfl ti31 (by first | exact Rd.all (by repeat (first | exact List.Mem.head _ | apply List.Mem.tail)) | (repeat (first | assumption | apply Rd.up))) rfl rfl ?_
    refine TOps.call (vs := [_, _]) Try.call23 ⟨rfl, rfl, trivial⟩ (rtvalues_g hF0 hg y n) rfl ?_
    rintro _ _ ⟨vb, rfl, rfl⟩
    refine TOps.call (vs := [_, _]) Try.call22 ⟨rfl, rfl, trivial⟩ (intsN_g (RdS.up hrx) (RdS.ofRowS (List.Mem.head _)) rfl hnl (by omega)) rfl ?_
    rintro _ _ ⟨rfl, rfl⟩
    refine TOps.blk rfl (by repeat (first | exact Ext.refl _ | refine Ext.cons rfl ?_)) (by repeat (first | exact Le.refl _ | apply Le.drop))
  refine TOps.move rfl rfl ?_
  refine' TOps.andB 4 rfl rfl rfl rfl (fun hg11_26 => ?_) ?_; rotate_left
  · have hg11_26' := hg11_26
    try simp only [decide_eq_true_eq, decide_eq_false_iff_not, Bool.and_eq_true, Bool.or_eq_true, Bool.not_eq_true', Bool.and_eq_false_iff, Bool.or_eq_false_iff, Bool.not_eq_false', Int.not_lt, Int.not_le, ne_eq, Decidable.not_not] at hg11_26'
    refine TOps.strip 26 true rfl rfl hg11_26 rfl ?_
    refine TOps.move rfl rfl ?_
    refine TOps.move rfl rfl ?_
    refine TOps.neqI rfl rfl rfl ?_
    refine TOps.eqlB rfl rfl Try.underlying4 rfl ?_
    refine TOps.blk rfl (by repeat (first | exact Ext.refl _ | refine Ext.cons rfl ?_)) (by repeat (first | exact Le.refl _ | apply Le.drop))
  refine TOps.move rfl rfl ?_
  refine' TOps.andB 5 rfl rfl rfl rfl (fun hg11_32 => ?_) ?_; rotate_left
  · have hg11_32' := hg11_32
    try simp only [decide_eq_true_eq, decide_eq_false_iff_not, Bool.and_eq_true, Bool.or_eq_true, Bool.not_eq_true', Bool.and_eq_false_iff, Bool.or_eq_false_iff, Bool.not_eq_false', Int.not_lt, Int.not_le, ne_eq, Decidable.not_not] at hg11_32'
    refine TOps.strip 32 true rfl rfl hg11_32 rfl ?_
    refine TOps.move rfl rfl ?_
    refine TOps.loadN rfl ti24 (by first | exact Rd.all (by repeat (first | exact List.Mem.head _ | apply List.Mem.tail)) | (repeat (first | assumption | apply Rd.up))) rfl rfl ?_
    refine TOps.loadN rfl ti31 (by first | exact Rd.all (by repeat (first | exact List.Mem.head _ | apply List.Mem.tail)) | (repeat (first | assumption | apply Rd.up))) rfl rfl ?_
    refine TOps.call (vs := [_, _]) Try.call24 ⟨rfl, rfl, trivial⟩ (rtnext_g hF0 hg y n) rfl ?_
    rintro _ _ ⟨rfl, rfl⟩
    refine TOps.eqlI rfl rfl rfl ?_
    refine TOps.blk rfl (by repeat (first | exact Ext.refl _ | refine Ext.cons rfl ?_)) (by repeat (first | exact Le.refl _ | apply Le.drop))
  refine TOps.assign rfl rfl ?_
  refine TOps.next ?_
  refine Tri.ret1 (H' := H) Try.results6 (fun _ _ h => h) (.tmp rfl) l4 ⟨by simp, rfl⟩
end Go.Proofs
