import Derived.Test.YtbpjjepiblomaaaA30
import Derived.Test.YtbpjjepiblomaaaGL51
namespace Go.Proofs
open Go.GL
set_option linter.unusedVariables false
set_option linter.unusedSimpArgs false
theorem mis2_g {H : List Ent} {fv : Value} {F : Fm} (hF : RF H fv F) (hk : F.ok) (arg : Int) (ha : I64 arg) :
    Gives Try.prog 34 [fv, .int .i64 arg] H (R1 (.tuple (List.toArray [.bool (F.isB arg), errV 45 (F.isErr arg)])) H) := mis_g hF hk arg ha
theorem rpb_g {H : List Ent} {fv : Value} {F : Fm} (hF : RF H fv F) (hg : F.Good) {v t : Nat} (hv : F.vars.toNat = v) (ht : t < v + F.nodes.length) {L : List Bool} (hL : F.part t = L) :
    Gives Try.prog 35 [fv, .int .i64 t] H (fun u H' => ∃ b cap, u = slV (some b) 0 (v + F.nodes.length) cap ∧ row (some b) 4 1 cap (bools L) :: H = H') := by
  subst hv hL
  exact rpbelow_g hF hg t ht
theorem cutN_g {H : List Ent} {fv : Value} {F : Fm} (hF : RF H fv F) (hk : F.ok) (arg : Int) (ha : I64 arg) :
    Gives Try.prog 12 [fv, .int .i64 arg] H (fun u H' => ∃ a1 c1 a2 c2 N, u = .tuple (List.toArray [.agg (List.toArray [.int .i64 (F.outF arg).vars, slV a1 0 (F.outF arg).nodes.length c1, .int .i64 (F.outF arg).top]), .agg (List.toArray [.int .i64 (F.inF arg).vars, slV a2 0 (F.inF arg).nodes.length c2, .int .i64 (F.inF arg).top]), errV 45 (F.cutErr arg)]) ∧ RNodes N a1 0 (F.outF arg).nodes ∧ RNodes N a2 0 (F.inF arg).nodes ∧ N ++ H = H') := by
  have hF0 := hF
  obtain ⟨na, off, cap, nsp, rfl, hN⟩ := hF
  refine Gives.enter Try.func12 rfl (by exact Try.ntmps12) rfl ?_
  refine Tri.seq (Tri.region ?_)
  refine TOps.boxN rfl ti24 rfl rfl (fun b2 => ?_)
  refine TOps.hide (fun H1 l1 s1 r1 => ?_)
  replace hF0 := hF0.le l1; replace hN := hN.le l1
  refine TOps.alloc ti24 rfl (fun b4 => ?_)
  refine TOps.alloc ti24 rfl (fun b5 => ?_)
  refine TOps.assign rfl rfl ?_
  refine TOps.next ?_
  refine Tri.seq (Tri.region ?_)
  refine TOps.loadN rfl ti24 (by first | exact Rd.all (by repeat (first | exact List.Mem.head _ | apply List.Mem.tail)) | (repeat (first | assumption | apply Rd.up))) rfl rfl ?_
  refine TOps.move rfl rfl ?_
  refine TOps.call (vs := [_, _]) Try.call34 ⟨rfl, rfl, trivial⟩ (mis2_g (hF0.le (Le.drop (Le.drop (Le.refl _)))) hk arg ha) rfl ?_
  rintro _ _ ⟨rfl, rfl⟩
  refine TOps.move rfl rfl ?_
  refine TOps.extract rfl rfl rfl ?_
  refine TOps.extract rfl rfl rfl ?_
  refine TOps.assign rfl rfl ?_
  refine TOps.assign rfl rfl ?_
  refine TOps.next ?_
  refine Tri.seq ?_
  refine Tri.seq (Tri.region ?_)
  refine TOps.move rfl rfl ?_
  refine TOps.neqNil rfl Try.underlying28 rfl ?_
  refine TOps.next ?_
  refine Tri.cond rfl (fun hc1 => ?_) (fun hc1 => ?_)
  · try simp only [decide_eq_true_eq, decide_eq_false_iff_not, Bool.and_eq_true, Bool.or_eq_true, Bool.not_eq_true', Bool.and_eq_false_iff, Bool.or_eq_false_iff, Bool.not_eq_false', Int.not_lt, Int.not_le, ne_eq, Decidable.not_not, Option.isSome_iff_ne_none, Option.isNone_iff_eq_none] at hc1
    obtain ⟨e, he⟩ := Option.ne_none_iff_exists'.1 hc1
    have hce : F.cutErr arg = some e := by unfold Fm.cutErr; rw [he]
    refine Tri.seq (Tri.region ?_)
    refine TOps.buildStruct (vs := []) (xs := [_, _, _]) [(0, 1), (1, 1), (2, 1)] Try.underlying24 ti24 (fun w => by simp) trivial rfl rfl ?_
    refine TOps.buildStruct (vs := []) (xs := [_, _, _]) [(0, 1), (1, 1), (2, 1)] Try.underlying24 ti24 (fun w => by simp) trivial rfl rfl ?_
    refine TOps.move rfl rfl ?_
    refine TOps.storeN rfl rfl ti24 rfl rfl (by repeat (first | exact Upd.here | apply Upd.there)) (by first | decide | (simp; done) | (simp; omega)) ?_
    refine TOps.storeN rfl rfl ti24 rfl rfl (by repeat (first | exact Upd.here | apply Upd.there)) (by first | decide | (simp; done) | (simp; omega)) ?_
    refine TOps.assign rfl rfl ?_
    refine TOps.next ?_
    refine Tri.ret3 (H' := H) Try.results12 (fun _ _ h => h) (.cellN rfl rfl ti24 (Rd.all (by repeat (first | exact List.Mem.head _ | apply List.Mem.tail))) rfl) (.cellN rfl rfl ti24 (Rd.all (by repeat (first | exact List.Mem.head _ | apply List.Mem.tail))) rfl) (.tmp rfl) (Le.drop (Le.drop l1)) ⟨none, 0, none, 0, [], ?_, ?_, ?_, rfl⟩
    · unfold Fm.outF Fm.inF; rw [hce, he]; rfl
    · unfold Fm.outF; rw [hce]; exact .inl rfl
    · unfold Fm.inF; rw [hce]; exact .inl rfl
  try simp only [decide_eq_true_eq, decide_eq_false_iff_not, Bool.and_eq_true, Bool.or_eq_true, Bool.not_eq_true', Bool.and_eq_false_iff, Bool.or_eq_false_iff, Bool.not_eq_false', Int.not_lt, Int.not_le, ne_eq, Decidable.not_not, Option.isSome_iff_ne_none, Option.isNone_iff_eq_none] at hc1
  have hno : F.isErr arg = none := by simpa using hc1
  obtain ⟨hen, hnd⟩ := Fm.isErr_none hno
  have hg := (Fm.good_iff F).1 hen
  have hce0 : F.cutErr arg = if F.isB arg = false ∨ arg = F.top then some 7 else if F.vars = 24 then some 4 else none := by unfold Fm.cutErr; rw [hno]
  have hisb : F.isB arg = F.isMod arg.toNat := by unfold Fm.isB; rw [hen, hnd]; rfl
  refine Tri.fin ?_
  refine Nrm.next ?_
  refine Tri.seq ?_
  refine Tri.seq (Tri.region ?_)
  refine TOps.move rfl rfl ?_
  refine TOps.not rfl rfl ?_
  refine TOps.move rfl rfl ?_
  refine' TOps.orB 4 rfl rfl rfl rfl (fun hg4_2 => ?_) ?_; rotate_left
  · have hg4_2' := hg4_2
    try simp only [decide_eq_true_eq, decide_eq_false_iff_not, Bool.and_eq_true, Bool.or_eq_true, Bool.not_eq_true', Bool.and_eq_false_iff, Bool.or_eq_false_iff, Bool.not_eq_false', Int.not_lt, Int.not_le, ne_eq, Decidable.not_not] at hg4_2'
    refine TOps.strip 2 false rfl rfl hg4_2 rfl ?_
    refine TOps.move rfl rfl ?_
    first | refine TOps.fieldB 2 rfl Try.underlying24 rfl rfl ti3 rfl rfl rfl ?_ | refine TOps.fieldN 2 rfl Try.underlying24 rfl rfl ti3 rfl rfl rfl ?_
    refine TOps.load1 rfl ti3 (by first | exact Rd.lit (by repeat (first | exact List.Mem.head _ | apply List.Mem.tail)) rfl | (repeat (first | assumption | exact Rd.fld (by assumption) 2 rfl | apply Rd.up))) rfl ?_
    refine TOps.eqlI rfl rfl rfl ?_
    refine TOps.blk rfl (by repeat (first | exact Ext.refl _ | refine Ext.cons rfl ?_)) (by repeat (first | exact Le.refl _ | apply Le.drop))
  refine TOps.next ?_
  refine Tri.cond rfl (fun hc2 => ?_) (fun hc2 => ?_)
  · try simp only [decide_eq_true_eq, decide_eq_false_iff_not, Bool.and_eq_true, Bool.or_eq_true, Bool.not_eq_true', Bool.and_eq_false_iff, Bool.or_eq_false_iff, Bool.not_eq_false', Int.not_lt, Int.not_le, ne_eq, Decidable.not_not, Option.isSome_iff_ne_none, Option.isNone_iff_eq_none] at hc2
    have hce : F.cutErr arg = some 7 := by rw [hce0, if_pos hc2]
    refine Tri.seq (Tri.region ?_)
    refine TOps.buildStruct (vs := []) (xs := [_, _, _]) [(0, 1), (1, 1), (2, 1)] Try.underlying24 ti24 (fun w => by simp) trivial rfl rfl ?_
    refine TOps.buildStruct (vs := []) (xs := [_, _, _]) [(0, 1), (1, 1), (2, 1)] Try.underlying24 ti24 (fun w => by simp) trivial rfl rfl ?_
    refine TOps.makeInterface rfl Try.underlying45 rfl rfl ?_
    refine TOps.storeN rfl rfl ti24 rfl rfl (by repeat (first | exact Upd.here | apply Upd.there)) (by first | decide | (simp; done) | (simp; omega)) ?_
    refine TOps.storeN rfl rfl ti24 rfl rfl (by repeat (first | exact Upd.here | apply Upd.there)) (by first | decide | (simp; done) | (simp; omega)) ?_
    refine TOps.assign rfl rfl ?_
    refine TOps.next ?_
    refine Tri.ret3 (H' := H) Try.results12 (fun _ _ h => h) (.cellN rfl rfl ti24 (Rd.all (by repeat (first | exact List.Mem.head _ | apply List.Mem.tail))) rfl) (.cellN rfl rfl ti24 (Rd.all (by repeat (first | exact List.Mem.head _ | apply List.Mem.tail))) rfl) (.tmp rfl) (Le.drop (Le.drop l1)) ⟨none, 0, none, 0, [], ?_, ?_, ?_, rfl⟩
    · unfold Fm.outF Fm.inF; rw [hce]; rfl
    · unfold Fm.outF; rw [hce]; exact .inl rfl
    · unfold Fm.inF; rw [hce]; exact .inl rfl
  try simp only [decide_eq_true_eq, decide_eq_false_iff_not, Bool.and_eq_true, Bool.or_eq_true, Bool.not_eq_true', Bool.and_eq_false_iff, Bool.or_eq_false_iff, Bool.not_eq_false', Int.not_lt, Int.not_le, ne_eq, Decidable.not_not, Option.isSome_iff_ne_none, Option.isNone_iff_eq_none] at hc2
  rw [if_neg (fun h => by rcases h with h | h; (rw [hc2.1] at h; cases h); exact hc2.2 h)] at hce0
  refine Tri.fin ?_
  refine Nrm.next ?_
  refine Tri.seq ?_
  refine Tri.seq (Tri.region ?_)
  refine TOps.field0 rfl Try.underlying24 rfl rfl ti3 rfl rfl rfl ?_
  refine TOps.load1 rfl ti3 (by first | exact Rd.lit (by repeat (first | exact List.Mem.head _ | apply List.Mem.tail)) rfl | (repeat (first | assumption | exact Rd.fld (by assumption) 0 rfl | apply Rd.up))) rfl ?_
  refine TOps.eqlI rfl rfl rfl ?_
  refine TOps.next ?_
  refine Tri.cond rfl (fun hc3 => ?_) (fun hc3 => ?_)
  · try simp only [decide_eq_true_eq, decide_eq_false_iff_not, Bool.and_eq_true, Bool.or_eq_true, Bool.not_eq_true', Bool.and_eq_false_iff, Bool.or_eq_false_iff, Bool.not_eq_false', Int.not_lt, Int.not_le, ne_eq, Decidable.not_not, Option.isSome_iff_ne_none, Option.isNone_iff_eq_none] at hc3
    have hce : F.cutErr arg = some 4 := by rw [hce0, if_pos hc3]
    refine Tri.seq (Tri.region ?_)
    refine TOps.buildStruct (vs := []) (xs := [_, _, _]) [(0, 1), (1, 1), (2, 1)] Try.underlying24 ti24 (fun w => by simp) trivial rfl rfl ?_
    refine TOps.buildStruct (vs := []) (xs := [_, _, _]) [(0, 1), (1, 1), (2, 1)] Try.underlying24 ti24 (fun w => by simp) trivial rfl rfl ?_
    refine TOps.makeInterface rfl Try.underlying45 rfl rfl ?_
    refine TOps.storeN rfl rfl ti24 rfl rfl (by repeat (first | exact Upd.here | apply Upd.there)) (by first | decide | (simp; done) | (simp; omega)) ?_
    refine TOps.storeN rfl rfl ti24 rfl rfl (by repeat (first | exact Upd.here | apply Upd.there)) (by first | decide | (simp; done) | (simp; omega)) ?_
    refine TOps.assign rfl rfl ?_
    refine TOps.next ?_
    refine Tri.ret3 (H' := H) Try.results12 (fun _ _ h => h) (.cellN rfl rfl ti24 (Rd.all (by repeat (first | exact List.Mem.head _ | apply List.Mem.tail))) rfl) (.cellN rfl rfl ti24 (Rd.all (by repeat (first | exact List.Mem.head _ | apply List.Mem.tail))) rfl) (.tmp rfl) (Le.drop (Le.drop l1)) ⟨none, 0, none, 0, [], ?_, ?_, ?_, rfl⟩
    · unfold Fm.outF Fm.inF; rw [hce]; rfl
    · unfold Fm.outF; rw [hce]; exact .inl rfl
    · unfold Fm.inF; rw [hce]; exact .inl rfl
  try simp only [decide_eq_true_eq, decide_eq_false_iff_not, Bool.and_eq_true, Bool.or_eq_true, Bool.not_eq_true', Bool.and_eq_false_iff, Bool.or_eq_false_iff, Bool.not_eq_false', Int.not_lt, Int.not_le, ne_eq, Decidable.not_not, Option.isSome_iff_ne_none, Option.isNone_iff_eq_none] at hc3
  rw [if_neg hc3] at hce0
  have g0 := hg.v0; have g1 := hg.v1; have g2 := hg.n1; have gt := hg.topLt
  obtain ⟨q, hq, rfl, hbq⟩ := Fm.needAt_iff hnd g0
  obtain ⟨v, hv⟩ := Int.eq_ofNat_of_zero_le g0
  have hvn : F.vars.toNat = v := by omega
  obtain ⟨tN, htN⟩ := Int.eq_ofNat_of_zero_le gt.1
  have htn : F.top.toNat = tN := by omega
  have hmod : F.isMod (v + q) = true := by have := hc2.1; rw [hisb, Int.toNat_natCast, hvn] at this; exact this
  rw [hvn] at hbq hce0
  rw [hvn]
  obtain ⟨P, hP⟩ : ∃ P, F.part (v + q) = P := ⟨_, rfl⟩
  obtain ⟨B, hB⟩ : ∃ B, F.part tN = B := ⟨_, rfl⟩
  have hBb : F.below = B := by rw [← hB, ← htn]; unfold Fm.part; rw [Fm.at_top hg]
  obtain ⟨m, hm⟩ : ∃ m, m = v + F.nodes.length := ⟨_, rfl⟩
  have hPl : P.length = m := by rw [← hP, F.part_length, hvn, hm]
  have hBl : B.length = m := by rw [← hB, F.part_length, hvn, hm]
  rw [hv, htN] at r1 hF0
  obtain ⟨H0, hH0⟩ : ∃ H0, H0 = row (some b5) 24 3 1 [.int .i64 0, slV none 0 0 0, .int .i64 0] :: row (some b4) 24 3 1 [.int .i64 0, slV none 0 0 0, .int .i64 0] :: H1 := ⟨_, rfl⟩
  have l0 : Le H0 H1 := by rw [hH0]; exact Le.drop (Le.drop (Le.refl _))
  rw [← hH0]
  refine Tri.fin ?_
  refine Nrm.next ?_
  refine Tri.seq ?_
  have hll : ∀ (x : Nat × Nat × Nat × Nat) (c : Nat), Le (match c with | 0 => H0 | 1 => row (some x.1) 4 1 x.2.1 (bools P) :: H0 | _ + 2 => row (some x.2.2.1) 4 1 x.2.2.2 (bools B) :: row (some x.1) 4 1 x.2.1 (bools P) :: H0) H1 := by
    intro x c
    match c with
    | 0 => exact l0
    | 1 => exact Le.drop l0
    | _ + 2 => exact Le.drop (Le.drop l0)
  refine Tri.drawX (X := Nat × Nat × Nat × Nat) rfl [(1, .int .i64 ((v + q : Nat) : Int)), (2, .pointer (some ⟨b2, 0, none⟩)), (4, .pointer (some ⟨b4, 0, none⟩)), (5, .pointer (some ⟨b5, 0, none⟩))] [] (fun x => [_, _, slV (some x.1) 0 (v + F.nodes.length) x.2.1, _, _, _, slV (some x.2.2.1) 0 (v + F.nodes.length) x.2.2.2, slV (some x.1) 0 (v + F.nodes.length) x.2.1, slV (some x.2.2.1) 0 (v + F.nodes.length) x.2.2.2]) (fun x c => match c with | 0 => H0 | 1 => row (some x.1) 4 1 x.2.1 (bools P) :: H0 | _ + 2 => row (some x.2.2.1) 4 1 x.2.2.2 (bools B) :: row (some x.1) 4 1 x.2.1 (bools P) :: H0) [2, 6] (0, 0, 0, 0) [7, 8] rfl rfl ⟨rfl, rfl, rfl, rfl, trivial⟩ trivial (by repeat (first | exact Le.refl _ | assumption | apply Le.drop)) (by
    refine ⟨?_, ?_, ?_, ?_, ?_, ?_, ?_, ?_, ?_, trivial⟩
    · refine ⟨fun x S c he hw hd hc hcu hm _ => ?_, trivial⟩
      refine TOps.loadN (he _ _ rfl) ti24 (Rd.le (by first | exact Rd.all (by repeat (first | exact List.Mem.head _ | apply List.Mem.tail)) | (repeat (first | assumption | apply Rd.up))) (hll x c)) rfl rfl ?_
      exact TOps.fin (Nrm.draw x (fun _ _ _ => rfl) rfl (by first | exact Le.refl _ | assumption | exact (by repeat (first | exact Le.refl _ | assumption | apply Le.drop))))
    · refine ⟨fun x S c he hw hd hc hcu hm _ => ?_, trivial⟩
      refine TOps.move (he _ _ rfl) rfl ?_
      exact TOps.fin (Nrm.draw x (fun _ _ _ => rfl) rfl (by first | exact Le.refl _ | assumption | exact (by repeat (first | exact Le.refl _ | assumption | apply Le.drop))))
    · refine ⟨fun x S c he hw hd hc hcu hm _ => ?_, trivial⟩
      obtain ⟨h0, h1, -⟩ := hd
      obtain rfl : c = 0 := hm rfl
      refine TOps.call (vs := [_, _]) Try.call35 ⟨h0, h1, trivial⟩ (rpb_g (hF0.le l0) hg hvn (by omega) hP) rfl ?_
      rintro _ _ ⟨b, cp, rfl, rfl⟩
      refine TOps.fin (Nrm.draw (b, cp, x.2.2) ?_ rfl (Le.refl _))
      intro j hj hcj; rcases j with _|_|_|_|_|_|_|_|_|j <;> first | rfl | exact absurd rfl hj | exact absurd hcj (by decide)
    · refine ⟨fun x S c he hw hd hc hcu hm _ => ?_, trivial⟩
      refine TOps.loadN (he _ _ rfl) ti24 (Rd.le (by first | exact Rd.all (by repeat (first | exact List.Mem.head _ | apply List.Mem.tail)) | (repeat (first | assumption | apply Rd.up))) (hll x c)) rfl rfl ?_
      exact TOps.fin (Nrm.draw x (fun _ _ _ => rfl) rfl (by first | exact Le.refl _ | assumption | exact (by repeat (first | exact Le.refl _ | assumption | apply Le.drop))))
    · refine ⟨fun x S c he hw hd hc hcu hm _ => ?_, trivial⟩
      first | refine TOps.fieldB 2 (he _ _ rfl) Try.underlying24 rfl rfl ti3 rfl rfl rfl ?_ | refine TOps.fieldN 2 (he _ _ rfl) Try.underlying24 rfl rfl ti3 rfl rfl rfl ?_
      exact TOps.fin (Nrm.draw x (fun _ _ _ => rfl) rfl (by first | exact Le.refl _ | assumption | exact (by repeat (first | exact Le.refl _ | assumption | apply Le.drop))))
    · refine ⟨fun x S c he hw hd hc hcu hm _ => ?_, trivial⟩
      obtain ⟨h4, -⟩ := hd
      refine TOps.load1 h4 ti3 (Rd.le (by first | exact Rd.lit (by repeat (first | exact List.Mem.head _ | apply List.Mem.tail)) rfl | (repeat (first | assumption | exact Rd.fld (by assumption) 2 rfl | apply Rd.up))) (hll x c)) rfl ?_
      exact TOps.fin (Nrm.draw x (fun _ _ _ => rfl) rfl (by first | exact Le.refl _ | assumption | exact (by repeat (first | exact Le.refl _ | assumption | apply Le.drop))))
    · refine ⟨fun x S c he hw hd hc hcu hm _ => ?_, trivial⟩
      obtain ⟨h3, h5, h2, -⟩ := hd
      obtain rfl : c = 1 := hm rfl
      refine TOps.call (vs := [_, _]) Try.call35 ⟨h3, h5, trivial⟩ (rpb_g (hF0.le (Le.drop l0)) hg hvn (by omega) hB) rfl ?_
      rintro _ _ ⟨b, cp, rfl, rfl⟩
      refine TOps.fin (Nrm.draw (x.1, x.2.1, b, cp) ?_ rfl (Le.refl _))
      intro j hj hcj; rcases j with _|_|_|_|_|_|_|_|_|j <;> first | rfl | exact absurd rfl hj | exact absurd hcj (by decide)
    · refine ⟨fun x S c he hw hd hc hcu hm _ => ?_, trivial⟩
      obtain ⟨h2, h6, h0, h1, _, -⟩ := hd
      refine TOps.assign h2 rfl ?_
      exact TOps.fin (Nrm.draw x (fun _ _ _ => rfl) rfl (by first | exact Le.refl _ | assumption | exact (by repeat (first | exact Le.refl _ | assumption | apply Le.drop))))
    · refine ⟨fun x S c he hw hd hc hcu hm _ => ?_, trivial⟩
      obtain ⟨h6, h7, h0, h1, h2, h3, h4, h5, _, _, -⟩ := hd
      refine TOps.assign h6 rfl ?_
      exact TOps.fin (Nrm.draw x (fun _ _ _ => rfl) rfl (by first | exact Le.refl _ | assumption | exact (by repeat (first | exact Le.refl _ | assumption | apply Le.drop))))
    ) (fun w => ?_)
  obtain ⟨H2, hH2⟩ : ∃ H2, H2 = row (some w.2.2.1) 4 1 w.2.2.2 (bools B) :: row (some w.1) 4 1 w.2.1 (bools P) :: H1 := ⟨_, rfl⟩
  subst hH0
  refine Nrm.le (H' := row (some b5) 24 3 1 [.int .i64 0, slV none 0 0 0, .int .i64 0] :: row (some b4) 24 3 1 [.int .i64 0, slV none 0 0 0, .int .i64 0] :: H2) (by subst hH2; exact (Sp.le (by repeat (first | exact Sp.refl _ | exact Sp.sub (by assumption) | refine Sp.cons (by repeat (first | exact Pick.here | apply Pick.there)) ?_ | exact Sp.nil | apply Sp.skip)))) ?_
  have rP : Rd H2 w.1 0 (bools P) := by rw [hH2]; exact Rd.all (by repeat (first | exact List.Mem.head _ | apply List.Mem.tail))
  have rB : Rd H2 w.2.2.1 0 (bools B) := by rw [hH2]; exact Rd.all (by repeat (first | exact List.Mem.head _ | apply List.Mem.tail))
  have l2 : Le H2 H1 := by rw [hH2]; exact Le.drop (Le.drop (Le.refl _))
  have s2 : H1.Sublist H2 := by rw [hH2]; exact List.Sublist.cons _ (List.Sublist.cons _ (List.Sublist.refl _))
  replace r1 := r1.le l2; replace hN := hN.le l2
  clear hll l0
  refine Nrm.next ?_
  refine Tri.seq ?_
  have hll : ∀ (x : Unit) (c : Nat), Le (match c with | 0 => row (some b5) 24 3 1 [.int .i64 0, slV none 0 0 0, .int .i64 0] :: row (some b4) 24 3 1 [.int .i64 0, slV none 0 0 0, .int .i64 0] :: H2 | 1 => row (some b5) 24 3 1 [.int .i64 v, slV none 0 0 0, .int .i64 0] :: row (some b4) 24 3 1 [.int .i64 0, slV none 0 0 0, .int .i64 0] :: H2 | _ + 2 => row (some b5) 24 3 1 [.int .i64 v, slV none 0 0 0, .int .i64 0] :: row (some b4) 24 3 1 [.int .i64 ((v + 1 : Nat) : Int), slV none 0 0 0, .int .i64 0] :: H2) H2 := by
    intro x c
    match c with
    | 0 => exact Le.drop (Le.drop (Le.refl _))
    | 1 => exact Le.drop (Le.drop (Le.refl _))
    | _ + 2 => exact Le.drop (Le.drop (Le.refl _))
  refine Tri.drawX (X := Unit) rfl [(1, .int .i64 ((v + q : Nat) : Int)), (2, .pointer (some ⟨b2, 0, none⟩)), (4, .pointer (some ⟨b4, 0, none⟩)), (5, .pointer (some ⟨b5, 0, none⟩)), (9, slV (some w.1) 0 (v + F.nodes.length) w.2.1), (10, slV (some w.2.2.1) 0 (v + F.nodes.length) w.2.2.2)] [] (fun x => [_, _, .agg (List.toArray [.int .i64 v, slV none 0 0 0, .int .i64 0]), _, _, .int .i64 ((v + 1 : Nat) : Int), .agg (List.toArray [.int .i64 ((v + 1 : Nat) : Int), slV none 0 0 0, .int .i64 0]), undef, undef]) (fun x c => match c with | 0 => row (some b5) 24 3 1 [.int .i64 0, slV none 0 0 0, .int .i64 0] :: row (some b4) 24 3 1 [.int .i64 0, slV none 0 0 0, .int .i64 0] :: H2 | 1 => row (some b5) 24 3 1 [.int .i64 v, slV none 0 0 0, .int .i64 0] :: row (some b4) 24 3 1 [.int .i64 0, slV none 0 0 0, .int .i64 0] :: H2 | _ + 2 => row (some b5) 24 3 1 [.int .i64 v, slV none 0 0 0, .int .i64 0] :: row (some b4) 24 3 1 [.int .i64 ((v + 1 : Nat) : Int), slV none 0 0 0, .int .i64 0] :: H2) [7, 8] () [] rfl rfl ⟨rfl, rfl, rfl, rfl, rfl, rfl, trivial⟩ trivial (by repeat (first | exact Le.refl _ | assumption | apply Le.drop)) (by
    refine ⟨?_, ?_, ?_, ?_, ?_, ?_, ?_, ?_, ?_, trivial⟩
    · refine ⟨fun x S c he hw hd hc hcu hm _ => ?_, trivial⟩
      refine TOps.field0 (he _ _ rfl) Try.underlying24 rfl rfl ti3 rfl rfl rfl ?_
      exact TOps.fin (Nrm.draw x (fun _ _ _ => rfl) rfl (by first | exact Le.refl _ | assumption | exact (by repeat (first | exact Le.refl _ | assumption | apply Le.drop))))
    · refine ⟨fun x S c he hw hd hc hcu hm _ => ?_, trivial⟩
      obtain ⟨h0, -⟩ := hd
      refine TOps.load1 h0 ti3 (Rd.le (by first | exact Rd.lit (by repeat (first | exact List.Mem.head _ | apply List.Mem.tail)) rfl | (repeat (first | assumption | exact Rd.fld (by assumption) 0 rfl | apply Rd.up))) (hll x c)) rfl ?_
      exact TOps.fin (Nrm.draw x (fun _ _ _ => rfl) rfl (by first | exact Le.refl _ | assumption | exact (by repeat (first | exact Le.refl _ | assumption | apply Le.drop))))
    · refine ⟨fun x S c he hw hd hc hcu hm _ => ?_, trivial⟩
      obtain ⟨h1, -⟩ := hd
      refine TOps.buildStruct (vs := [(0, _)]) (xs := [_, _, _]) [(0, 1), (1, 1), (2, 1)] Try.underlying24 ti24 (fun w => by simp) ⟨rfl, h1, trivial⟩ rfl rfl ?_
      exact TOps.fin (Nrm.draw x (fun _ _ _ => rfl) rfl (by first | exact Le.refl _ | assumption | exact (by repeat (first | exact Le.refl _ | assumption | apply Le.drop))))
    · refine ⟨fun x S c he hw hd hc hcu hm _ => ?_, trivial⟩
      refine TOps.field0 (he _ _ rfl) Try.underlying24 rfl rfl ti3 rfl rfl rfl ?_
      exact TOps.fin (Nrm.draw x (fun _ _ _ => rfl) rfl (by first | exact Le.refl _ | assumption | exact (by repeat (first | exact Le.refl _ | assumption | apply Le.drop))))
    · refine ⟨fun x S c he hw hd hc hcu hm _ => ?_, trivial⟩
      obtain ⟨h3, -⟩ := hd
      refine TOps.load1 h3 ti3 (Rd.le (by first | exact Rd.lit (by repeat (first | exact List.Mem.head _ | apply List.Mem.tail)) rfl | (repeat (first | assumption | exact Rd.fld (by assumption) 0 rfl | apply Rd.up))) (hll x c)) rfl ?_
      exact TOps.fin (Nrm.draw x (fun _ _ _ => rfl) rfl (by first | exact Le.refl _ | assumption | exact (by repeat (first | exact Le.refl _ | assumption | apply Le.drop))))
    · refine ⟨fun x S c he hw hd hc hcu hm _ => ?_, trivial⟩
      obtain ⟨h4, -⟩ := hd
      refine TOps.add (r := ((v + 1 : Nat) : Int)) h4 rfl (by rw [wrapI (by omega) (by omega)]; omega) rfl ?_
      exact TOps.fin (Nrm.draw x (fun _ _ _ => rfl) rfl (by first | exact Le.refl _ | assumption | exact (by repeat (first | exact Le.refl _ | assumption | apply Le.drop))))
    · refine ⟨fun x S c he hw hd hc hcu hm _ => ?_, trivial⟩
      obtain ⟨h5, -⟩ := hd
      refine TOps.buildStruct (vs := [(0, _)]) (xs := [_, _, _]) [(0, 1), (1, 1), (2, 1)] Try.underlying24 ti24 (fun w => by simp) ⟨rfl, h5, trivial⟩ rfl rfl ?_
      exact TOps.fin (Nrm.draw x (fun _ _ _ => rfl) rfl (by first | exact Le.refl _ | assumption | exact (by repeat (first | exact Le.refl _ | assumption | apply Le.drop))))
    · refine ⟨fun x S c he hw hd hc hcu hm _ => ?_, trivial⟩
      obtain ⟨h2, h0, h1, _, -⟩ := hd
      obtain rfl : c = 0 := hm rfl
      refine TOps.storeN (he _ _ rfl) h2 ti24 rfl rfl (by repeat (first | exact Upd.here | apply Upd.there)) (by first | decide | (simp; done) | (simp; omega)) ?_
      exact TOps.fin (Nrm.draw x (fun _ _ _ => rfl) rfl (by first | exact Le.refl _ | assumption | exact (by repeat (first | exact Le.refl _ | assumption | apply Le.drop))))
    · refine ⟨fun x S c he hw hd hc hcu hm _ => ?_, trivial⟩
      obtain ⟨h6, h7, h0, h1, h2, h3, h4, h5, _, _, -⟩ := hd
      obtain rfl : c = 1 := hm rfl
      refine TOps.storeN (he _ _ rfl) h6 ti24 rfl rfl (by repeat (first | exact Upd.here | apply Upd.there)) (by first | decide | (simp; done) | (simp; omega)) ?_
      exact TOps.fin (Nrm.draw x (fun _ _ _ => rfl) rfl (by first | exact Le.refl _ | assumption | exact (by repeat (first | exact Le.refl _ | assumption | apply Le.drop))))
    ) (fun u => ?_)
  clear hll
  refine Nrm.next ?_
  refine Tri.seq ?_
  refine Tri.drawM (X := Nat × Nat) rfl [(1, .int .i64 ((v + q : Nat) : Int)), (2, .pointer (some ⟨b2, 0, none⟩)), (4, .pointer (some ⟨b4, 0, none⟩)), (5, .pointer (some ⟨b5, 0, none⟩)), (9, slV (some w.1) 0 (v + F.nodes.length) w.2.1), (10, slV (some w.2.2.1) 0 (v + F.nodes.length) w.2.2.2)] [] (fun x => [_, _, slV (some x.1) 0 (v + F.nodes.length) (v + F.nodes.length), _, _, slV (some x.2) 0 (v + F.nodes.length) (v + F.nodes.length), slV (some x.1) 0 (v + F.nodes.length) (v + F.nodes.length), slV (some x.2) 0 (v + F.nodes.length) (v + F.nodes.length)]) (fun x D => on D [2] [] [row (some x.1) 3 1 (v + F.nodes.length) (List.replicate (v + F.nodes.length) (.int .i64 0))] ++ (on D [5] [] [row (some x.2) 3 1 (v + F.nodes.length) (List.replicate (v + F.nodes.length) (.int .i64 0))] ++ (row (some b5) 24 3 1 [.int .i64 v, slV none 0 0 0, .int .i64 0] :: row (some b4) 24 3 1 [.int .i64 ((v + 1 : Nat) : Int), slV none 0 0 0, .int .i64 0] :: H2))) [2, 5] [0, 1, 3, 0, 8, 24, 7, 127] [[], [5], [2], [2, 5]] (0, 0) [6, 7] rfl rfl (by kernel_rfl) (by kernel_rfl) ⟨rfl, rfl, rfl, rfl, rfl, rfl, trivial⟩ trivial (by repeat (first | exact Le.refl _ | assumption | apply Le.drop)) (by
    refine ⟨?_, ?_, ?_, ?_, ?_, ?_, ?_, ?_, trivial⟩
    · refine ⟨fun x S D he hw hd hD _ => ?_, trivial⟩
      refine TOps.move (he _ _ rfl) rfl ?_
      exact TOps.fin (Nrm.drawM x (fun _ _ _ => rfl) rfl (by first | exact Le.refl _ | assumption | exact (by repeat (first | exact Le.refl _ | assumption | apply Le.drop))))
    · refine ⟨fun x S D he hw hd hD _ => ?_, trivial⟩
      obtain ⟨h0, -⟩ := hd
      refine TOps.len h0 Try.underlying68 rfl ?_
      exact TOps.fin (Nrm.drawM x (fun _ _ _ => rfl) rfl (by first | exact Le.refl _ | assumption | exact (by repeat (first | exact Le.refl _ | assumption | apply Le.drop))))
    · refine ⟨fun x S D he hw hd hD _ => ?_, trivial⟩
      obtain ⟨h1, _, -⟩ := hd
      replace hD := mem_of_eq (L' := [[], [5]]) hD (by kernel_rfl)
      simp only [List.mem_cons, List.not_mem_nil, or_false] at hD
      rcases hD with rfl | rfl
      all_goals refine TOps.make1 h1 h1 Try.underlying50 ti3 (by omega) (by omega) (by omega) rfl (fun b61 => ?_)
      all_goals refine TOps.fin (Nrm.drawM (b61, x.2) ?_ rfl (Sp.le (by repeat (first | exact Sp.refl _ | exact Sp.sub (by assumption) | refine Sp.cons (by repeat (first | exact Pick.here | apply Pick.there)) ?_ | exact Sp.nil | apply Sp.skip))))
      all_goals (intro j hj hcj; rcases j with _|_|_|_|_|_|_|_|j <;> first | rfl | exact absurd rfl hj | exact absurd hcj (by decide))
    · refine ⟨fun x S D he hw hd hD _ => ?_, trivial⟩
      refine TOps.move (he _ _ rfl) rfl ?_
      exact TOps.fin (Nrm.drawM x (fun _ _ _ => rfl) rfl (by first | exact Le.refl _ | assumption | exact (by repeat (first | exact Le.refl _ | assumption | apply Le.drop))))
    · refine ⟨fun x S D he hw hd hD _ => ?_, trivial⟩
      obtain ⟨h3, -⟩ := hd
      refine TOps.len h3 Try.underlying68 rfl ?_
      exact TOps.fin (Nrm.drawM x (fun _ _ _ => rfl) rfl (by first | exact Le.refl _ | assumption | exact (by repeat (first | exact Le.refl _ | assumption | apply Le.drop))))
    · refine ⟨fun x S D he hw hd hD _ => ?_, trivial⟩
      obtain ⟨h4, _, -⟩ := hd
      replace hD := mem_of_eq (L' := [[], [2]]) hD (by kernel_rfl)
      simp only [List.mem_cons, List.not_mem_nil, or_false] at hD
      rcases hD with rfl | rfl
      all_goals refine TOps.make1 h4 h4 Try.underlying50 ti3 (by omega) (by omega) (by omega) rfl (fun b64 => ?_)
      all_goals refine TOps.fin (Nrm.drawM (x.1, b64) ?_ rfl (Sp.le (by repeat (first | exact Sp.refl _ | exact Sp.sub (by assumption) | refine Sp.cons (by repeat (first | exact Pick.here | apply Pick.there)) ?_ | exact Sp.nil | apply Sp.skip))))
      all_goals (intro j hj hcj; rcases j with _|_|_|_|_|_|_|_|j <;> first | rfl | exact absurd rfl hj | exact absurd hcj (by decide))
    · refine ⟨fun x S D he hw hd hD _ => ?_, trivial⟩
      obtain ⟨h2, h0, h1, _, -⟩ := hd
      refine TOps.assign h2 rfl ?_
      exact TOps.fin (Nrm.drawM x (fun _ _ _ => rfl) rfl (by first | exact Le.refl _ | assumption | exact (by repeat (first | exact Le.refl _ | assumption | apply Le.drop))))
    · refine ⟨fun x S D he hw hd hD _ => ?_, trivial⟩
      obtain ⟨h5, h6, h0, h1, h2, h3, h4, _, _, -⟩ := hd
      refine TOps.assign h5 rfl ?_
      exact TOps.fin (Nrm.drawM x (fun _ _ _ => rfl) rfl (by first | exact Le.refl _ | assumption | exact (by repeat (first | exact Le.refl _ | assumption | apply Le.drop))))
    ) (fun y => ?_)
  refine Nrm.le (H' := row (some y.2) 3 1 (v + F.nodes.length) (List.replicate (v + F.nodes.length) (.int .i64 0)) :: row (some y.1) 3 1 (v + F.nodes.length) (List.replicate (v + F.nodes.length) (.int .i64 0)) :: row (some b5) 24 3 1 [.int .i64 v, slV none 0 0 0, .int .i64 0] :: row (some b4) 24 3 1 [.int .i64 ((v + 1 : Nat) : Int), slV none 0 0 0, .int .i64 0] :: H2) (Sp.le (by repeat (first | exact Sp.refl _ | exact Sp.sub (by assumption) | refine Sp.cons (by repeat (first | exact Pick.here | apply Pick.there)) ?_ | exact Sp.nil | apply Sp.skip))) ?_
  refine Nrm.next ?_
  refine Tri.seq ?_
  refine Tri.seq (Tri.region ?_)
  refine TOps.field0 rfl Try.underlying24 rfl rfl ti3 rfl rfl rfl ?_
  refine TOps.load1 rfl ti3 (by first | exact Rd.lit (by repeat (first | exact List.Mem.head _ | apply List.Mem.tail)) rfl | (repeat (first | assumption | exact Rd.fld (by assumption) 0 rfl | apply Rd.up))) rfl ?_
  refine TOps.move rfl rfl ?_
  refine TOps.next ?_
  refine Tri.range (X := Unit) (fun x k => [(1, .int .i64 ((v + q : Nat) : Int)), (2, .pointer (some ⟨b2, 0, none⟩)), (4, .pointer (some ⟨b4, 0, none⟩)), (5, .pointer (some ⟨b5, 0, none⟩)), (9, slV (some w.1) 0 (v + F.nodes.length) w.2.1), (10, slV (some w.2.2.1) 0 (v + F.nodes.length) w.2.2.2), (11, slV (some y.1) 0 (v + F.nodes.length) (v + F.nodes.length)), (12, slV (some y.2) 0 (v + F.nodes.length) (v + F.nodes.length))]) (fun x k => row (some y.2) 3 1 (v + F.nodes.length) (nats (List.range k ++ List.replicate (v + F.nodes.length - k) 0)) :: row (some y.1) 3 1 (v + F.nodes.length) (nats (List.range k ++ List.replicate (v + F.nodes.length - k) 0)) :: row (some b5) 24 3 1 [.int .i64 v, slV none 0 0 0, .int .i64 0] :: row (some b4) 24 3 1 [.int .i64 ((v + 1 : Nat) : Int), slV none 0 0 0, .int .i64 0] :: H2) (fun x k => True) (by omega) rfl rfl rfl (fun _ _ => ⟨rfl, rfl, rfl, rfl⟩) () trivial ⟨rfl, rfl, rfl, rfl, rfl, rfl, rfl, rfl, trivial⟩ (Sp.le (by repeat (first | exact Sp.refl _ | exact Sp.sub (by assumption) | refine Sp.cons (by repeat (first | exact Pick.here | exact Pick.row (by simp) | apply Pick.there)) ?_ | exact Sp.nil | apply Sp.skip))) (fun k x hlt hp => ?_) (fun x ac wc hp hS hM => ?_)
  · skip
    refine Tri.seq (Tri.region ?_)
    refine TOps.move rfl rfl ?_
    refine TOps.assign rfl rfl ?_
    refine TOps.next ?_
    refine Tri.region ?_
    refine TOps.move rfl rfl ?_
    refine TOps.move rfl rfl ?_
    refine TOps.move rfl rfl ?_
    refine TOps.move rfl rfl ?_
    refine TOps.move rfl rfl ?_
    refine TOps.move rfl rfl ?_
    refine TOps.indexAddr (off' := k) rfl rfl Try.underlying50 ti3 (by omega) (by omega) (by simp) rfl ?_
    refine TOps.store1 rfl rfl ti3 rfl rfl (by repeat (first | exact Upd.here | apply Upd.there)) (by simp; omega) ?_
    refine TOps.indexAddr (off' := k) rfl rfl Try.underlying50 ti3 (by omega) (by omega) (by simp) rfl ?_
    refine TOps.store1 rfl rfl ti3 rfl rfl (by repeat (first | exact Upd.here | apply Upd.there)) (by simp; omega) ?_
    refine TOps.fin ?_
    refine Nrm.body () trivial ⟨rfl, rfl, rfl, rfl, rfl, rfl, rfl, rfl, rfl, rfl, trivial⟩ (Sp.le (by repeat (first | exact Sp.refl _ | exact Sp.sub (by assumption) | refine Sp.cons (by repeat (first | exact Pick.here | exact Pick.row (by (rw [← nats_set, setRange hlt])) | apply Pick.there)) ?_ | exact Sp.nil | apply Sp.skip)))
  have hz : nats (List.range v ++ List.replicate (v + F.nodes.length - v) 0) = nats (tab0 v F.nodes.length) := by unfold tab0; simp
  rw [hz] at hM
  have hln := fun k => cutS_len (P := P) (B := B) (v := v) (nodes := F.nodes) k
  have hCK : ∀ k, F.cutK (v + q) k = cutS P B v F.nodes k := fun k => by unfold Fm.cutK; rw [hP, hBb, hvn]
  refine Nrm.of hS hM ?_
  refine Nrm.next ?_
  refine Tri.seq ?_
  refine Tri.seq (Tri.region ?_)
  first | refine TOps.fieldB 1 rfl Try.underlying24 rfl rfl ti22 rfl rfl rfl ?_ | refine TOps.fieldN 1 rfl Try.underlying24 rfl rfl ti22 rfl rfl rfl ?_
  refine TOps.load1 rfl ti22 (by first | exact Rd.lit (by repeat (first | exact List.Mem.head _ | apply List.Mem.tail)) rfl | (repeat (first | assumption | exact Rd.fld (by assumption) 1 rfl | apply Rd.up))) rfl ?_
  refine TOps.len rfl Try.underlying22 rfl ?_
  refine TOps.move rfl rfl ?_
  refine TOps.next ?_
  refine Tri.range (X := ((Option Nat × Nat) × (Option Nat × Nat)) × (List SA × List SA) × List Ent) (fun z k => [(1, .int .i64 ((v + q : Nat) : Int)), (2, .pointer (some ⟨b2, 0, none⟩)), (4, .pointer (some ⟨b4, 0, none⟩)), (5, .pointer (some ⟨b5, 0, none⟩)), (9, slV (some w.1) 0 (v + F.nodes.length) w.2.1), (10, slV (some w.2.2.1) 0 (v + F.nodes.length) w.2.2.2), (11, slV (some y.1) 0 (v + F.nodes.length) (v + F.nodes.length)), (12, slV (some y.2) 0 (v + F.nodes.length) (v + F.nodes.length)), (80, slV na off F.nodes.length cap nsp)]) (fun z k => row (some b5) 24 3 1 [.int .i64 v, slV z.1.1.1 0 (cutS P B v F.nodes k).2.1.length z.1.1.2, .int .i64 0] :: row z.1.1.1 66 3 z.1.1.2 (nsCells (cutS P B v F.nodes k).2.1 z.2.1.1) :: row (some b4) 24 3 1 [.int .i64 ((v + 1 : Nat) : Int), slV z.1.2.1 0 (cutS P B v F.nodes k).2.2.length z.1.2.2, .int .i64 0] :: row z.1.2.1 66 3 z.1.2.2 (nsCells (cutS P B v F.nodes k).2.2 z.2.1.2) :: row (some y.2) 3 1 (v + F.nodes.length) (nats (cutS P B v F.nodes k).1.2) :: row (some y.1) 3 1 (v + F.nodes.length) (nats (cutS P B v F.nodes k).1.1) :: (z.2.2 ++ H2)) (fun z k => (ArgsIn z.2.2 (cutS P B v F.nodes k).2.1 z.2.1.1 ∧ ((cutS P B v F.nodes k).2.1 ≠ [] → ∃ b, z.1.1.1 = some b)) ∧ (ArgsIn z.2.2 (cutS P B v F.nodes k).2.2 z.2.1.2 ∧ ((cutS P B v F.nodes k).2.2 ≠ [] → ∃ b, z.1.2.1 = some b))) (by omega) rfl rfl rfl (fun _ _ => ⟨rfl, rfl, rfl, rfl⟩) (((none, 0), (none, 0)), ([], []), []) ⟨⟨ArgsIn.nil, fun h => absurd rfl h⟩, ⟨ArgsIn.nil, fun h => absurd rfl h⟩⟩ ⟨rfl, rfl, rfl, rfl, rfl, rfl, rfl, rfl, rfl, trivial⟩ (Le.addNil.trans (Le.addNil.trans (Sp.le (by repeat (first | exact Sp.refl _ | exact Sp.sub (by assumption) | refine Sp.cons (by repeat (first | exact Pick.here | apply Pick.there)) ?_ | exact Sp.nil | apply Sp.skip))))) (fun k z hlt hp => ?_) (fun z ac wc hp hS hM => ?_)
  · skip
    obtain ⟨⟨⟨oa1, oc1⟩, oa2, oc2⟩, ⟨qs1, qs2⟩, H3⟩ := z
    obtain ⟨⟨hp3, hp4⟩, hp5, hp6⟩ := hp
    dsimp only at hp3 hp4 hp5 hp6 ⊢
    have hp1 : Le (H3 ++ H2) H2 := Le.sub (List.sublist_append_right _ _)
    obtain ⟨nb, aa, ao, acap, asp, rfl, rfl, hn⟩ := hN.at hlt
    have hfi := hg.fits k hlt
    have hcells := hn.cells
    have hal := hfi.len
    have hat := hfi.args
    obtain ⟨d, hd⟩ : ∃ d, d = F.nodes[k] := ⟨_, rfl⟩
    rw [← hd] at hcells hn hal hat
    replace hcells := hcells.le hp1; replace hn := hn.le hp1
    have r1' := r1.le hp1; have rP' := rP.le hp1; have rB' := rB.le hp1
    have hst : cutS P B v F.nodes (k + 1) = (bif P.getD (v + k) false then cutIn v d k (cutS P B v F.nodes k) else bif B.getD (v + k) false then cutOut v d k (cutS P B v F.nodes k) else cutS P B v F.nodes k) := by rw [cutS, show F.nodes.getD k ⟨0, 0, []⟩ = d from by rw [hd]; simp [hlt]]
    have hlk := hln k
    generalize cutS P B v F.nodes k = s at *
    obtain ⟨⟨it, ot⟩, ni, no⟩ := s
    dsimp only at hp3 hp4 hp5 hp6 hlk ⊢
    obtain ⟨hl1, hl2, hl3, hl4⟩ := hlk
    refine Tri.seq (Tri.region ?_)
    refine TOps.move rfl rfl ?_
    refine TOps.indexAddr (off' := off + k * 3) rfl rfl Try.underlying22 ti66 (by omega) (by omega) (by simp) rfl ?_
    refine TOps.loadN (vs := [.int .i64 d.kind, .int .i64 d.k, slV aa ao d.args.length acap asp]) rfl ti66 (by repeat (first | exact hcells | apply Rd.up)) rfl rfl ?_
    refine TOps.alloc ti66 rfl (fun b15 => ?_)
    refine TOps.assign rfl rfl ?_
    refine TOps.storeN rfl rfl ti66 rfl rfl (by repeat (first | exact Upd.here | apply Upd.there)) (by first | decide | (simp; done) | (simp; omega)) ?_
    refine TOps.next ?_
    refine Tri.seq (Tri.region ?_)
    refine TOps.field0 rfl Try.underlying24 rfl rfl ti3 rfl rfl rfl ?_
    refine TOps.load1 rfl ti3 (by first | exact Rd.lit (by repeat (first | exact List.Mem.head _ | apply List.Mem.tail)) rfl | (repeat (first | assumption | exact Rd.fld (by assumption) 0 rfl | apply Rd.up))) rfl ?_
    refine TOps.move rfl rfl ?_
    refine TOps.add (r := ((v + k : Nat) : Int)) rfl rfl (by rw [wrapI (by omega) (by omega)]; omega) rfl ?_
    refine TOps.assign rfl rfl ?_
    refine TOps.next ?_
    refine Tri.block ?_
    refine Tri.seq (Tri.region ?_)
    refine TOps.move rfl rfl ?_
    refine TOps.move rfl rfl ?_
    refine TOps.indexAddr (off' := v + k) rfl rfl Try.underlying68 ti4 (by omega) (by omega) (by omega) rfl ?_
    refine TOps.load1 (v := .bool (P.getD (v + k) false)) rfl ti4 (by have := rP'.part (v + k) (bools_get (by omega)); rw [Nat.zero_add] at this; repeat (first | exact this | apply Rd.up)) rfl ?_
    refine TOps.assign rfl rfl ?_
    refine TOps.next ?_
    refine Tri.cond rfl (fun hc4 => ?_) (fun hc4 => ?_)
    · try simp only [decide_eq_true_eq, decide_eq_false_iff_not, Bool.and_eq_true, Bool.or_eq_true, Bool.not_eq_true', Bool.and_eq_false_iff, Bool.or_eq_false_iff, Bool.not_eq_false', Int.not_lt, Int.not_le, ne_eq, Decidable.not_not, Option.isSome_iff_ne_none, Option.isNone_iff_eq_none] at hc4
      refine Tri.seq (Tri.region ?_)
      refine TOps.move rfl rfl ?_
      refine TOps.move rfl rfl ?_
      refine TOps.field0 rfl Try.underlying24 rfl rfl ti3 rfl rfl rfl ?_
      refine TOps.load1 rfl ti3 (by first | exact Rd.lit (by repeat (first | exact List.Mem.head _ | apply List.Mem.tail)) rfl | (repeat (first | assumption | exact Rd.fld (by assumption) 0 rfl | apply Rd.up))) rfl ?_
      first | refine TOps.fieldB 1 rfl Try.underlying24 rfl rfl ti22 rfl rfl rfl ?_ | refine TOps.fieldN 1 rfl Try.underlying24 rfl rfl ti22 rfl rfl rfl ?_
      refine TOps.load1 rfl ti22 (by first | exact Rd.lit (by repeat (first | exact List.Mem.head _ | apply List.Mem.tail)) rfl | (repeat (first | assumption | exact Rd.fld (by assumption) 1 rfl | apply Rd.up))) rfl ?_
      refine TOps.len rfl Try.underlying22 rfl ?_
      refine TOps.add (r := ((v + ni.length : Nat) : Int)) rfl rfl (by rw [wrapI (by omega) (by omega)]; omega) rfl ?_
      refine TOps.indexAddr (off' := v + k) rfl rfl Try.underlying50 ti3 (by omega) (by omega) (by omega) rfl ?_
      refine TOps.store1 rfl rfl ti3 rfl rfl (by repeat (first | exact Upd.here | apply Upd.there)) (by simp; omega) ?_
      refine TOps.next ?_
      refine Tri.seq ?_
      obtain ⟨oa, hoa⟩ : ∃ oa, oa = oa1 := ⟨_, rfl⟩
      obtain ⟨ocap, hoc⟩ : ∃ oc, oc = oc1 := ⟨_, rfl⟩
      subst hoa hoc
      obtain ⟨CS, hCS⟩ : ∃ CS, CS = nsCells ni qs1 := ⟨_, rfl⟩
      have hcl : CS.length = ni.length * 3 := by rw [hCS, nsCells_length _ _ hp3.1]
      obtain ⟨kk, hkk⟩ : ∃ kk, kk = ni.length := ⟨_, rfl⟩
      obtain ⟨TB, hTB⟩ : ∃ TB, TB = it.set (v + k) (v + ni.length) := ⟨_, rfl⟩
      have hTl : TB.length = v + F.nodes.length := by rw [hTB, List.length_set, hl1]
      have hab : ∀ x ∈ d.args, 0 ≤ x ∧ x.toNat < TB.length := fun x hx => by have := hat x hx; omega
      have hst' : cutS P B v F.nodes (k + 1) = ((TB, ot.set (v + k) v), (ni ++ [trN TB d], no)) := by rw [hst, hc4, hTB]; rfl
      obtain ⟨HB, hHB⟩ : ∃ HB, HB = row (some b4) 24 3 1 [.int .i64 ((v + 1 : Nat) : Int), slV oa2 0 no.length oc2, .int .i64 0] :: row oa2 66 3 oc2 (nsCells no qs2) :: row (some y.2) 3 1 (v + F.nodes.length) (nats ot) :: row (some y.1) 3 1 (v + F.nodes.length) (nats TB) :: (H3 ++ H2) := ⟨_, rfl⟩
      have hBr : RInts HB aa ao d.args asp := by rw [hHB]; exact RdS.up (RdS.up (RdS.up (RdS.up hn.args)))
      have hTr : Rd HB y.1 0 (nats TB) := by rw [hHB]; exact Rd.all (by repeat (first | exact List.Mem.head _ | apply List.Mem.tail))
      refine Tri.drawX (X := OA (ints (trA TB d.args)) × Nat × Nat × Nat × Nat) rfl [(1, .int .i64 ((v + q : Nat) : Int)), (2, .pointer (some ⟨b2, 0, none⟩)), (4, .pointer (some ⟨b4, 0, none⟩)), (5, .pointer (some ⟨b5, 0, none⟩)), (9, slV (some w.1) 0 (v + F.nodes.length) w.2.1), (10, slV (some w.2.2.1) 0 (v + F.nodes.length) w.2.2.2), (11, slV (some y.1) 0 (v + F.nodes.length) (v + F.nodes.length)), (12, slV (some y.2) 0 (v + F.nodes.length) (v + F.nodes.length)), (80, slV (some nb) off F.nodes.length cap), (81, .int .i64 F.nodes.length), (82, .int .i64 k), (15, .pointer (some ⟨b15, 0, none⟩)), (16, .int .i64 ((v + k : Nat) : Int))] [] (fun x => [_, slV oa 0 kk ocap, .agg (List.toArray [.int .i64 d.kind, .int .i64 d.k, slV aa ao d.args.length acap asp]), _, .agg (List.toArray [.int .i64 d.kind, .int .i64 d.k, slV x.1.1 0 d.args.length x.2.1]), slV (some x.2.2.1) 0 1 1, slV (some x.2.2.2.1) 0 (kk + 1) x.2.2.2.2, _, undef]) (fun x c => match c with | 0 => row (some b15) 66 3 1 [.int .i64 d.kind, .int .i64 d.k, slV aa ao d.args.length acap asp] :: row (some b5) 24 3 1 [.int .i64 v, slV oa 0 kk ocap, .int .i64 0] :: row oa 66 3 ocap CS :: HB | 1 => row x.1.1 3 1 x.2.1 (ints (trA TB d.args)) :: row (some b15) 66 3 1 [.int .i64 d.kind, .int .i64 d.k, slV aa ao d.args.length acap asp] :: row (some b5) 24 3 1 [.int .i64 v, slV oa 0 kk ocap, .int .i64 0] :: row oa 66 3 ocap CS :: HB | 2 => row (some x.2.2.1) 66 3 1 [.int .i64 d.kind, .int .i64 d.k, slV x.1.1 0 d.args.length x.2.1] :: row x.1.1 3 1 x.2.1 (ints (trA TB d.args)) :: row (some b15) 66 3 1 [.int .i64 d.kind, .int .i64 d.k, slV aa ao d.args.length acap asp] :: row (some b5) 24 3 1 [.int .i64 v, slV oa 0 kk ocap, .int .i64 0] :: row oa 66 3 ocap CS :: HB | 3 => row x.1.1 3 1 x.2.1 (ints (trA TB d.args)) :: row (some b15) 66 3 1 [.int .i64 d.kind, .int .i64 d.k, slV aa ao d.args.length acap asp] :: row (some b5) 24 3 1 [.int .i64 v, slV oa 0 kk ocap, .int .i64 0] :: row (some x.2.2.2.1) 66 3 x.2.2.2.2 (CS ++ [.int .i64 d.kind, .int .i64 d.k, slV x.1.1 0 d.args.length x.2.1]) :: HB | _ + 4 => row x.1.1 3 1 x.2.1 (ints (trA TB d.args)) :: row (some b15) 66 3 1 [.int .i64 d.kind, .int .i64 d.k, slV aa ao d.args.length acap asp] :: row (some b5) 24 3 1 [.int .i64 v, slV (some x.2.2.2.1) 0 (kk + 1) x.2.2.2.2, .int .i64 0] :: row (some x.2.2.2.1) 66 3 x.2.2.2.2 (CS ++ [.int .i64 d.kind, .int .i64 d.k, slV x.1.1 0 d.args.length x.2.1]) :: HB) [4, 5, 6, 8] (OA.zero _, 0, 0, 0, 0) [] rfl rfl ⟨rfl, rfl, rfl, rfl, rfl, rfl, rfl, rfl, rfl, rfl, rfl, rfl, rfl, trivial⟩ trivial (by subst hHB hCS hkk; rw [hTB]; exact (Sp.le (by repeat (first | exact Sp.refl _ | exact Sp.sub (by assumption) | refine Sp.cons (by repeat (first | exact Pick.here | exact Pick.row (by (rw [nats_set]; done)) | apply Pick.there)) ?_ | exact Sp.nil | apply Sp.skip)))) (by
        refine ⟨?_, ?_, ?_, ?_, ?_, ?_, ?_, ?_, ?_, trivial⟩
        · refine ⟨fun x S c he hw hd hc hcu hm _ => ?_, trivial⟩
          first | refine TOps.fieldB 1 (he _ _ rfl) Try.underlying24 rfl rfl ti22 rfl rfl rfl ?_ | refine TOps.fieldN 1 (he _ _ rfl) Try.underlying24 rfl rfl ti22 rfl rfl rfl ?_
          exact TOps.fin (Nrm.draw x (fun _ _ _ => rfl) rfl (by first | exact Le.refl _ | assumption | exact (by repeat (first | exact Le.refl _ | assumption | apply Le.drop))))
        · refine ⟨fun x S c he hw hd hc hcu hm _ => ?_, trivial⟩
          obtain ⟨h0, -⟩ := hd
          rcases (show c = 0 ∨ c = 1 ∨ c = 2 by have : c ≤ 2 := hcu; omega) with rfl | rfl | rfl <;> refine TOps.load1 h0 ti22 (Rd.lit (by repeat (first | exact List.Mem.head _ | apply List.Mem.tail)) rfl) rfl ?_
          all_goals exact TOps.fin (Nrm.draw x (fun _ _ _ => rfl) rfl (Le.refl _))
        · refine ⟨fun x S c he hw hd hc hcu hm _ => ?_, trivial⟩
          obtain rfl : c = 0 := by have : c ≤ 0 := hcu; omega
          refine TOps.loadN (he _ _ rfl) ti66 (Rd.all (by repeat (first | exact List.Mem.head _ | apply List.Mem.tail))) rfl rfl ?_
          exact TOps.fin (Nrm.draw x (fun _ _ _ => rfl) rfl (by first | exact Le.refl _ | assumption | exact (by repeat (first | exact Le.refl _ | assumption | apply Le.drop))))
        · refine ⟨fun x S c he hw hd hc hcu hm _ => ?_, trivial⟩
          refine TOps.move (he _ _ rfl) rfl ?_
          exact TOps.fin (Nrm.draw x (fun _ _ _ => rfl) rfl (by first | exact Le.refl _ | assumption | exact (by repeat (first | exact Le.refl _ | assumption | apply Le.drop))))
        · refine ⟨fun x S c he hw hd hc hcu hm _ => ?_, trivial⟩
          obtain ⟨h2, h3, -⟩ := hd
          obtain rfl : c = 0 := hm rfl
          refine TOps.call (vs := [_, _]) Try.call36 ⟨h2, h3, trivial⟩ (image_g (to := TB) hTl (RdS.up (RdS.up (RdS.up hBr))) (Rd.up (Rd.up (Rd.up hTr))) (by omega) (by omega) hab) rfl ?_
          rintro _ _ ⟨a', c', rfl, h0', rfl⟩
          refine TOps.fin (Nrm.draw (⟨a', h0'⟩, c', x.2.2) ?_ rfl (Le.refl _))
          intro j hj hcj; rcases j with _|_|_|_|_|_|_|_|_|j <;> first | rfl | exact absurd rfl hj | exact absurd hcj (by decide)
        · refine ⟨fun x S c he hw hd hc hcu hm _ => ?_, trivial⟩
          obtain ⟨h4, -⟩ := hd
          obtain rfl : c = 1 := hm rfl
          refine TOps.buildSlice (vs := [_]) (xs := [_, _, _]) Try.underlying22 ti66 ⟨rfl, h4, trivial⟩ rfl rfl rfl rfl rfl rfl (by decide) rfl (fun b110 => ?_)
          refine TOps.fin (Nrm.draw (x.1, x.2.1, b110, x.2.2.2) ?_ rfl (Le.refl _))
          intro j hj hcj; rcases j with _|_|_|_|_|_|_|_|_|j <;> first | rfl | exact absurd rfl hj | exact absurd hcj (by decide)
        · refine ⟨fun x S c he hw hd hc hcu hm _ => ?_, trivial⟩
          obtain ⟨h1, h5, h4, -⟩ := hd
          obtain rfl : c = 2 := hm rfl
          refine TOps.appendLit h1 h5 Try.underlying22 ti66 rfl (fun _ _ => (by repeat (first | exact Upd.here | apply Upd.there))) rfl (by rw [hcl, hkk]) rfl (by omega) (by omega) (by simp) rfl (fun b80 cap80 => ?_)
          refine TOps.fin (Nrm.draw (x.1, x.2.1, x.2.2.1, b80, cap80) ?_ rfl (Le.refl _))
          intro j hj hcj; rcases j with _|_|_|_|_|_|_|_|_|j <;> first | rfl | exact absurd rfl hj | exact absurd hcj (by decide)
        · refine ⟨fun x S c he hw hd hc hcu hm _ => ?_, trivial⟩
          obtain ⟨h0, h1, h2, h3, h4, h5, h6, -⟩ := hd
          first | refine TOps.fieldB 1 (he _ _ rfl) Try.underlying24 rfl rfl ti22 rfl rfl rfl ?_ | refine TOps.fieldN 1 (he _ _ rfl) Try.underlying24 rfl rfl ti22 rfl rfl rfl ?_
          exact TOps.fin (Nrm.draw x (fun _ _ _ => rfl) rfl (by first | exact Le.refl _ | assumption | exact (by repeat (first | exact Le.refl _ | assumption | apply Le.drop))))
        · refine ⟨fun x S c he hw hd hc hcu hm _ => ?_, trivial⟩
          obtain ⟨h7, h6, _, h0, h1, h2, h3, h4, h5, _, -⟩ := hd
          obtain rfl : c = 3 := hm rfl
          refine TOps.store1 h7 h6 ti22 rfl rfl (by repeat (first | exact Upd.here | apply Upd.there)) (by simp) ?_
          exact TOps.fin (Nrm.draw x (fun _ _ _ => rfl) rfl (by first | exact Le.refl _ | assumption | exact (by repeat (first | exact Le.refl _ | assumption | apply Le.drop))))
        ) (fun g => ?_)
      subst hHB hkk
      obtain ⟨NX, hNX⟩ : ∃ NX : ((Option Nat × Nat) × (Option Nat × Nat)) × (List SA × List SA) × List Ent, NX = (((some g.2.2.2.1, g.2.2.2.2), (oa2, oc2)), (qs1 ++ [(g.1.1, 0, g.2.1, none)], qs2), row g.1.1 3 1 g.2.1 (ints (trA TB d.args)) :: H3) := ⟨_, rfl⟩
      have hNP : ∀ s, s = ((TB, ot.set (v + k) v), (ni ++ [trN TB d], no)) → (ArgsIn NX.2.2 s.2.1 NX.2.1.1 ∧ (s.2.1 ≠ [] → ∃ b, NX.1.1.1 = some b)) ∧ (ArgsIn NX.2.2 s.2.2 NX.2.1.2 ∧ (s.2.2 ≠ [] → ∃ b, NX.1.2.1 = some b)) := by
        rintro _ rfl
        subst hNX
        exact ⟨⟨ArgsIn.snoc (hp3.le (Le.drop (Le.refl _))) (RdS.ofRowA (List.Mem.head _) g.1.2), fun _ => ⟨_, rfl⟩⟩, hp5.le (Le.drop (Le.refl _)), hp6⟩
      refine Nrm.next ?_
      refine Tri.region ?_
      refine TOps.move rfl rfl ?_
      refine TOps.move rfl rfl ?_
      refine TOps.field0 rfl Try.underlying24 rfl rfl ti3 rfl rfl rfl ?_
      refine TOps.load1 rfl ti3 (by first | exact Rd.lit (by repeat (first | exact List.Mem.head _ | apply List.Mem.tail)) rfl | (repeat (first | assumption | exact Rd.fld (by assumption) 0 rfl | apply Rd.up))) rfl ?_
      refine TOps.indexAddr (off' := v + k) rfl rfl Try.underlying50 ti3 (by omega) (by omega) (by omega) rfl ?_
      refine TOps.store1 rfl rfl ti3 rfl rfl (by repeat (first | exact Upd.here | apply Upd.there)) (by simp; omega) ?_
      refine TOps.fin ?_
      refine Nrm.unB ?_
      refine Nrm.body NX (hNP _ hst') ⟨rfl, rfl, rfl, rfl, rfl, rfl, rfl, rfl, rfl, rfl, rfl, trivial⟩ (by subst hNX; rw [hst']; exact (Sp.le (by repeat (first | exact Sp.refl _ | exact Sp.sub (by assumption) | refine Sp.cons (by repeat (first | exact Pick.here | exact Pick.row (by first | (simp; done) | (rw [nats_set]; done) | (dsimp only; rw [nsCells_snoc _ _ _ _ hp3.1, ← hCS]; simp [ndCells, trN, trA_length]; done) | (dsimp only; rw [nsCells_snoc _ _ _ _ hp5.1, ← hCS]; simp [ndCells, trN, trA_length]; done)) | apply Pick.there)) ?_ | exact Sp.nil | apply Sp.skip))))
    try simp only [decide_eq_true_eq, decide_eq_false_iff_not, Bool.and_eq_true, Bool.or_eq_true, Bool.not_eq_true', Bool.and_eq_false_iff, Bool.or_eq_false_iff, Bool.not_eq_false', Int.not_lt, Int.not_le, ne_eq, Decidable.not_not, Option.isSome_iff_ne_none, Option.isNone_iff_eq_none] at hc4
    refine Tri.seq (Tri.region ?_)
    refine TOps.move rfl rfl ?_
    refine TOps.move rfl rfl ?_
    refine TOps.indexAddr (off' := v + k) rfl rfl Try.underlying68 ti4 (by omega) (by omega) (by omega) rfl ?_
    refine TOps.load1 (v := .bool (B.getD (v + k) false)) rfl ti4 (by have := rB'.part (v + k) (bools_get (by omega)); rw [Nat.zero_add] at this; repeat (first | exact this | apply Rd.up)) rfl ?_
    refine TOps.assign rfl rfl ?_
    refine TOps.next ?_
    refine Tri.cond rfl (fun hc5 => ?_) (fun hc5 => ?_)
    · try simp only [decide_eq_true_eq, decide_eq_false_iff_not, Bool.and_eq_true, Bool.or_eq_true, Bool.not_eq_true', Bool.and_eq_false_iff, Bool.or_eq_false_iff, Bool.not_eq_false', Int.not_lt, Int.not_le, ne_eq, Decidable.not_not, Option.isSome_iff_ne_none, Option.isNone_iff_eq_none] at hc5
      refine Tri.seq (Tri.region ?_)
      refine TOps.move rfl rfl ?_
      refine TOps.move rfl rfl ?_
      refine TOps.field0 rfl Try.underlying24 rfl rfl ti3 rfl rfl rfl ?_
      refine TOps.load1 rfl ti3 (by first | exact Rd.lit (by repeat (first | exact List.Mem.head _ | apply List.Mem.tail)) rfl | (repeat (first | assumption | exact Rd.fld (by assumption) 0 rfl | apply Rd.up))) rfl ?_
      first | refine TOps.fieldB 1 rfl Try.underlying24 rfl rfl ti22 rfl rfl rfl ?_ | refine TOps.fieldN 1 rfl Try.underlying24 rfl rfl ti22 rfl rfl rfl ?_
      refine TOps.load1 rfl ti22 (by first | exact Rd.lit (by repeat (first | exact List.Mem.head _ | apply List.Mem.tail)) rfl | (repeat (first | assumption | exact Rd.fld (by assumption) 1 rfl | apply Rd.up))) rfl ?_
      refine TOps.len rfl Try.underlying22 rfl ?_
      refine TOps.add (r := ((v + 1 + no.length : Nat) : Int)) rfl rfl (by rw [wrapI (by omega) (by omega)]; omega) rfl ?_
      refine TOps.indexAddr (off' := v + k) rfl rfl Try.underlying50 ti3 (by omega) (by omega) (by omega) rfl ?_
      refine TOps.store1 rfl rfl ti3 rfl rfl (by repeat (first | exact Upd.here | apply Upd.there)) (by simp; omega) ?_
      refine TOps.next ?_
      obtain ⟨oa, hoa⟩ : ∃ oa, oa = oa2 := ⟨_, rfl⟩
      obtain ⟨ocap, hoc⟩ : ∃ oc, oc = oc2 := ⟨_, rfl⟩
      subst hoa hoc
      obtain ⟨CS, hCS⟩ : ∃ CS, CS = nsCells no qs2 := ⟨_, rfl⟩
      have hcl : CS.length = no.length * 3 := by rw [hCS, nsCells_length _ _ hp5.1]
      obtain ⟨kk, hkk⟩ : ∃ kk, kk = no.length := ⟨_, rfl⟩
      obtain ⟨TB, hTB⟩ : ∃ TB, TB = ot.set (v + k) (v + 1 + no.length) := ⟨_, rfl⟩
      have hTl : TB.length = v + F.nodes.length := by rw [hTB, List.length_set, hl2]
      have hab : ∀ x ∈ d.args, 0 ≤ x ∧ x.toNat < TB.length := fun x hx => by have := hat x hx; omega
      have hst' : cutS P B v F.nodes (k + 1) = ((it, TB), (ni, no ++ [trN TB d])) := by rw [hst, hc4, hc5, hTB]; rfl
      obtain ⟨HB, hHB⟩ : ∃ HB, HB = row (some b5) 24 3 1 [.int .i64 v, slV oa1 0 ni.length oc1, .int .i64 0] :: row oa1 66 3 oc1 (nsCells ni qs1) :: row (some y.2) 3 1 (v + F.nodes.length) (nats TB) :: row (some y.1) 3 1 (v + F.nodes.length) (nats it) :: (H3 ++ H2) := ⟨_, rfl⟩
      have hBr : RInts HB aa ao d.args asp := by rw [hHB]; exact RdS.up (RdS.up (RdS.up (RdS.up hn.args)))
      have hTr : Rd HB y.2 0 (nats TB) := by rw [hHB]; exact Rd.all (by repeat (first | exact List.Mem.head _ | apply List.Mem.tail))
      refine Tri.drawX (X := OA (ints (trA TB d.args)) × Nat × Nat × Nat × Nat) rfl [(1, .int .i64 ((v + q : Nat) : Int)), (2, .pointer (some ⟨b2, 0, none⟩)), (4, .pointer (some ⟨b4, 0, none⟩)), (5, .pointer (some ⟨b5, 0, none⟩)), (9, slV (some w.1) 0 (v + F.nodes.length) w.2.1), (10, slV (some w.2.2.1) 0 (v + F.nodes.length) w.2.2.2), (11, slV (some y.1) 0 (v + F.nodes.length) (v + F.nodes.length)), (12, slV (some y.2) 0 (v + F.nodes.length) (v + F.nodes.length)), (80, slV (some nb) off F.nodes.length cap), (81, .int .i64 F.nodes.length), (82, .int .i64 k), (15, .pointer (some ⟨b15, 0, none⟩)), (16, .int .i64 ((v + k : Nat) : Int))] [] (fun x => [_, slV oa 0 kk ocap, .agg (List.toArray [.int .i64 d.kind, .int .i64 d.k, slV aa ao d.args.length acap asp]), _, .agg (List.toArray [.int .i64 d.kind, .int .i64 d.k, slV x.1.1 0 d.args.length x.2.1]), slV (some x.2.2.1) 0 1 1, slV (some x.2.2.2.1) 0 (kk + 1) x.2.2.2.2, _, undef]) (fun x c => match c with | 0 => row (some b15) 66 3 1 [.int .i64 d.kind, .int .i64 d.k, slV aa ao d.args.length acap asp] :: row (some b4) 24 3 1 [.int .i64 ((v + 1 : Nat) : Int), slV oa 0 kk ocap, .int .i64 0] :: row oa 66 3 ocap CS :: HB | 1 => row x.1.1 3 1 x.2.1 (ints (trA TB d.args)) :: row (some b15) 66 3 1 [.int .i64 d.kind, .int .i64 d.k, slV aa ao d.args.length acap asp] :: row (some b4) 24 3 1 [.int .i64 ((v + 1 : Nat) : Int), slV oa 0 kk ocap, .int .i64 0] :: row oa 66 3 ocap CS :: HB | 2 => row (some x.2.2.1) 66 3 1 [.int .i64 d.kind, .int .i64 d.k, slV x.1.1 0 d.args.length x.2.1] :: row x.1.1 3 1 x.2.1 (ints (trA TB d.args)) :: row (some b15) 66 3 1 [.int .i64 d.kind, .int .i64 d.k, slV aa ao d.args.length acap asp] :: row (some b4) 24 3 1 [.int .i64 ((v + 1 : Nat) : Int), slV oa 0 kk ocap, .int .i64 0] :: row oa 66 3 ocap CS :: HB | 3 => row x.1.1 3 1 x.2.1 (ints (trA TB d.args)) :: row (some b15) 66 3 1 [.int .i64 d.kind, .int .i64 d.k, slV aa ao d.args.length acap asp] :: row (some b4) 24 3 1 [.int .i64 ((v + 1 : Nat) : Int), slV oa 0 kk ocap, .int .i64 0] :: row (some x.2.2.2.1) 66 3 x.2.2.2.2 (CS ++ [.int .i64 d.kind, .int .i64 d.k, slV x.1.1 0 d.args.length x.2.1]) :: HB | _ + 4 => row x.1.1 3 1 x.2.1 (ints (trA TB d.args)) :: row (some b15) 66 3 1 [.int .i64 d.kind, .int .i64 d.k, slV aa ao d.args.length acap asp] :: row (some b4) 24 3 1 [.int .i64 ((v + 1 : Nat) : Int), slV (some x.2.2.2.1) 0 (kk + 1) x.2.2.2.2, .int .i64 0] :: row (some x.2.2.2.1) 66 3 x.2.2.2.2 (CS ++ [.int .i64 d.kind, .int .i64 d.k, slV x.1.1 0 d.args.length x.2.1]) :: HB) [4, 5, 6, 8] (OA.zero _, 0, 0, 0, 0) [] rfl rfl ⟨rfl, rfl, rfl, rfl, rfl, rfl, rfl, rfl, rfl, rfl, rfl, rfl, rfl, trivial⟩ trivial (by subst hHB hCS hkk; rw [hTB]; exact (Sp.le (by repeat (first | exact Sp.refl _ | exact Sp.sub (by assumption) | refine Sp.cons (by repeat (first | exact Pick.here | exact Pick.row (by (rw [nats_set]; done)) | apply Pick.there)) ?_ | exact Sp.nil | apply Sp.skip)))) (by
        refine ⟨?_, ?_, ?_, ?_, ?_, ?_, ?_, ?_, ?_, trivial⟩
        · refine ⟨fun x S c he hw hd hc hcu hm _ => ?_, trivial⟩
          first | refine TOps.fieldB 1 (he _ _ rfl) Try.underlying24 rfl rfl ti22 rfl rfl rfl ?_ | refine TOps.fieldN 1 (he _ _ rfl) Try.underlying24 rfl rfl ti22 rfl rfl rfl ?_
          exact TOps.fin (Nrm.draw x (fun _ _ _ => rfl) rfl (by first | exact Le.refl _ | assumption | exact (by repeat (first | exact Le.refl _ | assumption | apply Le.drop))))
        · refine ⟨fun x S c he hw hd hc hcu hm _ => ?_, trivial⟩
          obtain ⟨h0, -⟩ := hd
          rcases (show c = 0 ∨ c = 1 ∨ c = 2 by have : c ≤ 2 := hcu; omega) with rfl | rfl | rfl <;> refine TOps.load1 h0 ti22 (Rd.lit (by repeat (first | exact List.Mem.head _ | apply List.Mem.tail)) rfl) rfl ?_
          all_goals exact TOps.fin (Nrm.draw x (fun _ _ _ => rfl) rfl (Le.refl _))
        · refine ⟨fun x S c he hw hd hc hcu hm _ => ?_, trivial⟩
          obtain rfl : c = 0 := by have : c ≤ 0 := hcu; omega
          refine TOps.loadN (he _ _ rfl) ti66 (Rd.all (by repeat (first | exact List.Mem.head _ | apply List.Mem.tail))) rfl rfl ?_
          exact TOps.fin (Nrm.draw x (fun _ _ _ => rfl) rfl (by first | exact Le.refl _ | assumption | exact (by repeat (first | exact Le.refl _ | assumption | apply Le.drop))))
        · refine ⟨fun x S c he hw hd hc hcu hm _ => ?_, trivial⟩
          refine TOps.move (he _ _ rfl) rfl ?_
          exact TOps.fin (Nrm.draw x (fun _ _ _ => rfl) rfl (by first | exact Le.refl _ | assumption | exact (by repeat (first | exact Le.refl _ | assumption | apply Le.drop))))
        · refine ⟨fun x S c he hw hd hc hcu hm _ => ?_, trivial⟩
          obtain ⟨h2, h3, -⟩ := hd
          obtain rfl : c = 0 := hm rfl
          refine TOps.call (vs := [_, _]) Try.call36 ⟨h2, h3, trivial⟩ (image_g (to := TB) hTl (RdS.up (RdS.up (RdS.up hBr))) (Rd.up (Rd.up (Rd.up hTr))) (by omega) (by omega) hab) rfl ?_
          rintro _ _ ⟨a', c', rfl, h0', rfl⟩
          refine TOps.fin (Nrm.draw (⟨a', h0'⟩, c', x.2.2) ?_ rfl (Le.refl _))
          intro j hj hcj; rcases j with _|_|_|_|_|_|_|_|_|j <;> first | rfl | exact absurd rfl hj | exact absurd hcj (by decide)
        · refine ⟨fun x S c he hw hd hc hcu hm _ => ?_, trivial⟩
          obtain ⟨h4, -⟩ := hd
          obtain rfl : c = 1 := hm rfl
          refine TOps.buildSlice (vs := [_]) (xs := [_, _, _]) Try.underlying22 ti66 ⟨rfl, h4, trivial⟩ rfl rfl rfl rfl rfl rfl (by decide) rfl (fun b137 => ?_)
          refine TOps.fin (Nrm.draw (x.1, x.2.1, b137, x.2.2.2) ?_ rfl (Le.refl _))
          intro j hj hcj; rcases j with _|_|_|_|_|_|_|_|_|j <;> first | rfl | exact absurd rfl hj | exact absurd hcj (by decide)
        · refine ⟨fun x S c he hw hd hc hcu hm _ => ?_, trivial⟩
          obtain ⟨h1, h5, h4, -⟩ := hd
          obtain rfl : c = 2 := hm rfl
          refine TOps.appendLit h1 h5 Try.underlying22 ti66 rfl (fun _ _ => (by repeat (first | exact Upd.here | apply Upd.there))) rfl (by rw [hcl, hkk]) rfl (by omega) (by omega) (by simp) rfl (fun b80 cap80 => ?_)
          refine TOps.fin (Nrm.draw (x.1, x.2.1, x.2.2.1, b80, cap80) ?_ rfl (Le.refl _))
          intro j hj hcj; rcases j with _|_|_|_|_|_|_|_|_|j <;> first | rfl | exact absurd rfl hj | exact absurd hcj (by decide)
        · refine ⟨fun x S c he hw hd hc hcu hm _ => ?_, trivial⟩
          obtain ⟨h0, h1, h2, h3, h4, h5, h6, -⟩ := hd
          first | refine TOps.fieldB 1 (he _ _ rfl) Try.underlying24 rfl rfl ti22 rfl rfl rfl ?_ | refine TOps.fieldN 1 (he _ _ rfl) Try.underlying24 rfl rfl ti22 rfl rfl rfl ?_
          exact TOps.fin (Nrm.draw x (fun _ _ _ => rfl) rfl (by first | exact Le.refl _ | assumption | exact (by repeat (first | exact Le.refl _ | assumption | apply Le.drop))))
        · refine ⟨fun x S c he hw hd hc hcu hm _ => ?_, trivial⟩
          obtain ⟨h7, h6, _, h0, h1, h2, h3, h4, h5, _, -⟩ := hd
          obtain rfl : c = 3 := hm rfl
          refine TOps.store1 h7 h6 ti22 rfl rfl (by repeat (first | exact Upd.here | apply Upd.there)) (by simp) ?_
          exact TOps.fin (Nrm.draw x (fun _ _ _ => rfl) rfl (by first | exact Le.refl _ | assumption | exact (by repeat (first | exact Le.refl _ | assumption | apply Le.drop))))
        ) (fun g => ?_)
      subst hHB hkk
      obtain ⟨NX, hNX⟩ : ∃ NX : ((Option Nat × Nat) × (Option Nat × Nat)) × (List SA × List SA) × List Ent, NX = (((oa1, oc1), (some g.2.2.2.1, g.2.2.2.2)), (qs1, qs2 ++ [(g.1.1, 0, g.2.1, none)]), row g.1.1 3 1 g.2.1 (ints (trA TB d.args)) :: H3) := ⟨_, rfl⟩
      have hNP : ∀ s, s = ((it, TB), (ni, no ++ [trN TB d])) → (ArgsIn NX.2.2 s.2.1 NX.2.1.1 ∧ (s.2.1 ≠ [] → ∃ b, NX.1.1.1 = some b)) ∧ (ArgsIn NX.2.2 s.2.2 NX.2.1.2 ∧ (s.2.2 ≠ [] → ∃ b, NX.1.2.1 = some b)) := by
        rintro _ rfl
        subst hNX
        exact ⟨⟨hp3.le (Le.drop (Le.refl _)), hp4⟩, ArgsIn.snoc (hp5.le (Le.drop (Le.refl _))) (RdS.ofRowA (List.Mem.head _) g.1.2), fun _ => ⟨_, rfl⟩⟩
      refine Nrm.unB ?_
      refine Nrm.body NX (hNP _ hst') ⟨rfl, rfl, rfl, rfl, rfl, rfl, rfl, rfl, rfl, rfl, rfl, trivial⟩ (by subst hNX; rw [hst']; exact (Sp.le (by repeat (first | exact Sp.refl _ | exact Sp.sub (by assumption) | refine Sp.cons (by repeat (first | exact Pick.here | exact Pick.row (by first | (simp; done) | (rw [nats_set]; done) | (dsimp only; rw [nsCells_snoc _ _ _ _ hp3.1, ← hCS]; simp [ndCells, trN, trA_length]; done) | (dsimp only; rw [nsCells_snoc _ _ _ _ hp5.1, ← hCS]; simp [ndCells, trN, trA_length]; done)) | apply Pick.there)) ?_ | exact Sp.nil | apply Sp.skip))))
    try simp only [decide_eq_true_eq, decide_eq_false_iff_not, Bool.and_eq_true, Bool.or_eq_true, Bool.not_eq_true', Bool.and_eq_false_iff, Bool.or_eq_false_iff, Bool.not_eq_false', Int.not_lt, Int.not_le, ne_eq, Decidable.not_not, Option.isSome_iff_ne_none, Option.isNone_iff_eq_none] at hc5
    have hst' : cutS P B v F.nodes (k + 1) = ((it, ot), (ni, no)) := by rw [hst, hc4, hc5]; rfl
    obtain ⟨NX, hNX⟩ : ∃ NX : ((Option Nat × Nat) × (Option Nat × Nat)) × (List SA × List SA) × List Ent, NX = (((oa1, oc1), (oa2, oc2)), (qs1, qs2), H3) := ⟨_, rfl⟩
    have hNP : ∀ s, s = ((it, ot), (ni, no)) → (ArgsIn NX.2.2 s.2.1 NX.2.1.1 ∧ (s.2.1 ≠ [] → ∃ b, NX.1.1.1 = some b)) ∧ (ArgsIn NX.2.2 s.2.2 NX.2.1.2 ∧ (s.2.2 ≠ [] → ∃ b, NX.1.2.1 = some b)) := by
      rintro _ rfl
      subst hNX
      exact ⟨⟨hp3, hp4⟩, hp5, hp6⟩
    refine Tri.fin ?_
    refine Nrm.unB ?_
    refine Nrm.body NX (hNP _ hst') ⟨rfl, rfl, rfl, rfl, rfl, rfl, rfl, rfl, rfl, rfl, rfl, trivial⟩ (by subst hNX; rw [hst']; exact (Sp.le (by repeat (first | exact Sp.refl _ | exact Sp.sub (by assumption) | refine Sp.cons (by repeat (first | exact Pick.here | exact Pick.row (by first | (simp; done) | (rw [nats_set]; done) | (dsimp only; rw [nsCells_snoc _ _ _ _ hp3.1, ← hCS]; simp [ndCells, trN, trA_length]; done) | (dsimp only; rw [nsCells_snoc _ _ _ _ hp5.1, ← hCS]; simp [ndCells, trN, trA_length]; done)) | apply Pick.there)) ?_ | exact Sp.nil | apply Sp.skip))))
  obtain ⟨⟨⟨oa1, oc1⟩, oa2, oc2⟩, ⟨qs1, qs2⟩, H3⟩ := z
  obtain ⟨⟨hp3, hp4⟩, hp5, hp6⟩ := hp
  dsimp only at hp3 hp4 hp5 hp6 hM hS
  have hp1 : Le (H3 ++ H2) H2 := Le.sub (List.sublist_append_right _ _)
  replace r1 := r1.le hp1
  have hout : F.outF ((v + q : Nat) : Int) = ⟨((v + 1 : Nat) : Int), (cutS P B v F.nodes F.nodes.length).2.2, (((cutS P B v F.nodes F.nodes.length).1.2.getD tN 0 : Nat) : Int)⟩ := by
    unfold Fm.outF Fm.outer; rw [hce0, Int.toNat_natCast, hCK, htn, hv]; rfl
  have hin : F.inF ((v + q : Nat) : Int) = ⟨(v : Int), (cutS P B v F.nodes F.nodes.length).2.1, (((cutS P B v F.nodes F.nodes.length).1.1.getD (v + q) 0 : Nat) : Int)⟩ := by
    unfold Fm.inF Fm.inner; rw [hce0, Int.toNat_natCast, hCK, hv]; rfl
  have hlk := hln F.nodes.length
  generalize cutS P B v F.nodes F.nodes.length = s at *
  obtain ⟨⟨it, ot⟩, ni, no⟩ := s
  dsimp only at hp3 hp4 hp5 hp6 hlk hout hin hM
  obtain ⟨hl1, hl2, hl3, hl4⟩ := hlk
  refine Nrm.of hS hM ?_
  refine Nrm.next ?_
  refine Tri.seq ?_
  obtain ⟨HB, hHB⟩ : ∃ HB, HB = row oa1 66 3 oc1 (nsCells ni qs1) :: row oa2 66 3 oc2 (nsCells no qs2) :: row (some y.2) 3 1 (v + F.nodes.length) (nats ot) :: row (some y.1) 3 1 (v + F.nodes.length) (nats it) :: (H3 ++ H2) := ⟨_, rfl⟩
  have hT1 : Rd HB y.1 (v + q) [.int .i64 (it.getD (v + q) 0 : Nat)] := by rw [hHB]; exact Rd.lit (by repeat (first | exact List.Mem.head _ | apply List.Mem.tail)) (nats_get (by omega))
  have hT2 : Rd HB y.2 tN [.int .i64 (ot.getD tN 0 : Nat)] := by rw [hHB]; exact Rd.lit (by repeat (first | exact List.Mem.head _ | apply List.Mem.tail)) (nats_get (by omega))
  have hlB : Le HB (H3 ++ H2) := by rw [hHB]; exact Le.drop (Le.drop (Le.drop (Le.drop (Le.refl _))))
  have hll : ∀ (x : Unit) (c : Nat), Le (match c with | 0 => row (some b5) 24 3 1 [.int .i64 v, slV oa1 0 ni.length oc1, .int .i64 0] :: row (some b4) 24 3 1 [.int .i64 ((v + 1 : Nat) : Int), slV oa2 0 no.length oc2, .int .i64 0] :: HB | 1 => row (some b5) 24 3 1 [.int .i64 v, slV oa1 0 ni.length oc1, .int .i64 (it.getD (v + q) 0 : Nat)] :: row (some b4) 24 3 1 [.int .i64 ((v + 1 : Nat) : Int), slV oa2 0 no.length oc2, .int .i64 0] :: HB | _ + 2 => row (some b5) 24 3 1 [.int .i64 v, slV oa1 0 ni.length oc1, .int .i64 (it.getD (v + q) 0 : Nat)] :: row (some b4) 24 3 1 [.int .i64 ((v + 1 : Nat) : Int), slV oa2 0 no.length oc2, .int .i64 (ot.getD tN 0 : Nat)] :: HB) HB := by
    intro x c
    match c with
    | 0 => exact Le.drop (Le.drop (Le.refl _))
    | 1 => exact Le.drop (Le.drop (Le.refl _))
    | _ + 2 => exact Le.drop (Le.drop (Le.refl _))
  have r1B := r1.le hlB
  refine Tri.drawX (X := Unit) rfl [(1, .int .i64 ((v + q : Nat) : Int)), (2, .pointer (some ⟨b2, 0, none⟩)), (4, .pointer (some ⟨b4, 0, none⟩)), (5, .pointer (some ⟨b5, 0, none⟩)), (11, slV (some y.1) 0 (v + F.nodes.length) (v + F.nodes.length)), (12, slV (some y.2) 0 (v + F.nodes.length) (v + F.nodes.length))] [] (fun x => [_, _, _, .int .i64 (it.getD (v + q) 0 : Nat), _, _, _, _, .int .i64 (ot.getD tN 0 : Nat), _, undef, _, undef]) (fun x c => match c with | 0 => row (some b5) 24 3 1 [.int .i64 v, slV oa1 0 ni.length oc1, .int .i64 0] :: row (some b4) 24 3 1 [.int .i64 ((v + 1 : Nat) : Int), slV oa2 0 no.length oc2, .int .i64 0] :: HB | 1 => row (some b5) 24 3 1 [.int .i64 v, slV oa1 0 ni.length oc1, .int .i64 (it.getD (v + q) 0 : Nat)] :: row (some b4) 24 3 1 [.int .i64 ((v + 1 : Nat) : Int), slV oa2 0 no.length oc2, .int .i64 0] :: HB | _ + 2 => row (some b5) 24 3 1 [.int .i64 v, slV oa1 0 ni.length oc1, .int .i64 (it.getD (v + q) 0 : Nat)] :: row (some b4) 24 3 1 [.int .i64 ((v + 1 : Nat) : Int), slV oa2 0 no.length oc2, .int .i64 (ot.getD tN 0 : Nat)] :: HB) [10, 12] () [] rfl rfl ⟨rfl, rfl, rfl, rfl, rfl, rfl, trivial⟩ trivial (by subst hHB; exact (Sp.le (by repeat (first | exact Sp.refl _ | exact Sp.sub (by assumption) | refine Sp.cons (by repeat (first | exact Pick.here | apply Pick.there)) ?_ | exact Sp.nil | apply Sp.skip)))) (by
    refine ⟨?_, ?_, ?_, ?_, ?_, ?_, ?_, ?_, ?_, ?_, ?_, ?_, ?_, trivial⟩
    · refine ⟨fun x S c he hw hd hc hcu hm _ => ?_, trivial⟩
      refine TOps.move (he _ _ rfl) rfl ?_
      exact TOps.fin (Nrm.draw x (fun _ _ _ => rfl) rfl (by first | exact Le.refl _ | assumption | exact (by repeat (first | exact Le.refl _ | assumption | apply Le.drop))))
    · refine ⟨fun x S c he hw hd hc hcu hm _ => ?_, trivial⟩
      refine TOps.move (he _ _ rfl) rfl ?_
      exact TOps.fin (Nrm.draw x (fun _ _ _ => rfl) rfl (by first | exact Le.refl _ | assumption | exact (by repeat (first | exact Le.refl _ | assumption | apply Le.drop))))
    · refine ⟨fun x S c he hw hd hc hcu hm _ => ?_, trivial⟩
      obtain ⟨h0, h1, -⟩ := hd
      refine TOps.indexAddr (off' := v + q) h0 h1 Try.underlying50 ti3 (by omega) (by omega) (by omega) rfl ?_
      exact TOps.fin (Nrm.draw x (fun _ _ _ => rfl) rfl (by first | exact Le.refl _ | assumption | exact (by repeat (first | exact Le.refl _ | assumption | apply Le.drop))))
    · refine ⟨fun x S c he hw hd hc hcu hm _ => ?_, trivial⟩
      obtain ⟨h2, -⟩ := hd
      refine TOps.load1 h2 ti3 (hT1.le (hll x c)) rfl ?_
      exact TOps.fin (Nrm.draw x (fun _ _ _ => rfl) rfl (by first | exact Le.refl _ | assumption | exact (by repeat (first | exact Le.refl _ | assumption | apply Le.drop))))
    · refine ⟨fun x S c he hw hd hc hcu hm _ => ?_, trivial⟩
      refine TOps.move (he _ _ rfl) rfl ?_
      exact TOps.fin (Nrm.draw x (fun _ _ _ => rfl) rfl (by first | exact Le.refl _ | assumption | exact (by repeat (first | exact Le.refl _ | assumption | apply Le.drop))))
    · refine ⟨fun x S c he hw hd hc hcu hm _ => ?_, trivial⟩
      first | refine TOps.fieldB 2 (he _ _ rfl) Try.underlying24 rfl rfl ti3 rfl rfl rfl ?_ | refine TOps.fieldN 2 (he _ _ rfl) Try.underlying24 rfl rfl ti3 rfl rfl rfl ?_
      exact TOps.fin (Nrm.draw x (fun _ _ _ => rfl) rfl (by first | exact Le.refl _ | assumption | exact (by repeat (first | exact Le.refl _ | assumption | apply Le.drop))))
    · refine ⟨fun x S c he hw hd hc hcu hm _ => ?_, trivial⟩
      obtain ⟨h5, -⟩ := hd
      refine TOps.load1 h5 ti3 (Rd.le (by first | exact Rd.lit (by repeat (first | exact List.Mem.head _ | apply List.Mem.tail)) rfl | (repeat (first | assumption | exact Rd.fld (by assumption) 2 rfl | apply Rd.up))) (hll x c)) rfl ?_
      exact TOps.fin (Nrm.draw x (fun _ _ _ => rfl) rfl (by first | exact Le.refl _ | assumption | exact (by repeat (first | exact Le.refl _ | assumption | apply Le.drop))))
    · refine ⟨fun x S c he hw hd hc hcu hm _ => ?_, trivial⟩
      obtain ⟨h4, h6, -⟩ := hd
      refine TOps.indexAddr (off' := tN) h4 h6 Try.underlying50 ti3 (by omega) (by omega) (by omega) rfl ?_
      exact TOps.fin (Nrm.draw x (fun _ _ _ => rfl) rfl (by first | exact Le.refl _ | assumption | exact (by repeat (first | exact Le.refl _ | assumption | apply Le.drop))))
    · refine ⟨fun x S c he hw hd hc hcu hm _ => ?_, trivial⟩
      obtain ⟨h7, -⟩ := hd
      refine TOps.load1 h7 ti3 (hT2.le (hll x c)) rfl ?_
      exact TOps.fin (Nrm.draw x (fun _ _ _ => rfl) rfl (by first | exact Le.refl _ | assumption | exact (by repeat (first | exact Le.refl _ | assumption | apply Le.drop))))
    · refine ⟨fun x S c he hw hd hc hcu hm _ => ?_, trivial⟩
      obtain ⟨h0, h1, h2, h3, -⟩ := hd
      first | refine TOps.fieldB 2 (he _ _ rfl) Try.underlying24 rfl rfl ti3 rfl rfl rfl ?_ | refine TOps.fieldN 2 (he _ _ rfl) Try.underlying24 rfl rfl ti3 rfl rfl rfl ?_
      exact TOps.fin (Nrm.draw x (fun _ _ _ => rfl) rfl (by first | exact Le.refl _ | assumption | exact (by repeat (first | exact Le.refl _ | assumption | apply Le.drop))))
    · refine ⟨fun x S c he hw hd hc hcu hm _ => ?_, trivial⟩
      obtain ⟨h9, h3, h0, h1, h2, _, -⟩ := hd
      obtain rfl : c = 0 := hm rfl
      refine TOps.store1 h9 h3 ti3 rfl rfl (by repeat (first | exact Upd.here | apply Upd.there)) (by first | decide | (simp; done) | (simp; omega) | exact (show (2 : Nat) < 3 by decide)) ?_
      exact TOps.fin (Nrm.draw x (fun _ _ _ => rfl) rfl (by first | exact Le.refl _ | assumption | exact (by repeat (first | exact Le.refl _ | assumption | apply Le.drop))))
    · refine ⟨fun x S c he hw hd hc hcu hm _ => ?_, trivial⟩
      obtain ⟨h0, h1, h2, h3, h4, h5, h6, h7, h8, h9, h10, -⟩ := hd
      first | refine TOps.fieldB 2 (he _ _ rfl) Try.underlying24 rfl rfl ti3 rfl rfl rfl ?_ | refine TOps.fieldN 2 (he _ _ rfl) Try.underlying24 rfl rfl ti3 rfl rfl rfl ?_
      exact TOps.fin (Nrm.draw x (fun _ _ _ => rfl) rfl (by first | exact Le.refl _ | assumption | exact (by repeat (first | exact Le.refl _ | assumption | apply Le.drop))))
    · refine ⟨fun x S c he hw hd hc hcu hm _ => ?_, trivial⟩
      obtain ⟨h11, h8, h10, h0, h1, h2, h3, h4, h5, h6, h7, _, h9, _, -⟩ := hd
      obtain rfl : c = 1 := hm rfl
      refine TOps.store1 h11 h8 ti3 rfl rfl (by repeat (first | exact Upd.here | apply Upd.there)) (by first | decide | (simp; done) | (simp; omega) | exact (show (2 : Nat) < 3 by decide)) ?_
      exact TOps.fin (Nrm.draw x (fun _ _ _ => rfl) rfl (by first | exact Le.refl _ | assumption | exact (by repeat (first | exact Le.refl _ | assumption | apply Le.drop))))
    ) (fun u2 => ?_)
  refine Nrm.next ?_
  refine Tri.seq ?_
  refine Tri.drawX (X := Unit) rfl [(4, .pointer (some ⟨b4, 0, none⟩)), (5, .pointer (some ⟨b5, 0, none⟩))] [] (fun x => [.agg (List.toArray [.int .i64 ((v + 1 : Nat) : Int), slV oa2 0 no.length oc2, .int .i64 (ot.getD tN 0 : Nat)]), .agg (List.toArray [.int .i64 v, slV oa1 0 ni.length oc1, .int .i64 (it.getD (v + q) 0 : Nat)]), undef, undef, _]) (fun x c => row (some b5) 24 3 1 [.int .i64 v, slV oa1 0 ni.length oc1, .int .i64 (it.getD (v + q) 0 : Nat)] :: row (some b4) 24 3 1 [.int .i64 ((v + 1 : Nat) : Int), slV oa2 0 no.length oc2, .int .i64 (ot.getD tN 0 : Nat)] :: HB) [2, 3] () [4] rfl rfl ⟨rfl, rfl, trivial⟩ trivial (by repeat (first | exact Le.refl _ | assumption | apply Le.drop)) (by
    refine ⟨?_, ?_, ?_, ?_, ?_, trivial⟩
    · refine ⟨fun x S c he hw hd hc hcu hm _ => ?_, trivial⟩
      refine TOps.loadN (he _ _ rfl) ti24 (by first | exact Rd.all (by repeat (first | exact List.Mem.head _ | apply List.Mem.tail)) | (repeat (first | assumption | apply Rd.up))) rfl rfl ?_
      exact TOps.fin (Nrm.draw x (fun _ _ _ => rfl) rfl (by first | exact Le.refl _ | assumption | exact (by repeat (first | exact Le.refl _ | assumption | apply Le.drop))))
    · refine ⟨fun x S c he hw hd hc hcu hm _ => ?_, trivial⟩
      refine TOps.loadN (he _ _ rfl) ti24 (by first | exact Rd.all (by repeat (first | exact List.Mem.head _ | apply List.Mem.tail)) | (repeat (first | assumption | apply Rd.up))) rfl rfl ?_
      exact TOps.fin (Nrm.draw x (fun _ _ _ => rfl) rfl (by first | exact Le.refl _ | assumption | exact (by repeat (first | exact Le.refl _ | assumption | apply Le.drop))))
    · refine ⟨fun x S c he hw hd hc hcu hm _ => ?_, trivial⟩
      obtain ⟨h0, _, -⟩ := hd
      obtain rfl : c = 0 := hm rfl
      refine TOps.storeN (he _ _ rfl) h0 ti24 rfl rfl (by repeat (first | exact Upd.here | apply Upd.there)) (by first | decide | (simp; done) | (simp; omega)) ?_
      exact TOps.fin (Nrm.draw x (fun _ _ _ => rfl) rfl (by first | exact Le.refl _ | assumption | exact (by repeat (first | exact Le.refl _ | assumption | apply Le.drop))))
    · refine ⟨fun x S c he hw hd hc hcu hm _ => ?_, trivial⟩
      obtain ⟨h1, h2, h0, _, _, -⟩ := hd
      obtain rfl : c = 1 := hm rfl
      refine TOps.storeN (he _ _ rfl) h1 ti24 rfl rfl (by repeat (first | exact Upd.here | apply Upd.there)) (by first | decide | (simp; done) | (simp; omega)) ?_
      exact TOps.fin (Nrm.draw x (fun _ _ _ => rfl) rfl (by first | exact Le.refl _ | assumption | exact (by repeat (first | exact Le.refl _ | assumption | apply Le.drop))))
    · refine ⟨fun x S c he hw hd hc hcu hm _ => ?_, trivial⟩
      obtain ⟨h3, h0, h1, h2, _, -⟩ := hd
      refine TOps.assign rfl rfl ?_
      exact TOps.fin (Nrm.draw x (fun _ _ _ => rfl) rfl (by first | exact Le.refl _ | assumption | exact (by repeat (first | exact Le.refl _ | assumption | apply Le.drop))))
    ) (fun u3 => ?_)
  refine Nrm.next ?_
  subst hHB
  refine Tri.ret3 (H' := (row oa1 66 3 oc1 (nsCells ni qs1) :: row oa2 66 3 oc2 (nsCells no qs2) :: H3) ++ H) Try.results12 (fun _ _ h => h) (.cellN rfl rfl ti24 (Rd.all (by repeat (first | exact List.Mem.head _ | apply List.Mem.tail))) rfl) (.cellN rfl rfl ti24 (Rd.all (by repeat (first | exact List.Mem.head _ | apply List.Mem.tail))) rfl) (.tmp rfl) ?_ ⟨oa2, oc2, oa1, oc1, row oa1 66 3 oc1 (nsCells ni qs1) :: row oa2 66 3 oc2 (nsCells no qs2) :: H3, ?_, ?_, ?_, rfl⟩
  · exact Le.sub (List.Sublist.cons _ (List.Sublist.cons _ (List.Sublist.cons_cons _ (List.Sublist.cons_cons _ (List.Sublist.cons _ (List.Sublist.cons _ (List.Sublist.append_left (s1.trans s2) _)))))))
  · rw [hout, hin, hce0]; rfl
  · rw [hout]; exact RNodes.ofA (E := 66) (sz := 3) (cap := oc2) (by repeat (first | exact List.Mem.head _ | apply List.Mem.tail)) (hp5.le (Le.drop (Le.drop (Le.refl _)))) hp6
  · rw [hin]; exact RNodes.ofA (E := 66) (sz := 3) (cap := oc1) (by repeat (first | exact List.Mem.head _ | apply List.Mem.tail)) (hp3.le (Le.drop (Le.drop (Le.refl _)))) hp4
theorem cut_g {H : List Ent} {fv : Value} {F : Fm} (hF : RF H fv F) (hk : F.ok) (arg : Int) (ha : I64 arg) :
    Gives Try.prog 12 [fv, .int .i64 arg] H (fun u H' => ∃ x y, u = .tuple (List.toArray [x, y, errV 45 (F.cutErr arg)]) ∧ Le H' H ∧ H.Sublist H' ∧ RF H' x (F.outF arg) ∧ RF H' y (F.inF arg)) := by
  intro w hM
  refine (cutN_g hF hk arg ha w hM).mono fun e W' h => ?_
  obtain ⟨v, H', ⟨a1, c1, a2, c2, N, h1, h2, h3, h4⟩, h5, h6⟩ := h
  subst h4
  exact ⟨v, N ++ H, ⟨_, _, h1, Le.sub (List.sublist_append_right _ _), List.sublist_append_right _ _, ⟨a1, 0, c1, none, rfl, h2.le (Le.sub (List.sublist_append_left _ _))⟩, ⟨a2, 0, c2, none, rfl, h3.le (Le.sub (List.sublist_append_left _ _))⟩⟩, h5, h6⟩
end Go.Proofs
