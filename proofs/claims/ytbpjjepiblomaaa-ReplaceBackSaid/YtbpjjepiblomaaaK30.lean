import Derived.Test.YtbpjjepiblomaaaJ30
import Derived.Test.YtbpjjepiblomaaaGL54
namespace Go.Proofs
open Go.GL
set_option linter.unusedVariables false
set_option linter.unusedSimpArgs false
theorem rneed2_g {H : List Ent} {fv : Value} {F : Fm} (hF : RF H fv F) (hk : F.ok) (hg : F.Good) (arg : Int) (ha : I64 arg) :
    Gives Try.prog 39 [fv, .int .i64 arg] H (R1 (.bool (F.needAt arg)) H) := rneeded_g hF hk hg arg ha
theorem rbl2_g {H : List Ent} {fv : Value} {F : Fm} (hF : RF H fv F) (hk : F.ok) (hg : F.Good) {v : Nat} (hv : F.vars.toNat = v) {L : List Bool} (hL : F.below = L) :
    Gives Try.prog 41 [fv] H (fun u H' => ∃ b cap, u = slV (some b) 0 (v + F.nodes.length) cap ∧ row (some b) 4 1 cap (bools L) :: H = H') := by
  subst hv hL
  exact rbelow_g hF hk hg
theorem run2_g {H : List Ent} {fv : Value} {F : Fm} (hF : RF H fv F) (hg : F.Good) {v t : Nat} (hv : F.vars.toNat = v) (ht : t < v + F.nodes.length) {L : List Bool} (hL : F.under t = L) :
    Gives Try.prog 42 [fv, .int .i64 t] H (fun u H' => ∃ b cap, u = slV (some b) 0 (v + F.nodes.length) cap ∧ row (some b) 4 1 cap (bools L) :: H = H') := by
  subst hv hL
  exact runder_g hF hg t ht
theorem rcutN_g {H : List Ent} {fv : Value} {F : Fm} (hF : RF H fv F) (hk : F.ok) (hg : F.Good) (arg : Int) (ha : I64 arg) :
    Gives Try.prog 16 [fv, .int .i64 arg] H (fun u H' => ∃ a1 c1 a2 c2 N, u = .tuple (List.toArray [.agg (List.toArray [.int .i64 (F.outF arg).vars, slV a1 0 (F.outF arg).nodes.length c1, .int .i64 (F.outF arg).top]), .agg (List.toArray [.int .i64 (F.inF arg).vars, slV a2 0 (F.inF arg).nodes.length c2, .int .i64 (F.inF arg).top]), .int .i64 ((F.cutErr arg).getD 0)]) ∧ RNodes N a1 0 (F.outF arg).nodes ∧ RNodes N a2 0 (F.inF arg).nodes ∧ N ++ H = H') := by
  have hF0 := hF
  obtain ⟨na, off, cap, nsp, rfl, hN⟩ := hF
  have hen := (Fm.good_iff F).2 hg
  have g0 := hg.v0; have g1 := hg.v1; have g2 := hg.n1; have gt := hg.topLt
  refine Gives.enter Try.func16 rfl (by exact Try.ntmps16) rfl ?_
  refine Tri.seq (Tri.region ?_)
  refine TOps.boxN rfl ti24 rfl rfl (fun b2 => ?_)
  refine TOps.hide (fun H1 l1 s1 r1 => ?_)
  replace hF0 := hF0.le l1; replace hN := hN.le l1
  refine TOps.alloc ti24 rfl (fun b4 => ?_)
  refine TOps.alloc ti24 rfl (fun b5 => ?_)
  refine TOps.assign rfl rfl ?_
  refine TOps.next ?_
  refine Tri.seq ?_
  refine Tri.seq (Tri.region ?_)
  refine TOps.loadN rfl ti24 (by first | exact Rd.all (by repeat (first | exact List.Mem.head _ | apply List.Mem.tail)) | (repeat (first | assumption | apply Rd.up))) rfl rfl ?_
  refine TOps.move rfl rfl ?_
  refine TOps.call (vs := [_, _]) Try.call39 ⟨rfl, rfl, trivial⟩ (rneed2_g (hF0.le (Le.drop (Le.drop (Le.refl _)))) hk hg arg ha) rfl ?_
  rintro _ _ ⟨rfl, rfl⟩
  refine TOps.not rfl rfl ?_
  refine TOps.next ?_
  refine Tri.cond rfl (fun hc1 => ?_) (fun hc1 => ?_)
  · try simp only [decide_eq_true_eq, decide_eq_false_iff_not, Bool.and_eq_true, Bool.or_eq_true, Bool.not_eq_true', Bool.and_eq_false_iff, Bool.or_eq_false_iff, Bool.not_eq_false', Int.not_lt, Int.not_le, ne_eq, Decidable.not_not, Option.isSome_iff_ne_none, Option.isNone_iff_eq_none] at hc1
    have hce : F.cutErr arg = some 10 := by unfold Fm.cutErr Fm.isErr; rw [hen, hc1]; rfl
    refine Tri.seq (Tri.region ?_)
    refine TOps.buildStruct (vs := []) (xs := [_, _, _]) [(0, 1), (1, 1), (2, 1)] Try.underlying24 ti24 (fun w => by simp) trivial rfl rfl ?_
    refine TOps.buildStruct (vs := []) (xs := [_, _, _]) [(0, 1), (1, 1), (2, 1)] Try.underlying24 ti24 (fun w => by simp) trivial rfl rfl ?_
    refine TOps.storeN rfl rfl ti24 rfl rfl (by repeat (first | exact Upd.here | apply Upd.there)) (by first | decide | (simp; done) | (simp; omega)) ?_
    refine TOps.storeN rfl rfl ti24 rfl rfl (by repeat (first | exact Upd.here | apply Upd.there)) (by first | decide | (simp; done) | (simp; omega)) ?_
    refine TOps.assign rfl rfl ?_
    refine TOps.next ?_
    refine Tri.ret3 (H' := H) Try.results16 (fun _ _ h => h) (.cellN rfl rfl ti24 (Rd.all (by repeat (first | exact List.Mem.head _ | apply List.Mem.tail))) rfl) (.cellN rfl rfl ti24 (Rd.all (by repeat (first | exact List.Mem.head _ | apply List.Mem.tail))) rfl) (.tmp rfl) (Le.drop (Le.drop l1)) ⟨none, 0, none, 0, [], ?_, ?_, ?_, rfl⟩
    · unfold Fm.outF Fm.inF; rw [hce]; rfl
    · unfold Fm.outF; rw [hce]; exact .inl rfl
    · unfold Fm.inF; rw [hce]; exact .inl rfl
  try simp only [decide_eq_true_eq, decide_eq_false_iff_not, Bool.and_eq_true, Bool.or_eq_true, Bool.not_eq_true', Bool.and_eq_false_iff, Bool.or_eq_false_iff, Bool.not_eq_false', Int.not_lt, Int.not_le, ne_eq, Decidable.not_not, Option.isSome_iff_ne_none, Option.isNone_iff_eq_none] at hc1
  have hnd : F.needAt arg = true := hc1
  have hce0 : F.cutErr arg = if F.isB arg = false ∨ arg = F.top then some 7 else if F.vars = 24 then some 4 else none := by unfold Fm.cutErr Fm.isErr; rw [hen, hnd]; rfl
  have hisb : F.isB arg = F.isMod arg.toNat := by unfold Fm.isB; rw [hen, hnd]; rfl
  obtain ⟨q, hq, rfl, hbq⟩ := Fm.needAt_iff hnd g0
  obtain ⟨v, hv⟩ := Int.eq_ofNat_of_zero_le g0
  have hvn : F.vars.toNat = v := by omega
  obtain ⟨tN, htN⟩ := Int.eq_ofNat_of_zero_le gt.1
  have htn : F.top.toNat = tN := by omega
  rw [hisb, Int.toNat_natCast] at hce0
  rw [hvn] at hbq hce0
  rw [hvn]
  rw [hv, htN] at r1 hF0
  refine Tri.fin ?_
  refine Nrm.next ?_
  refine Tri.seq ?_
  refine Tri.seq (Tri.region ?_)
  refine TOps.loadN rfl ti24 (by first | exact Rd.all (by repeat (first | exact List.Mem.head _ | apply List.Mem.tail)) | (repeat (first | assumption | apply Rd.up))) rfl rfl ?_
  refine TOps.move rfl rfl ?_
  refine TOps.call (vs := [_, _]) Try.call40 ⟨rfl, rfl, trivial⟩ (ris_g (hF0.le (Le.drop (Le.drop (Le.refl _)))) hg hk q hq hvn) rfl ?_
  rintro _ _ ⟨rfl, rfl⟩
  refine TOps.not rfl rfl ?_
  refine TOps.move rfl rfl ?_
  refine' TOps.orB 4 rfl rfl rfl rfl (fun hg3_4 => ?_) ?_; rotate_left
  · have hg3_4' := hg3_4
    try simp only [decide_eq_true_eq, decide_eq_false_iff_not, Bool.and_eq_true, Bool.or_eq_true, Bool.not_eq_true', Bool.and_eq_false_iff, Bool.or_eq_false_iff, Bool.not_eq_false', Int.not_lt, Int.not_le, ne_eq, Decidable.not_not] at hg3_4'
    refine TOps.strip 4 false rfl rfl hg3_4 rfl ?_
    refine TOps.move rfl rfl ?_
    first | refine TOps.fieldB 2 rfl Try.underlying24 rfl rfl ti3 rfl rfl rfl ?_ | refine TOps.fieldN 2 rfl Try.underlying24 rfl rfl ti3 rfl rfl rfl ?_
    refine TOps.load1 rfl ti3 (by first | exact Rd.lit (by repeat (first | exact List.Mem.head _ | apply List.Mem.tail)) rfl | (repeat (first | assumption | exact Rd.fld (by assumption) 2 rfl | apply Rd.up))) rfl ?_
    refine TOps.eqlI rfl rfl rfl ?_
    refine TOps.blk rfl (by repeat (first | exact Ext.refl _ | refine Ext.cons rfl ?_)) (by repeat (first | exact Le.refl _ | apply Le.drop))
  refine TOps.next ?_
  refine Tri.cond rfl (fun hc2 => ?_) (fun hc2 => ?_)
  · try simp only [decide_eq_true_eq, decide_eq_false_iff_not, Bool.and_eq_true, Bool.or_eq_true, Bool.not_eq_true', Bool.and_eq_false_iff, Bool.or_eq_false_iff, Bool.not_eq_false', Int.not_lt, Int.not_le, ne_eq, Decidable.not_not, Option.isSome_iff_ne_none, Option.isNone_iff_eq_none] at hc2
    have hce : F.cutErr ((v + q : Nat) : Int) = some 7 := by rw [hce0, if_pos (by rw [htN]; exact hc2)]
    refine Tri.seq (Tri.region ?_)
    refine TOps.buildStruct (vs := []) (xs := [_, _, _]) [(0, 1), (1, 1), (2, 1)] Try.underlying24 ti24 (fun w => by simp) trivial rfl rfl ?_
    refine TOps.buildStruct (vs := []) (xs := [_, _, _]) [(0, 1), (1, 1), (2, 1)] Try.underlying24 ti24 (fun w => by simp) trivial rfl rfl ?_
    refine TOps.storeN rfl rfl ti24 rfl rfl (by repeat (first | exact Upd.here | apply Upd.there)) (by first | decide | (simp; done) | (simp; omega)) ?_
    refine TOps.storeN rfl rfl ti24 rfl rfl (by repeat (first | exact Upd.here | apply Upd.there)) (by first | decide | (simp; done) | (simp; omega)) ?_
    refine TOps.assign rfl rfl ?_
    refine TOps.next ?_
    refine Tri.ret3 (H' := H) Try.results16 (fun _ _ h => h) (.cellN rfl rfl ti24 (Rd.all (by repeat (first | exact List.Mem.head _ | apply List.Mem.tail))) rfl) (.cellN rfl rfl ti24 (Rd.all (by repeat (first | exact List.Mem.head _ | apply List.Mem.tail))) rfl) (.tmp rfl) (Le.drop (Le.drop l1)) ⟨none, 0, none, 0, [], ?_, ?_, ?_, rfl⟩
    · unfold Fm.outF Fm.inF; rw [hce]; rfl
    · unfold Fm.outF; rw [hce]; exact .inl rfl
    · unfold Fm.inF; rw [hce]; exact .inl rfl
  try simp only [decide_eq_true_eq, decide_eq_false_iff_not, Bool.and_eq_true, Bool.or_eq_true, Bool.not_eq_true', Bool.and_eq_false_iff, Bool.or_eq_false_iff, Bool.not_eq_false', Int.not_lt, Int.not_le, ne_eq, Decidable.not_not, Option.isSome_iff_ne_none, Option.isNone_iff_eq_none] at hc2
  rw [if_neg (fun h => by rcases h with h | h; (rw [hc2.1] at h; cases h); (rw [htN] at h; exact hc2.2 h))] at hce0
  refine Tri.fin ?_
  refine Nrm.next ?_
  refine Tri.seq ?_
  refine Tri.seq (Tri.region ?_)
  refine TOps.field0 rfl Try.underlying24 rfl rfl ti3 rfl rfl rfl ?_
  refine TOps.load1 rfl ti3 (by first | exact Rd.lit (by repeat (first | exact List.Mem.head _ | apply List.Mem.tail)) rfl | (repeat (first | assumption | exact Rd.fld (by assumption) 0 rfl | apply Rd.up))) rfl ?_
  refine TOps.eqlI rfl rfl rfl ?_
  refine TOps.next ?_
  refine Tri.cond rfl (fun hc3 => ?_) (fun hc3 => ?_)
  · try simp only [decide_eq_true_eq, decide_eq_false_iff_not, Bool.and_eq_true, Bool.or_eq_true, Bool.not_eq_true', Bool.and_eq_false_iff, Bool.or_eq_false_iff, Bool.not_eq_false', Int.not_lt, Int.not_le, ne_eq, Decidable.not_not, Option.isSome_iff_ne_none, Option.isNone_iff_eq_none] at hc3
    have hce : F.cutErr ((v + q : Nat) : Int) = some 4 := by rw [hce0, if_pos (by rw [hv]; exact hc3)]
    refine Tri.seq (Tri.region ?_)
    refine TOps.buildStruct (vs := []) (xs := [_, _, _]) [(0, 1), (1, 1), (2, 1)] Try.underlying24 ti24 (fun w => by simp) trivial rfl rfl ?_
    refine TOps.buildStruct (vs := []) (xs := [_, _, _]) [(0, 1), (1, 1), (2, 1)] Try.underlying24 ti24 (fun w => by simp) trivial rfl rfl ?_
    refine TOps.storeN rfl rfl ti24 rfl rfl (by repeat (first | exact Upd.here | apply Upd.there)) (by first | decide | (simp; done) | (simp; omega)) ?_
    refine TOps.storeN rfl rfl ti24 rfl rfl (by repeat (first | exact Upd.here | apply Upd.there)) (by first | decide | (simp; done) | (simp; omega)) ?_
    refine TOps.assign rfl rfl ?_
    refine TOps.next ?_
    refine Tri.ret3 (H' := H) Try.results16 (fun _ _ h => h) (.cellN rfl rfl ti24 (Rd.all (by repeat (first | exact List.Mem.head _ | apply List.Mem.tail))) rfl) (.cellN rfl rfl ti24 (Rd.all (by repeat (first | exact List.Mem.head _ | apply List.Mem.tail))) rfl) (.tmp rfl) (Le.drop (Le.drop l1)) ⟨none, 0, none, 0, [], ?_, ?_, ?_, rfl⟩
    · unfold Fm.outF Fm.inF; rw [hce]; rfl
    · unfold Fm.outF; rw [hce]; exact .inl rfl
    · unfold Fm.inF; rw [hce]; exact .inl rfl
  try simp only [decide_eq_true_eq, decide_eq_false_iff_not, Bool.and_eq_true, Bool.or_eq_true, Bool.not_eq_true', Bool.and_eq_false_iff, Bool.or_eq_false_iff, Bool.not_eq_false', Int.not_lt, Int.not_le, ne_eq, Decidable.not_not, Option.isSome_iff_ne_none, Option.isNone_iff_eq_none] at hc3
  rw [if_neg (by rw [hv]; exact hc3)] at hce0
  have hmod : F.isMod (v + q) = true := hc2.1
  obtain ⟨U, hU⟩ : ∃ U, F.under (v + q) = U := ⟨_, rfl⟩
  obtain ⟨B, hB⟩ : ∃ B, F.below = B := ⟨_, rfl⟩
  have hUl : U.length = v + F.nodes.length := by rw [← hU, F.under_length, hvn]
  have hBl : B.length = v + F.nodes.length := by rw [← hB, F.below_length, hvn]
  obtain ⟨KI, hKI⟩ : ∃ KI, F.keepIn (v + q) = KI := ⟨_, rfl⟩
  obtain ⟨KO, hKO⟩ : ∃ KO, F.keepOut (v + q) = KO := ⟨_, rfl⟩
  have hKIl : KI.length = F.nodes.length := by rw [← hKI, F.keepIn_length]
  have hKOl : KO.length = F.nodes.length := by rw [← hKO, F.keepOut_length]
  have hki : ∀ i, i < F.nodes.length → KI.getD i false = (decide (((v + i : Nat) : Int) = ((v + q : Nat) : Int)) || U.getD (v + i) false) := fun i hi => by
    rw [← hKI, Fm.keepIn_getD hi, hvn, Fm.part_getD hg (by omega), hU, decide_eq_decide.2 (show v + i = v + q ↔ ((v + i : Nat) : Int) = ((v + q : Nat) : Int) by omega)]
  have hko : ∀ i, i < F.nodes.length → KO.getD i false = (B.getD (v + i) false && !(decide (((v + i : Nat) : Int) = ((v + q : Nat) : Int)) || U.getD (v + i) false)) := fun i hi => by
    rw [← hKO, Fm.keepOut_getD hi, hvn, hB, Fm.part_getD hg (by omega), hU, decide_eq_decide.2 (show v + i = v + q ↔ ((v + i : Nat) : Int) = ((v + q : Nat) : Int) by omega)]
  obtain ⟨H0, hH0⟩ : ∃ H0, H0 = row (some b5) 24 3 1 [.int .i64 0, slV none 0 0 0, .int .i64 0] :: row (some b4) 24 3 1 [.int .i64 0, slV none 0 0 0, .int .i64 0] :: H1 := ⟨_, rfl⟩
  have l0 : Le H0 H1 := by rw [hH0]; exact Le.drop (Le.drop (Le.refl _))
  rw [← hH0]
  refine Tri.fin ?_
  refine Nrm.next ?_
  refine Tri.seq ?_
  have hll : ∀ (x : Nat × Nat × Nat × Nat) (c : Nat), Le (match c with | 0 => H0 | 1 => row (some x.1) 4 1 x.2.1 (bools B) :: H0 | _ + 2 => row (some x.2.2.1) 4 1 x.2.2.2 (bools U) :: row (some x.1) 4 1 x.2.1 (bools B) :: H0) H1 := by
    intro x c
    match c with
    | 0 => exact l0
    | 1 => exact Le.drop l0
    | _ + 2 => exact Le.drop (Le.drop l0)
  refine Tri.drawX (X := Nat × Nat × Nat × Nat) rfl [(1, .int .i64 ((v + q : Nat) : Int)), (2, .pointer (some ⟨b2, 0, none⟩)), (4, .pointer (some ⟨b4, 0, none⟩)), (5, .pointer (some ⟨b5, 0, none⟩))] [] (fun x => [_, slV (some x.1) 0 (v + F.nodes.length) x.2.1, _, _, slV (some x.2.2.1) 0 (v + F.nodes.length) x.2.2.2, slV (some x.1) 0 (v + F.nodes.length) x.2.1, slV (some x.2.2.1) 0 (v + F.nodes.length) x.2.2.2]) (fun x c => match c with | 0 => H0 | 1 => row (some x.1) 4 1 x.2.1 (bools B) :: H0 | _ + 2 => row (some x.2.2.1) 4 1 x.2.2.2 (bools U) :: row (some x.1) 4 1 x.2.1 (bools B) :: H0) [1, 4] (0, 0, 0, 0) [5, 6] rfl rfl ⟨rfl, rfl, rfl, rfl, trivial⟩ trivial (by repeat (first | exact Le.refl _ | assumption | apply Le.drop)) (by
    refine ⟨?_, ?_, ?_, ?_, ?_, ?_, ?_, trivial⟩
    · refine ⟨fun x S c he hw hd hc hcu hm _ => ?_, trivial⟩
      refine TOps.loadN (he _ _ rfl) ti24 (Rd.le (by first | exact Rd.all (by repeat (first | exact List.Mem.head _ | apply List.Mem.tail)) | (repeat (first | assumption | apply Rd.up))) (hll x c)) rfl rfl ?_
      exact TOps.fin (Nrm.draw x (fun _ _ _ => rfl) rfl (by first | exact Le.refl _ | assumption | exact (by repeat (first | exact Le.refl _ | assumption | apply Le.drop))))
    · refine ⟨fun x S c he hw hd hc hcu hm _ => ?_, trivial⟩
      obtain ⟨h0, -⟩ := hd
      obtain rfl : c = 0 := hm rfl
      refine TOps.call (vs := [_]) Try.call41 ⟨h0, trivial⟩ (rbl2_g (hF0.le l0) hk hg hvn hB) rfl ?_
      rintro _ _ ⟨b, cp, rfl, rfl⟩
      refine TOps.fin (Nrm.draw (b, cp, x.2.2) ?_ rfl (Le.refl _))
      intro j hj hcj; rcases j with _|_|_|_|_|_|_|j <;> first | rfl | exact absurd rfl hj | exact absurd hcj (by decide)
    · refine ⟨fun x S c he hw hd hc hcu hm _ => ?_, trivial⟩
      refine TOps.loadN (he _ _ rfl) ti24 (Rd.le (by first | exact Rd.all (by repeat (first | exact List.Mem.head _ | apply List.Mem.tail)) | (repeat (first | assumption | apply Rd.up))) (hll x c)) rfl rfl ?_
      exact TOps.fin (Nrm.draw x (fun _ _ _ => rfl) rfl (by first | exact Le.refl _ | assumption | exact (by repeat (first | exact Le.refl _ | assumption | apply Le.drop))))
    · refine ⟨fun x S c he hw hd hc hcu hm _ => ?_, trivial⟩
      refine TOps.move (he _ _ rfl) rfl ?_
      exact TOps.fin (Nrm.draw x (fun _ _ _ => rfl) rfl (by first | exact Le.refl _ | assumption | exact (by repeat (first | exact Le.refl _ | assumption | apply Le.drop))))
    · refine ⟨fun x S c he hw hd hc hcu hm _ => ?_, trivial⟩
      obtain ⟨h2, h3, h1, -⟩ := hd
      obtain rfl : c = 1 := hm rfl
      refine TOps.call (vs := [_, _]) Try.call42 ⟨h2, h3, trivial⟩ (run2_g (hF0.le (Le.drop l0)) hg hvn (by omega) hU) rfl ?_
      rintro _ _ ⟨b, cp, rfl, rfl⟩
      refine TOps.fin (Nrm.draw (x.1, x.2.1, b, cp) ?_ rfl (Le.refl _))
      intro j hj hcj; rcases j with _|_|_|_|_|_|_|j <;> first | rfl | exact absurd rfl hj | exact absurd hcj (by decide)
    · refine ⟨fun x S c he hw hd hc hcu hm _ => ?_, trivial⟩
      obtain ⟨h1, h4, h0, _, -⟩ := hd
      refine TOps.assign h1 rfl ?_
      exact TOps.fin (Nrm.draw x (fun _ _ _ => rfl) rfl (by first | exact Le.refl _ | assumption | exact (by repeat (first | exact Le.refl _ | assumption | apply Le.drop))))
    · refine ⟨fun x S c he hw hd hc hcu hm _ => ?_, trivial⟩
      obtain ⟨h4, h5, h0, h1, h2, h3, _, _, -⟩ := hd
      refine TOps.assign h4 rfl ?_
      exact TOps.fin (Nrm.draw x (fun _ _ _ => rfl) rfl (by first | exact Le.refl _ | assumption | exact (by repeat (first | exact Le.refl _ | assumption | apply Le.drop))))
    ) (fun w => ?_)
  obtain ⟨H2, hH2⟩ : ∃ H2, H2 = row (some w.2.2.1) 4 1 w.2.2.2 (bools U) :: row (some w.1) 4 1 w.2.1 (bools B) :: H1 := ⟨_, rfl⟩
  subst hH0
  refine Nrm.le (H' := row (some b5) 24 3 1 [.int .i64 0, slV none 0 0 0, .int .i64 0] :: row (some b4) 24 3 1 [.int .i64 0, slV none 0 0 0, .int .i64 0] :: H2) (by subst hH2; exact (Sp.le (by repeat (first | exact Sp.refl _ | exact Sp.sub (by assumption) | refine Sp.cons (by repeat (first | exact Pick.here | apply Pick.there)) ?_ | exact Sp.nil | apply Sp.skip)))) ?_
  have rB : Rd H2 w.1 0 (bools B) := by rw [hH2]; exact Rd.all (by repeat (first | exact List.Mem.head _ | apply List.Mem.tail))
  have rU : Rd H2 w.2.2.1 0 (bools U) := by rw [hH2]; exact Rd.all (by repeat (first | exact List.Mem.head _ | apply List.Mem.tail))
  have l2 : Le H2 H1 := by rw [hH2]; exact Le.drop (Le.drop (Le.refl _))
  have s2 : H1.Sublist H2 := by rw [hH2]; exact List.Sublist.cons _ (List.Sublist.cons _ (List.Sublist.refl _))
  replace r1 := r1.le l2; replace hN := hN.le l2; replace hF0 := hF0.le l2
  clear hll l0
  refine Nrm.next ?_
  refine Tri.seq ?_
  have hll : ∀ (x : Nat × Nat) (D : List Nat), Le (on D [3] [] [row (some x.1) 4 1 F.nodes.length (List.replicate F.nodes.length (.bool false))] ++ (on D [7] [] [row (some x.2) 4 1 F.nodes.length (List.replicate F.nodes.length (.bool false))] ++ (row (some b5) 24 3 1 [.int .i64 0, slV none 0 0 0, .int .i64 0] :: row (some b4) 24 3 1 [.int .i64 0, slV none 0 0 0, .int .i64 0] :: H2))) H2 := fun x D => Le.sub (by repeat (first | exact List.Sublist.cons _ (List.Sublist.cons _ (List.Sublist.refl _)) | apply sub_on))
  refine Tri.drawM (X := Nat × Nat) rfl [(1, .int .i64 ((v + q : Nat) : Int)), (2, .pointer (some ⟨b2, 0, none⟩)), (4, .pointer (some ⟨b4, 0, none⟩)), (5, .pointer (some ⟨b5, 0, none⟩)), (7, slV (some w.1) 0 (v + F.nodes.length) w.2.1), (8, slV (some w.2.2.1) 0 (v + F.nodes.length) w.2.2.2)] [] (fun x => [_, _, _, slV (some x.1) 0 F.nodes.length F.nodes.length, _, _, _, slV (some x.2) 0 F.nodes.length F.nodes.length, slV (some x.1) 0 F.nodes.length F.nodes.length, slV (some x.2) 0 F.nodes.length F.nodes.length]) (fun x D => on D [3] [] [row (some x.1) 4 1 F.nodes.length (List.replicate F.nodes.length (.bool false))] ++ (on D [7] [] [row (some x.2) 4 1 F.nodes.length (List.replicate F.nodes.length (.bool false))] ++ (row (some b5) 24 3 1 [.int .i64 0, slV none 0 0 0, .int .i64 0] :: row (some b4) 24 3 1 [.int .i64 0, slV none 0 0 0, .int .i64 0] :: H2))) [3, 7] [0, 1, 3, 7, 0, 16, 48, 112, 15, 511] [[], [7], [3], [3, 7]] (0, 0) [8, 9] rfl rfl (by kernel_rfl) (by kernel_rfl) ⟨rfl, rfl, rfl, rfl, rfl, rfl, trivial⟩ trivial (by repeat (first | exact Le.refl _ | assumption | apply Le.drop)) (by
    refine ⟨?_, ?_, ?_, ?_, ?_, ?_, ?_, ?_, ?_, ?_, trivial⟩
    · refine ⟨fun x S D he hw hd hD _ => ?_, trivial⟩
      first | refine TOps.fieldB 1 (he _ _ rfl) Try.underlying24 rfl rfl ti22 rfl rfl rfl ?_ | refine TOps.fieldN 1 (he _ _ rfl) Try.underlying24 rfl rfl ti22 rfl rfl rfl ?_
      exact TOps.fin (Nrm.drawM x (fun _ _ _ => rfl) rfl (by first | exact Le.refl _ | assumption | exact (by repeat (first | exact Le.refl _ | assumption | apply Le.drop))))
    · refine ⟨fun x S D he hw hd hD _ => ?_, trivial⟩
      obtain ⟨h0, -⟩ := hd
      refine TOps.load1 h0 ti22 (Rd.le (by first | exact Rd.lit (by repeat (first | exact List.Mem.head _ | apply List.Mem.tail)) rfl | (repeat (first | assumption | exact Rd.fld (by assumption) 1 rfl | apply Rd.up))) (hll x D)) rfl ?_
      exact TOps.fin (Nrm.drawM x (fun _ _ _ => rfl) rfl (by first | exact Le.refl _ | assumption | exact (by repeat (first | exact Le.refl _ | assumption | apply Le.drop))))
    · refine ⟨fun x S D he hw hd hD _ => ?_, trivial⟩
      obtain ⟨h1, -⟩ := hd
      refine TOps.len h1 Try.underlying22 rfl ?_
      exact TOps.fin (Nrm.drawM x (fun _ _ _ => rfl) rfl (by first | exact Le.refl _ | assumption | exact (by repeat (first | exact Le.refl _ | assumption | apply Le.drop))))
    · refine ⟨fun x S D he hw hd hD _ => ?_, trivial⟩
      obtain ⟨h2, _, -⟩ := hd
      replace hD := mem_of_eq (L' := [[], [7]]) hD (by kernel_rfl)
      simp only [List.mem_cons, List.not_mem_nil, or_false] at hD
      rcases hD with rfl | rfl
      all_goals refine TOps.make1 h2 h2 Try.underlying68 ti4 (by omega) (by omega) (by omega) rfl (fun b43 => ?_)
      all_goals refine TOps.fin (Nrm.drawM (b43, x.2) ?_ rfl (Sp.le (by repeat (first | exact Sp.refl _ | exact Sp.sub (by assumption) | refine Sp.cons (by repeat (first | exact Pick.here | apply Pick.there)) ?_ | exact Sp.nil | apply Sp.skip))))
      all_goals (intro j hj hcj; rcases j with _|_|_|_|_|_|_|_|_|_|j <;> first | rfl | exact absurd rfl hj | exact absurd hcj (by decide))
    · refine ⟨fun x S D he hw hd hD _ => ?_, trivial⟩
      first | refine TOps.fieldB 1 (he _ _ rfl) Try.underlying24 rfl rfl ti22 rfl rfl rfl ?_ | refine TOps.fieldN 1 (he _ _ rfl) Try.underlying24 rfl rfl ti22 rfl rfl rfl ?_
      exact TOps.fin (Nrm.drawM x (fun _ _ _ => rfl) rfl (by first | exact Le.refl _ | assumption | exact (by repeat (first | exact Le.refl _ | assumption | apply Le.drop))))
    · refine ⟨fun x S D he hw hd hD _ => ?_, trivial⟩
      obtain ⟨h4, -⟩ := hd
      refine TOps.load1 h4 ti22 (Rd.le (by first | exact Rd.lit (by repeat (first | exact List.Mem.head _ | apply List.Mem.tail)) rfl | (repeat (first | assumption | exact Rd.fld (by assumption) 1 rfl | apply Rd.up))) (hll x D)) rfl ?_
      exact TOps.fin (Nrm.drawM x (fun _ _ _ => rfl) rfl (by first | exact Le.refl _ | assumption | exact (by repeat (first | exact Le.refl _ | assumption | apply Le.drop))))
    · refine ⟨fun x S D he hw hd hD _ => ?_, trivial⟩
      obtain ⟨h5, -⟩ := hd
      refine TOps.len h5 Try.underlying22 rfl ?_
      exact TOps.fin (Nrm.drawM x (fun _ _ _ => rfl) rfl (by first | exact Le.refl _ | assumption | exact (by repeat (first | exact Le.refl _ | assumption | apply Le.drop))))
    · refine ⟨fun x S D he hw hd hD _ => ?_, trivial⟩
      obtain ⟨h6, _, -⟩ := hd
      replace hD := mem_of_eq (L' := [[], [3]]) hD (by kernel_rfl)
      simp only [List.mem_cons, List.not_mem_nil, or_false] at hD
      rcases hD with rfl | rfl
      all_goals refine TOps.make1 h6 h6 Try.underlying68 ti4 (by omega) (by omega) (by omega) rfl (fun b47 => ?_)
      all_goals refine TOps.fin (Nrm.drawM (x.1, b47) ?_ rfl (Sp.le (by repeat (first | exact Sp.refl _ | exact Sp.sub (by assumption) | refine Sp.cons (by repeat (first | exact Pick.here | apply Pick.there)) ?_ | exact Sp.nil | apply Sp.skip))))
      all_goals (intro j hj hcj; rcases j with _|_|_|_|_|_|_|_|_|_|j <;> first | rfl | exact absurd rfl hj | exact absurd hcj (by decide))
    · refine ⟨fun x S D he hw hd hD _ => ?_, trivial⟩
      obtain ⟨h3, h0, h1, h2, _, -⟩ := hd
      refine TOps.assign h3 rfl ?_
      exact TOps.fin (Nrm.drawM x (fun _ _ _ => rfl) rfl (by first | exact Le.refl _ | assumption | exact (by repeat (first | exact Le.refl _ | assumption | apply Le.drop))))
    · refine ⟨fun x S D he hw hd hD _ => ?_, trivial⟩
      obtain ⟨h7, h8, h0, h1, h2, h3, h4, h5, h6, _, _, -⟩ := hd
      refine TOps.assign h7 rfl ?_
      exact TOps.fin (Nrm.drawM x (fun _ _ _ => rfl) rfl (by first | exact Le.refl _ | assumption | exact (by repeat (first | exact Le.refl _ | assumption | apply Le.drop))))
    ) (fun y => ?_)
  refine Nrm.le (H' := row (some y.1) 4 1 F.nodes.length (List.replicate F.nodes.length (.bool false)) :: row (some y.2) 4 1 F.nodes.length (List.replicate F.nodes.length (.bool false)) :: row (some b5) 24 3 1 [.int .i64 0, slV none 0 0 0, .int .i64 0] :: row (some b4) 24 3 1 [.int .i64 0, slV none 0 0 0, .int .i64 0] :: H2) (Sp.le (by repeat (first | exact Sp.refl _ | exact Sp.sub (by assumption) | refine Sp.cons (by repeat (first | exact Pick.here | apply Pick.there)) ?_ | exact Sp.nil | apply Sp.skip))) ?_
  clear hll
  refine Nrm.next ?_
  refine Tri.seq ?_
  refine Tri.seq (Tri.region ?_)
  first | refine TOps.fieldB 1 rfl Try.underlying24 rfl rfl ti22 rfl rfl rfl ?_ | refine TOps.fieldN 1 rfl Try.underlying24 rfl rfl ti22 rfl rfl rfl ?_
  refine TOps.load1 rfl ti22 (by first | exact Rd.lit (by repeat (first | exact List.Mem.head _ | apply List.Mem.tail)) rfl | (repeat (first | assumption | exact Rd.fld (by assumption) 1 rfl | apply Rd.up))) rfl ?_
  refine TOps.len rfl Try.underlying22 rfl ?_
  refine TOps.move rfl rfl ?_
  refine TOps.next ?_
  refine Tri.range (X := Unit) (fun x k => [(1, .int .i64 ((v + q : Nat) : Int)), (2, .pointer (some ⟨b2, 0, none⟩)), (4, .pointer (some ⟨b4, 0, none⟩)), (5, .pointer (some ⟨b5, 0, none⟩)), (7, slV (some w.1) 0 (v + F.nodes.length) w.2.1), (8, slV (some w.2.2.1) 0 (v + F.nodes.length) w.2.2.2), (9, slV (some y.1) 0 F.nodes.length F.nodes.length), (10, slV (some y.2) 0 F.nodes.length F.nodes.length)]) (fun x k => row (some y.1) 4 1 F.nodes.length (bools (KI.take k ++ List.replicate (F.nodes.length - k) false)) :: row (some y.2) 4 1 F.nodes.length (bools (KO.take k ++ List.replicate (F.nodes.length - k) false)) :: row (some b5) 24 3 1 [.int .i64 0, slV none 0 0 0, .int .i64 0] :: row (some b4) 24 3 1 [.int .i64 0, slV none 0 0 0, .int .i64 0] :: H2) (fun x k => True) (by omega) rfl rfl rfl (fun _ _ => ⟨rfl, rfl, rfl, rfl⟩) () trivial ⟨rfl, rfl, rfl, rfl, rfl, rfl, rfl, rfl, trivial⟩ (Sp.le (by repeat (first | exact Sp.refl _ | exact Sp.sub (by assumption) | refine Sp.cons (by repeat (first | exact Pick.here | exact Pick.row (by simp) | apply Pick.there)) ?_ | exact Sp.nil | apply Sp.skip))) (fun k x hlt hp => ?_) (fun x ac wc hp hS hM => ?_)
  · skip
    have hkik := hki k hlt
    have hkok := hko k hlt
    refine Tri.seq (Tri.region ?_)
    refine TOps.move rfl rfl ?_
    refine TOps.assign rfl rfl ?_
    refine TOps.next ?_
    refine Tri.seq (Tri.region ?_)
    refine TOps.move rfl rfl ?_
    refine TOps.move rfl rfl ?_
    refine TOps.field0 rfl Try.underlying24 rfl rfl ti3 rfl rfl rfl ?_
    refine TOps.load1 rfl ti3 (by first | exact Rd.lit (by repeat (first | exact List.Mem.head _ | apply List.Mem.tail)) rfl | (repeat (first | assumption | exact Rd.fld (by assumption) 0 rfl | apply Rd.up))) rfl ?_
    refine TOps.move rfl rfl ?_
    refine TOps.add (r := ((v + k : Nat) : Int)) rfl rfl (by rw [wrapI (by omega) (by omega)]; omega) rfl ?_
    refine TOps.move rfl rfl ?_
    refine TOps.eqlI rfl rfl rfl ?_
    refine TOps.move rfl rfl ?_
    refine' TOps.orB 7 rfl rfl rfl rfl (fun hg12_8 => ?_) ?_; rotate_left
    · have hg12_8' := hg12_8
      try simp only [decide_eq_true_eq, decide_eq_false_iff_not, Bool.and_eq_true, Bool.or_eq_true, Bool.not_eq_true', Bool.and_eq_false_iff, Bool.or_eq_false_iff, Bool.not_eq_false', Int.not_lt, Int.not_le, ne_eq, Decidable.not_not] at hg12_8'
      refine TOps.strip 8 false rfl rfl hg12_8 rfl ?_
      refine TOps.move rfl rfl ?_
      refine TOps.field0 rfl Try.underlying24 rfl rfl ti3 rfl rfl rfl ?_
      refine TOps.load1 rfl ti3 (by first | exact Rd.lit (by repeat (first | exact List.Mem.head _ | apply List.Mem.tail)) rfl | (repeat (first | assumption | exact Rd.fld (by assumption) 0 rfl | apply Rd.up))) rfl ?_
      refine TOps.move rfl rfl ?_
      refine TOps.add (r := ((v + k : Nat) : Int)) rfl rfl (by rw [wrapI (by omega) (by omega)]; omega) rfl ?_
      refine TOps.indexAddr (off' := v + k) rfl rfl Try.underlying68 ti4 (by omega) (by omega) (by omega) rfl ?_
      refine TOps.load1 (v := .bool (U.getD (v + k) false)) rfl ti4 (by have := rU.part (v + k) (bools_get (by omega)); rw [Nat.zero_add] at this; repeat (first | exact this | apply Rd.up)) rfl ?_
      refine TOps.blk rfl (by repeat (first | exact Ext.refl _ | refine Ext.cons rfl ?_)) (by repeat (first | exact Le.refl _ | apply Le.drop))
    refine TOps.indexAddr (off' := k) rfl rfl Try.underlying68 ti4 (by omega) (by omega) (by omega) rfl ?_
    refine TOps.store1 rfl rfl ti4 rfl rfl (by repeat (first | exact Upd.here | apply Upd.there)) (by simp; omega) ?_
    refine TOps.next ?_
    refine Tri.region ?_
    refine TOps.move rfl rfl ?_
    refine TOps.move rfl rfl ?_
    refine TOps.move rfl rfl ?_
    refine TOps.field0 rfl Try.underlying24 rfl rfl ti3 rfl rfl rfl ?_
    refine TOps.load1 rfl ti3 (by first | exact Rd.lit (by repeat (first | exact List.Mem.head _ | apply List.Mem.tail)) rfl | (repeat (first | assumption | exact Rd.fld (by assumption) 0 rfl | apply Rd.up))) rfl ?_
    refine TOps.move rfl rfl ?_
    refine TOps.add (r := ((v + k : Nat) : Int)) rfl rfl (by rw [wrapI (by omega) (by omega)]; omega) rfl ?_
    refine TOps.indexAddr (off' := v + k) rfl rfl Try.underlying68 ti4 (by omega) (by omega) (by omega) rfl ?_
    refine TOps.load1 (v := .bool (B.getD (v + k) false)) rfl ti4 (by have := rB.part (v + k) (bools_get (by omega)); rw [Nat.zero_add] at this; repeat (first | exact this | apply Rd.up)) rfl ?_
    refine TOps.move rfl rfl ?_
    refine' TOps.andB 5 rfl rfl rfl rfl (fun hg13_9 => ?_) ?_; rotate_left
    · have hg13_9' := hg13_9
      try simp only [decide_eq_true_eq, decide_eq_false_iff_not, Bool.and_eq_true, Bool.or_eq_true, Bool.not_eq_true', Bool.and_eq_false_iff, Bool.or_eq_false_iff, Bool.not_eq_false', Int.not_lt, Int.not_le, ne_eq, Decidable.not_not] at hg13_9'
      refine TOps.strip 9 true rfl rfl hg13_9 rfl ?_
      refine TOps.move rfl rfl ?_
      refine TOps.move rfl rfl ?_
      refine TOps.indexAddr (off' := k) rfl rfl Try.underlying68 ti4 (by omega) (by omega) (by omega) rfl ?_
      refine TOps.load1 (v := .bool (decide (((v + k : Nat) : Int) = ((v + q : Nat) : Int)) || U.getD (v + k) false)) rfl ti4 (Rd.lit (by repeat (first | exact List.Mem.head _ | apply List.Mem.tail)) (by rw [List.getElem?_set_self (by simp; omega)])) rfl ?_
      refine TOps.not rfl rfl ?_
      refine TOps.blk rfl (by repeat (first | exact Ext.refl _ | refine Ext.cons rfl ?_)) (by repeat (first | exact Le.refl _ | apply Le.drop))
    refine TOps.indexAddr (off' := k) rfl rfl Try.underlying68 ti4 (by omega) (by omega) (by omega) rfl ?_
    refine TOps.store1 rfl rfl ti4 rfl rfl (by repeat (first | exact Upd.here | apply Upd.there)) (by simp; omega) ?_
    refine TOps.fin ?_
    refine Nrm.body () trivial ⟨rfl, rfl, rfl, rfl, rfl, rfl, rfl, rfl, rfl, rfl, trivial⟩ (Sp.le (by repeat (first | exact Sp.refl _ | exact Sp.sub (by assumption) | refine Sp.cons (by repeat (first | exact Pick.here | exact Pick.row (by first | (rw [← bools_set, take_fillB hKIl (by omega) hkik]; done) | (rw [← bools_set, take_fillB hKOl (by omega) hkok]; done)) | apply Pick.there)) ?_ | exact Sp.nil | apply Sp.skip)))
  rw [show KI.take F.nodes.length ++ List.replicate (F.nodes.length - F.nodes.length) false = KI from by rw [Nat.sub_self, List.replicate_zero, List.append_nil]; exact List.take_of_length_le (by omega), show KO.take F.nodes.length ++ List.replicate (F.nodes.length - F.nodes.length) false = KO from by rw [Nat.sub_self, List.replicate_zero, List.append_nil]; exact List.take_of_length_le (by omega)] at hM
  refine Nrm.of hS hM ?_
  refine Nrm.next ?_
  refine Tri.seq ?_
  obtain ⟨G1, hG1⟩ : ∃ G1, G1 = F.outer (v + q) := ⟨_, rfl⟩
  obtain ⟨G2, hG2⟩ : ∃ G2, G2 = F.inner (v + q) := ⟨_, rfl⟩
  have hch1 : chF KO v (v + 1) ((v + q : Nat) : Int) F.nodes tN = G1 := by have := outer_chosen hg hq (by rw [hvn]; exact hmod); rw [hvn, htn] at this; rw [hG1, ← hKO]; exact this
  have hch2 : chF KI v v (-1) F.nodes (v + q) = G2 := by have := inner_chosen hg hq; rw [hvn] at this; rw [hG2, ← hKI]; exact this
  have hout : F.outF ((v + q : Nat) : Int) = G1 := by unfold Fm.outF; rw [hce0, hG1, Int.toNat_natCast]; rfl
  have hin : F.inF ((v + q : Nat) : Int) = G2 := by unfold Fm.inF; rw [hce0, hG2, Int.toNat_natCast]; rfl
  obtain ⟨HZ, hHZ⟩ : ∃ HZ, HZ = row (some y.1) 4 1 F.nodes.length (bools KI) :: row (some y.2) 4 1 F.nodes.length (bools KO) :: H2 := ⟨_, rfl⟩
  have rKI : Rd HZ y.1 0 (bools KI) := by rw [hHZ]; exact Rd.all (by repeat (first | exact List.Mem.head _ | apply List.Mem.tail))
  have rKO : Rd HZ y.2 0 (bools KO) := by rw [hHZ]; exact Rd.all (by repeat (first | exact List.Mem.head _ | apply List.Mem.tail))
  have lZ : Le HZ H2 := by rw [hHZ]; exact Le.drop (Le.drop (Le.refl _))
  have sZ : H2.Sublist HZ := by rw [hHZ]; exact List.Sublist.cons _ (List.Sublist.cons _ (List.Sublist.refl _))
  replace r1 := r1.le lZ; replace hF0 := hF0.le lZ
  have hll : ∀ (x : ((Option Nat × Nat) × List Ent) × ((Option Nat × Nat) × List Ent)) (c : Nat), Le (match c with | 0 => row (some b5) 24 3 1 [.int .i64 0, slV none 0 0 0, .int .i64 0] :: row (some b4) 24 3 1 [.int .i64 0, slV none 0 0 0, .int .i64 0] :: HZ | 1 => fact (RNodes x.1.2 x.1.1.1 0 G1.nodes) :: row (some b5) 24 3 1 [.int .i64 0, slV none 0 0 0, .int .i64 0] :: row (some b4) 24 3 1 [.int .i64 0, slV none 0 0 0, .int .i64 0] :: (x.1.2 ++ HZ) | 2 => fact (RNodes x.2.2 x.2.1.1 0 G2.nodes) :: fact (RNodes x.1.2 x.1.1.1 0 G1.nodes) :: row (some b5) 24 3 1 [.int .i64 0, slV none 0 0 0, .int .i64 0] :: row (some b4) 24 3 1 [.int .i64 0, slV none 0 0 0, .int .i64 0] :: (x.2.2 ++ (x.1.2 ++ HZ)) | 3 => fact (RNodes x.2.2 x.2.1.1 0 G2.nodes) :: fact (RNodes x.1.2 x.1.1.1 0 G1.nodes) :: row (some b5) 24 3 1 [.int .i64 0, slV none 0 0 0, .int .i64 0] :: row (some b4) 24 3 1 [.int .i64 G1.vars, slV x.1.1.1 0 G1.nodes.length x.1.1.2, .int .i64 G1.top] :: (x.2.2 ++ (x.1.2 ++ HZ)) | _ + 4 => fact (RNodes x.2.2 x.2.1.1 0 G2.nodes) :: fact (RNodes x.1.2 x.1.1.1 0 G1.nodes) :: row (some b5) 24 3 1 [.int .i64 G2.vars, slV x.2.1.1 0 G2.nodes.length x.2.1.2, .int .i64 G2.top] :: row (some b4) 24 3 1 [.int .i64 G1.vars, slV x.1.1.1 0 G1.nodes.length x.1.1.2, .int .i64 G1.top] :: (x.2.2 ++ (x.1.2 ++ HZ))) HZ := by
    intro x c
    match c with
    | 0 => exact Le.drop (Le.drop (Le.refl _))
    | 1 => exact Le.drop (Le.drop (Le.drop (Le.sub (List.sublist_append_right _ _))))
    | 2 => exact Le.drop (Le.drop (Le.drop (Le.drop (Le.sub ((List.sublist_append_right _ _).trans (List.sublist_append_right _ _))))))
    | 3 => exact Le.drop (Le.drop (Le.drop (Le.drop (Le.sub ((List.sublist_append_right _ _).trans (List.sublist_append_right _ _))))))
    | _ + 4 => exact Le.drop (Le.drop (Le.drop (Le.drop (Le.sub ((List.sublist_append_right _ _).trans (List.sublist_append_right _ _))))))
  refine Tri.drawX (X := ((Option Nat × Nat) × List Ent) × ((Option Nat × Nat) × List Ent)) rfl [(1, .int .i64 ((v + q : Nat) : Int)), (2, .pointer (some ⟨b2, 0, none⟩)), (4, .pointer (some ⟨b4, 0, none⟩)), (5, .pointer (some ⟨b5, 0, none⟩)), (9, slV (some y.1) 0 F.nodes.length F.nodes.length), (10, slV (some y.2) 0 F.nodes.length F.nodes.length)] [] (fun x => [_, _, _, _, .int .i64 ((v + 1 : Nat) : Int), _, _, _, .agg (List.toArray [.int .i64 G1.vars, slV x.1.1.1 0 G1.nodes.length x.1.1.2, .int .i64 G1.top]), _, _, _, _, _, .agg (List.toArray [.int .i64 G2.vars, slV x.2.1.1 0 G2.nodes.length x.2.1.2, .int .i64 G2.top]), undef, undef, .int .i64 0]) (fun x c => match c with | 0 => row (some b5) 24 3 1 [.int .i64 0, slV none 0 0 0, .int .i64 0] :: row (some b4) 24 3 1 [.int .i64 0, slV none 0 0 0, .int .i64 0] :: HZ | 1 => fact (RNodes x.1.2 x.1.1.1 0 G1.nodes) :: row (some b5) 24 3 1 [.int .i64 0, slV none 0 0 0, .int .i64 0] :: row (some b4) 24 3 1 [.int .i64 0, slV none 0 0 0, .int .i64 0] :: (x.1.2 ++ HZ) | 2 => fact (RNodes x.2.2 x.2.1.1 0 G2.nodes) :: fact (RNodes x.1.2 x.1.1.1 0 G1.nodes) :: row (some b5) 24 3 1 [.int .i64 0, slV none 0 0 0, .int .i64 0] :: row (some b4) 24 3 1 [.int .i64 0, slV none 0 0 0, .int .i64 0] :: (x.2.2 ++ (x.1.2 ++ HZ)) | 3 => fact (RNodes x.2.2 x.2.1.1 0 G2.nodes) :: fact (RNodes x.1.2 x.1.1.1 0 G1.nodes) :: row (some b5) 24 3 1 [.int .i64 0, slV none 0 0 0, .int .i64 0] :: row (some b4) 24 3 1 [.int .i64 G1.vars, slV x.1.1.1 0 G1.nodes.length x.1.1.2, .int .i64 G1.top] :: (x.2.2 ++ (x.1.2 ++ HZ)) | _ + 4 => fact (RNodes x.2.2 x.2.1.1 0 G2.nodes) :: fact (RNodes x.1.2 x.1.1.1 0 G1.nodes) :: row (some b5) 24 3 1 [.int .i64 G2.vars, slV x.2.1.1 0 G2.nodes.length x.2.1.2, .int .i64 G2.top] :: row (some b4) 24 3 1 [.int .i64 G1.vars, slV x.1.1.1 0 G1.nodes.length x.1.1.2, .int .i64 G1.top] :: (x.2.2 ++ (x.1.2 ++ HZ))) [8, 14, 15, 16] (((none, 0), []), ((none, 0), [])) [17] rfl rfl ⟨rfl, rfl, rfl, rfl, rfl, rfl, trivial⟩ trivial (by subst hHZ; exact (Sp.le (by repeat (first | exact Sp.refl _ | exact Sp.sub (by assumption) | refine Sp.cons (by repeat (first | exact Pick.here | apply Pick.there)) ?_ | exact Sp.nil | apply Sp.skip)))) (by
    refine ⟨?_, ?_, ?_, ?_, ?_, ?_, ?_, ?_, ?_, ?_, ?_, ?_, ?_, ?_, ?_, ?_, ?_, ?_, trivial⟩
    · refine ⟨fun x S c he hw hd hc hcu hm _ => ?_, trivial⟩
      refine TOps.loadN (he _ _ rfl) ti24 (Rd.le (by first | exact Rd.all (by repeat (first | exact List.Mem.head _ | apply List.Mem.tail)) | (repeat (first | assumption | apply Rd.up))) (hll x c)) rfl rfl ?_
      exact TOps.fin (Nrm.draw x (fun _ _ _ => rfl) rfl (by first | exact Le.refl _ | assumption | exact (by repeat (first | exact Le.refl _ | assumption | apply Le.drop))))
    · refine ⟨fun x S c he hw hd hc hcu hm _ => ?_, trivial⟩
      refine TOps.move (he _ _ rfl) rfl ?_
      exact TOps.fin (Nrm.draw x (fun _ _ _ => rfl) rfl (by first | exact Le.refl _ | assumption | exact (by repeat (first | exact Le.refl _ | assumption | apply Le.drop))))
    · refine ⟨fun x S c he hw hd hc hcu hm _ => ?_, trivial⟩
      refine TOps.field0 (he _ _ rfl) Try.underlying24 rfl rfl ti3 rfl rfl rfl ?_
      exact TOps.fin (Nrm.draw x (fun _ _ _ => rfl) rfl (by first | exact Le.refl _ | assumption | exact (by repeat (first | exact Le.refl _ | assumption | apply Le.drop))))
    · refine ⟨fun x S c he hw hd hc hcu hm _ => ?_, trivial⟩
      obtain ⟨h2, -⟩ := hd
      refine TOps.load1 h2 ti3 (Rd.le (by first | exact Rd.lit (by repeat (first | exact List.Mem.head _ | apply List.Mem.tail)) rfl | (repeat (first | assumption | exact Rd.fld (by assumption) 0 rfl | apply Rd.up))) (hll x c)) rfl ?_
      exact TOps.fin (Nrm.draw x (fun _ _ _ => rfl) rfl (by first | exact Le.refl _ | assumption | exact (by repeat (first | exact Le.refl _ | assumption | apply Le.drop))))
    · refine ⟨fun x S c he hw hd hc hcu hm _ => ?_, trivial⟩
      obtain ⟨h3, -⟩ := hd
      refine TOps.add (r := ((v + 1 : Nat) : Int)) h3 rfl (by rw [wrapI (by omega) (by omega)]; omega) rfl ?_
      exact TOps.fin (Nrm.draw x (fun _ _ _ => rfl) rfl (by first | exact Le.refl _ | assumption | exact (by repeat (first | exact Le.refl _ | assumption | apply Le.drop))))
    · refine ⟨fun x S c he hw hd hc hcu hm _ => ?_, trivial⟩
      refine TOps.move (he _ _ rfl) rfl ?_
      exact TOps.fin (Nrm.draw x (fun _ _ _ => rfl) rfl (by first | exact Le.refl _ | assumption | exact (by repeat (first | exact Le.refl _ | assumption | apply Le.drop))))
    · refine ⟨fun x S c he hw hd hc hcu hm _ => ?_, trivial⟩
      first | refine TOps.fieldB 2 (he _ _ rfl) Try.underlying24 rfl rfl ti3 rfl rfl rfl ?_ | refine TOps.fieldN 2 (he _ _ rfl) Try.underlying24 rfl rfl ti3 rfl rfl rfl ?_
      exact TOps.fin (Nrm.draw x (fun _ _ _ => rfl) rfl (by first | exact Le.refl _ | assumption | exact (by repeat (first | exact Le.refl _ | assumption | apply Le.drop))))
    · refine ⟨fun x S c he hw hd hc hcu hm _ => ?_, trivial⟩
      obtain ⟨h6, -⟩ := hd
      refine TOps.load1 h6 ti3 (Rd.le (by first | exact Rd.lit (by repeat (first | exact List.Mem.head _ | apply List.Mem.tail)) rfl | (repeat (first | assumption | exact Rd.fld (by assumption) 2 rfl | apply Rd.up))) (hll x c)) rfl ?_
      exact TOps.fin (Nrm.draw x (fun _ _ _ => rfl) rfl (by first | exact Le.refl _ | assumption | exact (by repeat (first | exact Le.refl _ | assumption | apply Le.drop))))
    · refine ⟨fun x S c he hw hd hc hcu hm _ => ?_, trivial⟩
      obtain ⟨h0, h1, h4, h5, h7, -⟩ := hd
      obtain rfl : c = 0 := hm rfl
      refine TOps.call (vs := [_, _, _, _, _]) Try.call43 ⟨h0, h1, h4, h5, h7, trivial⟩ (chosen_g (hF0.le (hll x 0)) hg hKOl (rKO.le (hll x 0)) hvn (by omega) (.inr (by omega)) (by omega) hch1) rfl ?_
      rintro _ _ ⟨a1, cp1, N1, rfl, hf1, rfl⟩
      refine TOps.fin (Nrm.draw (((a1, cp1), N1), x.2) ?_ rfl (Le.midB.trans (Le.addFact hf1)))
      intro j hj hcj; rcases j with _|_|_|_|_|_|_|_|_|_|_|_|_|_|_|_|_|_|j <;> first | rfl | exact absurd rfl hj | exact absurd hcj (by decide)
    · refine ⟨fun x S c he hw hd hc hcu hm _ => ?_, trivial⟩
      refine TOps.loadN (he _ _ rfl) ti24 (Rd.le (by first | exact Rd.all (by repeat (first | exact List.Mem.head _ | apply List.Mem.tail)) | (repeat (first | assumption | apply Rd.up))) (hll x c)) rfl rfl ?_
      exact TOps.fin (Nrm.draw x (fun _ _ _ => rfl) rfl (by first | exact Le.refl _ | assumption | exact (by repeat (first | exact Le.refl _ | assumption | apply Le.drop))))
    · refine ⟨fun x S c he hw hd hc hcu hm _ => ?_, trivial⟩
      refine TOps.move (he _ _ rfl) rfl ?_
      exact TOps.fin (Nrm.draw x (fun _ _ _ => rfl) rfl (by first | exact Le.refl _ | assumption | exact (by repeat (first | exact Le.refl _ | assumption | apply Le.drop))))
    · refine ⟨fun x S c he hw hd hc hcu hm _ => ?_, trivial⟩
      refine TOps.field0 (he _ _ rfl) Try.underlying24 rfl rfl ti3 rfl rfl rfl ?_
      exact TOps.fin (Nrm.draw x (fun _ _ _ => rfl) rfl (by first | exact Le.refl _ | assumption | exact (by repeat (first | exact Le.refl _ | assumption | apply Le.drop))))
    · refine ⟨fun x S c he hw hd hc hcu hm _ => ?_, trivial⟩
      obtain ⟨h11, -⟩ := hd
      refine TOps.load1 h11 ti3 (Rd.le (by first | exact Rd.lit (by repeat (first | exact List.Mem.head _ | apply List.Mem.tail)) rfl | (repeat (first | assumption | exact Rd.fld (by assumption) 0 rfl | apply Rd.up))) (hll x c)) rfl ?_
      exact TOps.fin (Nrm.draw x (fun _ _ _ => rfl) rfl (by first | exact Le.refl _ | assumption | exact (by repeat (first | exact Le.refl _ | assumption | apply Le.drop))))
    · refine ⟨fun x S c he hw hd hc hcu hm _ => ?_, trivial⟩
      refine TOps.move (he _ _ rfl) rfl ?_
      exact TOps.fin (Nrm.draw x (fun _ _ _ => rfl) rfl (by first | exact Le.refl _ | assumption | exact (by repeat (first | exact Le.refl _ | assumption | apply Le.drop))))
    · refine ⟨fun x S c he hw hd hc hcu hm _ => ?_, trivial⟩
      obtain ⟨h9, h10, h12, h13, h8, -⟩ := hd
      obtain rfl : c = 1 := hm rfl
      refine TOps.call (vs := [_, _, _, _, _]) Try.call43 ⟨h9, h10, h12, rfl, h13, trivial⟩ (chosen_g (hF0.le (hll x 1)) hg hKIl (rKI.le (hll x 1)) hvn (by omega) (.inl (by omega)) (by omega) hch2) rfl ?_
      rintro _ _ ⟨a2, cp2, N2, rfl, hf2, rfl⟩
      refine TOps.fin (Nrm.draw (x.1, ((a2, cp2), N2)) ?_ rfl (Le.midC.trans (Le.addFact hf2)))
      intro j hj hcj; rcases j with _|_|_|_|_|_|_|_|_|_|_|_|_|_|_|_|_|_|j <;> first | rfl | exact absurd rfl hj | exact absurd hcj (by decide)
    · refine ⟨fun x S c he hw hd hc hcu hm _ => ?_, trivial⟩
      obtain ⟨h8, h14, h0, h1, h2, h3, h4, h5, h6, h7, _, -⟩ := hd
      obtain rfl : c = 2 := hm rfl
      refine TOps.storeN (he _ _ rfl) h8 ti24 rfl rfl (by repeat (first | exact Upd.here | apply Upd.there)) (by first | decide | (simp; done) | (simp; omega)) ?_
      exact TOps.fin (Nrm.draw x (fun _ _ _ => rfl) rfl (by first | exact Le.refl _ | assumption | exact (by repeat (first | exact Le.refl _ | assumption | apply Le.drop))))
    · refine ⟨fun x S c he hw hd hc hcu hm _ => ?_, trivial⟩
      obtain ⟨h14, h15, h0, h1, h2, h3, h4, h5, h6, h7, h8, h9, h10, h11, h12, h13, _, _, -⟩ := hd
      obtain rfl : c = 3 := hm rfl
      refine TOps.storeN (he _ _ rfl) h14 ti24 rfl rfl (by repeat (first | exact Upd.here | apply Upd.there)) (by first | decide | (simp; done) | (simp; omega)) ?_
      exact TOps.fin (Nrm.draw x (fun _ _ _ => rfl) rfl (by first | exact Le.refl _ | assumption | exact (by repeat (first | exact Le.refl _ | assumption | apply Le.drop))))
    · refine ⟨fun x S c he hw hd hc hcu hm _ => ?_, trivial⟩
      obtain ⟨h16, h0, h1, h2, h3, h4, h5, h6, h7, h8, h9, h10, h11, h12, h13, h14, h15, _, -⟩ := hd
      refine TOps.assign rfl rfl ?_
      exact TOps.fin (Nrm.draw x (fun _ _ _ => rfl) rfl (by first | exact Le.refl _ | assumption | exact (by repeat (first | exact Le.refl _ | assumption | apply Le.drop))))
    ) (fun g => ?_)
  refine Nrm.fact (List.Mem.head _) (fun f2 => ?_)
  refine Nrm.fact (List.Mem.tail _ (List.Mem.head _)) (fun f1 => ?_)
  refine Nrm.next ?_
  refine Tri.ret3 (H' := (g.2.2 ++ g.1.2) ++ H) Try.results16 (fun _ _ h => h) (.cellN rfl rfl ti24 (Rd.all (by repeat (first | exact List.Mem.head _ | apply List.Mem.tail))) rfl) (.cellN rfl rfl ti24 (Rd.all (by repeat (first | exact List.Mem.head _ | apply List.Mem.tail))) rfl) (.tmp rfl) ?_ ⟨g.1.1.1, g.1.1.2, g.2.1.1, g.2.1.2, g.2.2 ++ g.1.2, ?_, ?_, ?_, rfl⟩
  · rw [List.append_assoc]
    exact Le.sub (List.Sublist.cons _ (List.Sublist.cons _ (List.Sublist.cons _ (List.Sublist.cons _ (List.Sublist.append_left (List.Sublist.append_left ((s1.trans s2).trans sZ) _) _)))))
  · rw [hout, hin, hce0]; rfl
  · rw [hout]; exact f1.le (Le.sub (List.sublist_append_right _ _))
  · rw [hin]; exact f2.le (Le.sub (List.sublist_append_left _ _))
theorem rcut_g {H : List Ent} {fv : Value} {F : Fm} (hF : RF H fv F) (hk : F.ok) (hg : F.Good) (arg : Int) (ha : I64 arg) :
    Gives Try.prog 16 [fv, .int .i64 arg] H (fun u H' => ∃ x y, u = .tuple (List.toArray [x, y, .int .i64 ((F.cutErr arg).getD 0)]) ∧ Le H' H ∧ H.Sublist H' ∧ RF H' x (F.outF arg) ∧ RF H' y (F.inF arg)) := by
  intro w hM
  refine (rcutN_g hF hk hg arg ha w hM).mono fun e W' h => ?_
  obtain ⟨v, H', ⟨a1, c1, a2, c2, N, h1, h2, h3, h4⟩, h5, h6⟩ := h
  subst h4
  exact ⟨v, N ++ H, ⟨_, _, h1, Le.sub (List.sublist_append_right _ _), List.sublist_append_right _ _, ⟨a1, 0, c1, none, rfl, h2.le (Le.sub (List.sublist_append_left _ _))⟩, ⟨a2, 0, c2, none, rfl, h3.le (Le.sub (List.sublist_append_left _ _))⟩⟩, h5, h6⟩
end Go.Proofs
