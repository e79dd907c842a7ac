import Derived.Test.YtclpcnbdmmlogaaC09
namespace Go.Proofs
open Go.GL
set_option linter.unusedVariables false
set_option linter.unusedSimpArgs false
theorem ternaryDual_g {H : List Ent} {fv : Value} {F : Fm} (hF : RF H fv F) (hk : F.ok) (y n : Int) :
    Gives Try.prog 3 [fv, .int .i64 y, .int .i64 n] H (R1 (.bool true) H) := by
  have hF0 := hF
  have k3 := hk.2.2.2
  obtain ⟨na, off, cap, nsp, rfl, hN⟩ := hF
  refine Gives.enter Try.func3 rfl (by exact Try.ntmps3) rfl ?_
  refine Tri.seq (Tri.region ?_)
  refine TOps.boxN rfl ti24 rfl rfl (fun b3 => ?_)
  refine TOps.hide (fun H1 l1 s1 r1 => ?_)
  replace hF0 := hF0.le l1; replace hN := hN.le l1
  refine TOps.assign rfl rfl ?_
  refine TOps.next ?_
  refine Tri.seq ?_
  refine Tri.seq (Tri.region ?_)
  refine TOps.call (vs := []) Try.call9 trivial (awake09_g) rfl ?_
  rintro _ _ ⟨rfl, rfl⟩
  refine TOps.not rfl rfl ?_
  refine TOps.move rfl rfl ?_
  refine' TOps.orB 3 rfl rfl rfl rfl (fun hg1_2 => ?_) ?_; rotate_left
  · have hg1_2' := hg1_2
    try simp only [decide_eq_true_eq, decide_eq_false_iff_not, Bool.and_eq_true, Bool.or_eq_true, Bool.not_eq_true', Bool.and_eq_false_iff, Bool.or_eq_false_iff, Bool.not_eq_false', Int.not_lt, Int.not_le, ne_eq, Decidable.not_not] at hg1_2'
    refine TOps.strip 2 false rfl rfl hg1_2 rfl ?_
    refine TOps.loadN rfl ti24 (by first | exact Rd.all (by repeat (first | exact List.Mem.head _ | apply List.Mem.tail)) | (repeat (first | assumption | apply Rd.up))) rfl rfl ?_
    refine TOps.call (vs := [_]) Try.call10 ⟨rfl, trivial⟩ (light_g hF0 hk) rfl ?_
    rintro _ _ ⟨rfl, rfl⟩
    refine TOps.not rfl rfl ?_
    refine TOps.blk rfl (by repeat (first | exact Ext.refl _ | refine Ext.cons rfl ?_)) (by repeat (first | exact Le.refl _ | apply Le.drop))
  refine TOps.move rfl rfl ?_
  refine' TOps.orB 3 rfl rfl rfl rfl (fun hg1_7 => ?_) ?_; rotate_left
  · have hg1_7' := hg1_7
    try simp only [decide_eq_true_eq, decide_eq_false_iff_not, Bool.and_eq_true, Bool.or_eq_true, Bool.not_eq_true', Bool.and_eq_false_iff, Bool.or_eq_false_iff, Bool.not_eq_false', Int.not_lt, Int.not_le, ne_eq, Decidable.not_not] at hg1_7'
    refine TOps.strip 7 false rfl rfl hg1_7 rfl ?_
    refine TOps.loadN rfl ti24 (by first | exact Rd.all (by repeat (first | exact List.Mem.head _ | apply List.Mem.tail)) | (repeat (first | assumption | apply Rd.up))) rfl rfl ?_
    refine TOps.call (vs := [_]) Try.call11 ⟨rfl, trivial⟩ (check_g hF0 hk) rfl ?_
    rintro _ _ ⟨rfl, rfl⟩
    refine TOps.neqNil rfl Try.underlying28 rfl ?_
    refine TOps.blk rfl (by repeat (first | exact Ext.refl _ | refine Ext.cons rfl ?_)) (by repeat (first | exact Le.refl _ | apply Le.drop))
  refine TOps.move rfl rfl ?_
  refine' TOps.orB 5 rfl rfl rfl rfl (fun hg1_12 => ?_) ?_; rotate_left
  · have hg1_12' := hg1_12
    try simp only [decide_eq_true_eq, decide_eq_false_iff_not, Bool.and_eq_true, Bool.or_eq_true, Bool.not_eq_true', Bool.and_eq_false_iff, Bool.or_eq_false_iff, Bool.not_eq_false', Int.not_lt, Int.not_le, ne_eq, Decidable.not_not] at hg1_12'
    refine TOps.strip 12 false rfl rfl hg1_12 rfl ?_
    first | refine TOps.fieldB 1 rfl Try.underlying24 rfl rfl ti22 rfl rfl rfl ?_ | refine TOps.fieldN 1 rfl Try.underlying24 rfl rfl ti22 rfl rfl rfl ?_
    refine TOps.load1 rfl ti22 (by first | exact Rd.lit (by repeat (first | exact List.Mem.head _ | apply List.Mem.tail)) rfl | (repeat (first | assumption | exact Rd.fld (by assumption) 1 rfl | apply Rd.up))) rfl ?_
    refine TOps.len rfl Try.underlying22 rfl ?_
    refine TOps.add (r := IntKind.i64.wrap ((F.nodes.length : Int) + 2)) rfl rfl rfl rfl ?_
    refine TOps.gtr rfl rfl rfl ?_
    refine TOps.blk rfl (by repeat (first | exact Ext.refl _ | refine Ext.cons rfl ?_)) (by repeat (first | exact Le.refl _ | apply Le.drop))
  refine TOps.next ?_
  refine Tri.cond rfl (fun hc1 => ?_) (fun hc1 => ?_)
  · try simp only [decide_eq_true_eq, decide_eq_false_iff_not, Bool.and_eq_true, Bool.or_eq_true, Bool.not_eq_true', Bool.and_eq_false_iff, Bool.or_eq_false_iff, Bool.not_eq_false', Int.not_lt, Int.not_le, ne_eq, Decidable.not_not, Option.isSome_iff_ne_none, Option.isNone_iff_eq_none] at hc1
    refine Tri.seq (Tri.region ?_)
    refine TOps.call (vs := []) Try.call9 trivial (awake09_g) rfl ?_
    rintro _ _ ⟨rfl, rfl⟩
    refine TOps.assign rfl rfl ?_
    refine TOps.next ?_
    refine Tri.ret1 (H' := H) Try.results3 (fun _ _ h => h) (.tmp rfl) l1 ⟨rfl, rfl⟩
  try simp only [decide_eq_true_eq, decide_eq_false_iff_not, Bool.and_eq_true, Bool.or_eq_true, Bool.not_eq_true', Bool.and_eq_false_iff, Bool.or_eq_false_iff, Bool.not_eq_false', Int.not_lt, Int.not_le, ne_eq, Decidable.not_not, Option.isSome_iff_ne_none, Option.isNone_iff_eq_none] at hc1
  have he : F.err = none := by simpa using hc1.1.2
  have hg := (Fm.good_iff F).1 he
  have g0 := hg.v0; have g1 := hg.v1; have g2 := hg.n1; have gt := hg.topLt
  have hlen : F.nodes.length + 2 ≤ 128 := by have := hc1.2; rw [wrapI (by omega) (by omega)] at this; omega
  obtain ⟨G, hG⟩ : ∃ G : Int → Fm, ∀ t, G t = F.plus [⟨1, 0, [F.top]⟩, ⟨1, 0, [F.vars + F.nodes.length]⟩] t := ⟨_, fun _ => rfl⟩
  have hY := lowBits_lt y F.vars.toNat
  have hNN := noPart_lt (y := lowBits y F.vars.toNat) (lowBits_lt n F.vars.toNat)
  have hYN := noPart_and (lowBits y F.vars.toNat) (lowBits n F.vars.toNat)
  have hlaw := law_dual hg hlen (lowBits y F.vars.toNat : Nat) (noPart (lowBits y F.vars.toNat) (lowBits n F.vars.toNat) : Nat) G hG
  obtain ⟨gd1, gd2, w1, w2⟩ := hlaw
  have c0 := Fm.cubeErr_good hg hY hNN hYN
  have hGv : ∀ t, (G t).vars = F.vars := fun t => by rw [hG]; rfl
  have c1 := Fm.cubeErr_good gd1 (by rw [hGv]; exact hY) (by rw [hGv]; exact hNN) hYN
  have c2 := Fm.cubeErr_good gd2 (by rw [hGv]; exact hY) (by rw [hGv]; exact hNN) hYN
  generalize hYe : lowBits y F.vars.toNat = Y at *
  generalize hNe : noPart Y (lowBits n F.vars.toNat) = N at *
  have hGt : ∀ t, (G t).top = t := fun t => by rw [hG]; rfl
  have hT2 := F.tval_le hg Y N F.top.toNat
  generalize hT : F.tval Y N F.top.toNat = T at *
  have hT3 : T = 0 ∨ T = 1 ∨ T = 2 := by omega
  have hn2 : negT T ≤ 2 := by rcases hT3 with h | h | h <;> rw [h] <;> decide
  refine Tri.fin ?_
  refine Nrm.next ?_
  refine Tri.seq (Tri.region ?_)
  refine TOps.loadN rfl ti24 (by first | exact Rd.all (by repeat (first | exact List.Mem.head _ | apply List.Mem.tail)) | (repeat (first | assumption | apply Rd.up))) rfl rfl ?_
  refine TOps.move rfl rfl ?_
  refine TOps.move rfl rfl ?_
  refine TOps.call (vs := [_, _, _]) Try.call12 ⟨rfl, rfl, rfl, trivial⟩ (cube_g hF0 hg y n) rfl ?_
  rintro _ _ ⟨rfl, rfl⟩
  rw [hYe, hNe]
  refine TOps.move rfl rfl ?_
  refine TOps.extract rfl rfl rfl ?_
  refine TOps.extract rfl rfl rfl ?_
  refine TOps.alloc ti31 rfl (fun b7 => ?_)
  refine TOps.storeN rfl rfl ti31 rfl rfl (by repeat (first | exact Upd.here | apply Upd.there)) (by first | decide | (simp; done) | (simp; omega)) ?_
  refine TOps.hide (fun H2 l2 s2 r2 => ?_)
  replace r2 : Rd H2 b7 0 [.int .i64 Y, .int .i64 N] := r2
  replace hF0 := hF0.le l2; replace r1 := r1.le l2; replace hN := hN.le l2
  refine TOps.assign rfl rfl ?_
  refine TOps.next ?_
  refine Tri.seq (Tri.region ?_)
  refine TOps.field0 rfl Try.underlying24 rfl rfl ti3 rfl rfl rfl ?_
  refine TOps.load1 rfl ti3 (by first | exact Rd.lit (by repeat (first | exact List.Mem.head _ | apply List.Mem.tail)) rfl | (repeat (first | assumption | exact Rd.fld (by assumption) 0 rfl | apply Rd.up))) rfl ?_
  first | refine TOps.fieldB 1 rfl Try.underlying24 rfl rfl ti22 rfl rfl rfl ?_ | refine TOps.fieldN 1 rfl Try.underlying24 rfl rfl ti22 rfl rfl rfl ?_
  refine TOps.load1 rfl ti22 (by first | exact Rd.lit (by repeat (first | exact List.Mem.head _ | apply List.Mem.tail)) rfl | (repeat (first | assumption | exact Rd.fld (by assumption) 1 rfl | apply Rd.up))) rfl ?_
  refine TOps.len rfl Try.underlying22 rfl ?_
  refine TOps.add rfl rfl (wrapI (by omega) (by omega)) rfl ?_
  refine TOps.assign rfl rfl ?_
  refine TOps.next ?_
  refine Tri.seq ?_
  obtain ⟨qs, hqs, hys⟩ := hN.cells
  have hcl := nsCells_length F.nodes qs hqs.1
  have hc1' := nsCells_one' F.nodes qs
  obtain ⟨CELLS, hCE⟩ : ∃ CELLS, CELLS = nsCells F.nodes qs := ⟨_, rfl⟩
  rw [← hCE] at hcl hc1' hys
  have hll : ∀ (x : DX) (D : List Nat), Le (on D [2] [5] [row (some x.b2) 36 3 0 []] ++ (on D [5] [14] [row x.a5 36 3 x.c5 CELLS] ++ (on D [14] [] [row (some x.a14) 36 3 x.c14 (CELLS ++ x.six)] ++ (on D [8] [] [row (some x.b8) 3 1 1 [.int .i64 F.top]] ++ (on D [11] [] [row (some x.b11) 3 1 1 [.int .i64 (F.vars + F.nodes.length)]] ++ (on D [13] [] [row (some x.b13) 36 3 2 x.six] ++ (on D [17] [18] [row (some x.b17) 24 3 1 [.int .i64 0, slV none 0 0 0, .int .i64 0]] ++ (on D [18] [] [row (some x.b17) 24 3 1 [.int .i64 F.vars, slV (some x.a14) 0 (0 + F.nodes.length + 2) x.c14, .int .i64 (F.vars + F.nodes.length)]] ++ H2)))))))) H2 := fun x D => Le.sub (by repeat (first | exact List.Sublist.refl _ | apply sub_on))
  refine Tri.drawM (X := DX) rfl [(3, .pointer (some ⟨b3, 0, none⟩)), (7, .pointer (some ⟨b7, 0, none⟩)), (9, .int .i64 (F.vars + F.nodes.length))] [] (fun x => [_, _, slV (some x.b2) 0 0 0, _, _, slV x.a5 0 (0 + F.nodes.length) x.c5, _, _, slV (some x.b8) 0 1 1, .agg (List.toArray [.int .i64 1, .int .i64 0, slV (some x.b8) 0 1 1]), _, slV (some x.b11) 0 1 1, .agg (List.toArray [.int .i64 1, .int .i64 0, slV (some x.b11) 0 1 1]), slV (some x.b13) 0 2 2, slV (some x.a14) 0 (0 + F.nodes.length + 2) x.c14, _, .agg (List.toArray [.int .i64 F.vars, slV (some x.a14) 0 (0 + F.nodes.length + 2) x.c14, .int .i64 (F.vars + F.nodes.length)]), .pointer (some ⟨x.b17, 0, none⟩), undef]) (fun x D => on D [2] [5] [row (some x.b2) 36 3 0 []] ++ (on D [5] [14] [row x.a5 36 3 x.c5 CELLS] ++ (on D [14] [] [row (some x.a14) 36 3 x.c14 (CELLS ++ x.six)] ++ (on D [8] [] [row (some x.b8) 3 1 1 [.int .i64 F.top]] ++ (on D [11] [] [row (some x.b11) 3 1 1 [.int .i64 (F.vars + F.nodes.length)]] ++ (on D [13] [] [row (some x.b13) 36 3 2 x.six] ++ (on D [17] [18] [row (some x.b17) 24 3 1 [.int .i64 0, slV none 0 0 0, .int .i64 0]] ++ (on D [18] [] [row (some x.b17) 24 3 1 [.int .i64 F.vars, slV (some x.a14) 0 (0 + F.nodes.length + 2) x.c14, .int .i64 (F.vars + F.nodes.length)]] ++ H2)))))))) [2, 5, 8, 11, 13, 14, 17, 18] [0, 1, 0, 0, 8, 28, 0, 64, 192, 448, 0, 1024, 3072, 8128, 16380, 0, 65535, 0, 262143] [[], [17], [11], [11, 17], [8], [8, 17], [8, 11], [8, 11, 17], [8, 11, 13], [8, 11, 13, 17], [2], [2, 17], [2, 11], [2, 11, 17], [2, 8], [2, 8, 17], [2, 8, 11], [2, 8, 11, 17], [2, 8, 11, 13], [2, 8, 11, 13, 17], [2, 5], [2, 5, 17], [2, 5, 11], [2, 5, 11, 17], [2, 5, 8], [2, 5, 8, 17], [2, 5, 8, 11], [2, 5, 8, 11, 17], [2, 5, 8, 11, 13], [2, 5, 8, 11, 13, 17], [2, 5, 8, 11, 13, 14], [2, 5, 8, 11, 13, 14, 17], [2, 5, 8, 11, 13, 14, 17, 18]] ⟨0, none, 0, 0, 0, 0, 0, 0, 0⟩ [17] rfl rfl (by kernel_rfl) (by kernel_rfl) ⟨rfl, rfl, rfl, trivial⟩ trivial (by repeat (first | exact Le.refl _ | assumption | apply Le.drop)) (by
    refine ⟨?_, ?_, ?_, ?_, ?_, ?_, ?_, ?_, ?_, ?_, ?_, ?_, ?_, ?_, ?_, ?_, ?_, ?_, ?_, trivial⟩
    · refine ⟨fun x S D he hw hd hD _ => ?_, trivial⟩
      refine TOps.field0 (he _ _ rfl) Try.underlying24 rfl rfl ti3 rfl rfl rfl ?_
      exact TOps.fin (Nrm.drawM x (fun _ _ _ => rfl) rfl (by first | exact Le.refl _ | assumption | exact (by repeat (first | exact Le.refl _ | assumption | apply Le.drop))))
    · refine ⟨fun x S D he hw hd hD _ => ?_, trivial⟩
      obtain ⟨h0, -⟩ := hd
      refine TOps.load1 h0 ti3 (Rd.le (by first | exact Rd.lit (by repeat (first | exact List.Mem.head _ | apply List.Mem.tail)) rfl | (repeat (first | assumption | exact Rd.fld (by assumption) 0 rfl | apply Rd.up))) (hll x D)) rfl ?_
      exact TOps.fin (Nrm.drawM x (fun _ _ _ => rfl) rfl (by first | exact Le.refl _ | assumption | exact (by repeat (first | exact Le.refl _ | assumption | apply Le.drop))))
    · refine ⟨fun x S D he hw hd hD _ => ?_, trivial⟩
      replace hD := mem_of_eq (L' := [[], [17], [11], [11, 17], [8], [8, 17], [8, 11], [8, 11, 17], [8, 11, 13], [8, 11, 13, 17]]) hD (by kernel_rfl)
      simp only [List.mem_cons, List.not_mem_nil, or_false] at hD
      rcases hD with rfl | rfl | rfl | rfl | rfl | rfl | rfl | rfl | rfl | rfl
      all_goals refine TOps.buildSlice0 Try.underlying22 ti36 rfl (fun b52 => ?_)
      all_goals refine TOps.fin (Nrm.drawM {x with b2 := b52} ?_ rfl (Sp.le (by repeat (first | exact Sp.refl _ | exact Sp.sub (by assumption) | refine Sp.cons (by repeat (first | exact Pick.here | apply Pick.there)) ?_ | exact Sp.nil | apply Sp.skip))))
      all_goals (intro j hj hcj; rcases j with _|_|_|_|_|_|_|_|_|_|_|_|_|_|_|_|_|_|_|j <;> first | rfl | exact absurd rfl hj | exact absurd hcj (by decide))
    · refine ⟨fun x S D he hw hd hD _ => ?_, trivial⟩
      first | refine TOps.fieldB 1 (he _ _ rfl) Try.underlying24 rfl rfl ti22 rfl rfl rfl ?_ | refine TOps.fieldN 1 (he _ _ rfl) Try.underlying24 rfl rfl ti22 rfl rfl rfl ?_
      exact TOps.fin (Nrm.drawM x (fun _ _ _ => rfl) rfl (by first | exact Le.refl _ | assumption | exact (by repeat (first | exact Le.refl _ | assumption | apply Le.drop))))
    · refine ⟨fun x S D he hw hd hD _ => ?_, trivial⟩
      obtain ⟨h3, -⟩ := hd
      refine TOps.load1 h3 ti22 (Rd.le (by first | exact Rd.lit (by repeat (first | exact List.Mem.head _ | apply List.Mem.tail)) rfl | (repeat (first | assumption | exact Rd.fld (by assumption) 1 rfl | apply Rd.up))) (hll x D)) rfl ?_
      exact TOps.fin (Nrm.drawM x (fun _ _ _ => rfl) rfl (by first | exact Le.refl _ | assumption | exact (by repeat (first | exact Le.refl _ | assumption | apply Le.drop))))
    · refine ⟨fun x S D he hw hd hD _ => ?_, trivial⟩
      obtain ⟨h2, h4, -⟩ := hd
      replace hD := mem_of_eq (L' := [[2], [2, 17], [2, 11], [2, 11, 17], [2, 8], [2, 8, 17], [2, 8, 11], [2, 8, 11, 17], [2, 8, 11, 13], [2, 8, 11, 13, 17]]) hD (by kernel_rfl)
      simp only [List.mem_cons, List.not_mem_nil, or_false] at hD
      rcases hD with rfl | rfl | rfl | rfl | rfl | rfl | rfl | rfl | rfl | rfl
      all_goals refine TOps.append (ys := CELLS) h2 h4 Try.underlying22 ti36 rfl (fun _ _ => (by repeat (first | exact Upd.here | apply Upd.there))) (RdS.le hys (hll x _)) hcl rfl hc1' (by omega) (by omega) rfl (fun a' c' ha' => ?_)
      all_goals refine TOps.fin (Nrm.drawM {x with a5 := a', c5 := c'} ?_ rfl (Sp.le (by repeat (first | exact Sp.refl _ | exact Sp.sub (by assumption) | refine Sp.cons (by repeat (first | exact Pick.here | apply Pick.there)) ?_ | exact Sp.nil | apply Sp.skip))))
      all_goals (intro j hj hcj; rcases j with _|_|_|_|_|_|_|_|_|_|_|_|_|_|_|_|_|_|_|j <;> first | rfl | exact absurd rfl hj | exact absurd hcj (by decide))
    · refine ⟨fun x S D he hw hd hD _ => ?_, trivial⟩
      first | refine TOps.fieldB 2 (he _ _ rfl) Try.underlying24 rfl rfl ti3 rfl rfl rfl ?_ | refine TOps.fieldN 2 (he _ _ rfl) Try.underlying24 rfl rfl ti3 rfl rfl rfl ?_
      exact TOps.fin (Nrm.drawM x (fun _ _ _ => rfl) rfl (by first | exact Le.refl _ | assumption | exact (by repeat (first | exact Le.refl _ | assumption | apply Le.drop))))
    · refine ⟨fun x S D he hw hd hD _ => ?_, trivial⟩
      obtain ⟨h6, -⟩ := hd
      refine TOps.load1 h6 ti3 (Rd.le (by first | exact Rd.lit (by repeat (first | exact List.Mem.head _ | apply List.Mem.tail)) rfl | (repeat (first | assumption | exact Rd.fld (by assumption) 2 rfl | apply Rd.up))) (hll x D)) rfl ?_
      exact TOps.fin (Nrm.drawM x (fun _ _ _ => rfl) rfl (by first | exact Le.refl _ | assumption | exact (by repeat (first | exact Le.refl _ | assumption | apply Le.drop))))
    · refine ⟨fun x S D he hw hd hD _ => ?_, trivial⟩
      obtain ⟨h7, -⟩ := hd
      replace hD := mem_of_eq (L' := [[], [17], [11], [11, 17], [2], [2, 17], [2, 11], [2, 11, 17], [2, 5], [2, 5, 17], [2, 5, 11], [2, 5, 11, 17]]) hD (by kernel_rfl)
      simp only [List.mem_cons, List.not_mem_nil, or_false] at hD
      rcases hD with rfl | rfl | rfl | rfl | rfl | rfl | rfl | rfl | rfl | rfl | rfl | rfl
      all_goals refine TOps.buildSlice (vs := [_]) (xs := [_]) Try.underlying34 ti3 ⟨rfl, h7, trivial⟩ rfl rfl rfl rfl rfl rfl (by decide) rfl (fun b58 => ?_)
      all_goals refine TOps.fin (Nrm.drawM {x with b8 := b58} ?_ rfl (Sp.le (by repeat (first | exact Sp.refl _ | exact Sp.sub (by assumption) | refine Sp.cons (by repeat (first | exact Pick.here | apply Pick.there)) ?_ | exact Sp.nil | apply Sp.skip))))
      all_goals (intro j hj hcj; rcases j with _|_|_|_|_|_|_|_|_|_|_|_|_|_|_|_|_|_|_|j <;> first | rfl | exact absurd rfl hj | exact absurd hcj (by decide))
    · refine ⟨fun x S D he hw hd hD _ => ?_, trivial⟩
      obtain ⟨h8, -⟩ := hd
      refine TOps.buildStruct (vs := [(0, _), (2, _)]) (xs := [_, _, _]) [(0, 1), (1, 1), (2, 1)] Try.underlying36 ti36 (fun w => by simp) ⟨rfl, rfl, rfl, h8, trivial⟩ rfl rfl ?_
      exact TOps.fin (Nrm.drawM x (fun _ _ _ => rfl) rfl (by first | exact Le.refl _ | assumption | exact (by repeat (first | exact Le.refl _ | assumption | apply Le.drop))))
    · refine ⟨fun x S D he hw hd hD _ => ?_, trivial⟩
      refine TOps.move (he _ _ rfl) rfl ?_
      exact TOps.fin (Nrm.drawM x (fun _ _ _ => rfl) rfl (by first | exact Le.refl _ | assumption | exact (by repeat (first | exact Le.refl _ | assumption | apply Le.drop))))
    · refine ⟨fun x S D he hw hd hD _ => ?_, trivial⟩
      obtain ⟨h10, -⟩ := hd
      replace hD := mem_of_eq (L' := [[], [17], [8], [8, 17], [2], [2, 17], [2, 8], [2, 8, 17], [2, 5], [2, 5, 17], [2, 5, 8], [2, 5, 8, 17]]) hD (by kernel_rfl)
      simp only [List.mem_cons, List.not_mem_nil, or_false] at hD
      rcases hD with rfl | rfl | rfl | rfl | rfl | rfl | rfl | rfl | rfl | rfl | rfl | rfl
      all_goals refine TOps.buildSlice (vs := [_]) (xs := [_]) Try.underlying34 ti3 ⟨rfl, h10, trivial⟩ rfl rfl rfl rfl rfl rfl (by decide) rfl (fun b61 => ?_)
      all_goals refine TOps.fin (Nrm.drawM {x with b11 := b61} ?_ rfl (Sp.le (by repeat (first | exact Sp.refl _ | exact Sp.sub (by assumption) | refine Sp.cons (by repeat (first | exact Pick.here | apply Pick.there)) ?_ | exact Sp.nil | apply Sp.skip))))
      all_goals (intro j hj hcj; rcases j with _|_|_|_|_|_|_|_|_|_|_|_|_|_|_|_|_|_|_|j <;> first | rfl | exact absurd rfl hj | exact absurd hcj (by decide))
    · refine ⟨fun x S D he hw hd hD _ => ?_, trivial⟩
      obtain ⟨h11, -⟩ := hd
      refine TOps.buildStruct (vs := [(0, _), (2, _)]) (xs := [_, _, _]) [(0, 1), (1, 1), (2, 1)] Try.underlying36 ti36 (fun w => by simp) ⟨rfl, rfl, rfl, h11, trivial⟩ rfl rfl ?_
      exact TOps.fin (Nrm.drawM x (fun _ _ _ => rfl) rfl (by first | exact Le.refl _ | assumption | exact (by repeat (first | exact Le.refl _ | assumption | apply Le.drop))))
    · refine ⟨fun x S D he hw hd hD _ => ?_, trivial⟩
      obtain ⟨h9, h12, -⟩ := hd
      replace hD := mem_of_eq (L' := [[8, 11], [8, 11, 17], [2, 8, 11], [2, 8, 11, 17], [2, 5, 8, 11], [2, 5, 8, 11, 17]]) hD (by kernel_rfl)
      simp only [List.mem_cons, List.not_mem_nil, or_false] at hD
      rcases hD with rfl | rfl | rfl | rfl | rfl | rfl
      all_goals refine TOps.buildSlice (vs := [_, _]) (xs := [_, _, _, _, _, _]) Try.underlying22 ti36 ⟨rfl, h9, rfl, h12, trivial⟩ rfl rfl rfl rfl rfl rfl (by decide) rfl (fun b63 => ?_)
      all_goals refine TOps.fin (Nrm.drawM {x with b13 := b63} ?_ rfl (Sp.le (by repeat (first | exact Sp.refl _ | exact Sp.sub (by assumption) | refine Sp.cons (by repeat (first | exact Pick.here | apply Pick.there)) ?_ | exact Sp.nil | apply Sp.skip))))
      all_goals (intro j hj hcj; rcases j with _|_|_|_|_|_|_|_|_|_|_|_|_|_|_|_|_|_|_|j <;> first | rfl | exact absurd rfl hj | exact absurd hcj (by decide))
    · refine ⟨fun x S D he hw hd hD _ => ?_, trivial⟩
      obtain ⟨h5, h13, _, -⟩ := hd
      replace hD := mem_of_eq (L' := [[2, 5, 8, 11, 13], [2, 5, 8, 11, 13, 17]]) hD (by kernel_rfl)
      simp only [List.mem_cons, List.not_mem_nil, or_false] at hD
      rcases hD with rfl | rfl
      all_goals refine TOps.append (ys := x.six) h5 h13 Try.underlying22 ti36 rfl (fun _ _ => (by repeat (first | exact Upd.here | apply Upd.there))) (RdS.ofRowS (by repeat (first | exact List.Mem.head _ | apply List.Mem.tail))) rfl (by rw [hcl]; omega) (by intro u hu; simp at hu; rcases hu with rfl | rfl | rfl | rfl | rfl | rfl <;> rfl) (by omega) (by omega) rfl (fun a' c' ha' => ?_)
      all_goals obtain ⟨b', rfl⟩ := ha' (by simp)
      all_goals refine TOps.fin (Nrm.drawM {x with a14 := b', c14 := c'} ?_ rfl (Sp.le (by repeat (first | exact Sp.refl _ | exact Sp.sub (by assumption) | refine Sp.cons (by repeat (first | exact Pick.here | apply Pick.there)) ?_ | exact Sp.nil | apply Sp.skip))))
      all_goals (intro j hj hcj; rcases j with _|_|_|_|_|_|_|_|_|_|_|_|_|_|_|_|_|_|_|j <;> first | rfl | exact absurd rfl hj | exact absurd hcj (by decide))
    · refine ⟨fun x S D he hw hd hD _ => ?_, trivial⟩
      refine TOps.move (he _ _ rfl) rfl ?_
      exact TOps.fin (Nrm.drawM x (fun _ _ _ => rfl) rfl (by first | exact Le.refl _ | assumption | exact (by repeat (first | exact Le.refl _ | assumption | apply Le.drop))))
    · refine ⟨fun x S D he hw hd hD _ => ?_, trivial⟩
      obtain ⟨h1, h14, h15, -⟩ := hd
      refine TOps.buildStruct (vs := [(0, _), (1, _), (2, _)]) (xs := [_, _, _]) [(0, 1), (1, 1), (2, 1)] Try.underlying24 ti24 (fun w => by simp) ⟨rfl, h1, rfl, h14, rfl, h15, trivial⟩ rfl rfl ?_
      exact TOps.fin (Nrm.drawM x (fun _ _ _ => rfl) rfl (by first | exact Le.refl _ | assumption | exact (by repeat (first | exact Le.refl _ | assumption | apply Le.drop))))
    · refine ⟨fun x S D he hw hd hD _ => ?_, trivial⟩
      replace hD := mem_of_eq (L' := [[], [11], [8], [8, 11], [8, 11, 13], [2], [2, 11], [2, 8], [2, 8, 11], [2, 8, 11, 13], [2, 5], [2, 5, 11], [2, 5, 8], [2, 5, 8, 11], [2, 5, 8, 11, 13], [2, 5, 8, 11, 13, 14]]) hD (by kernel_rfl)
      simp only [List.mem_cons, List.not_mem_nil, or_false] at hD
      rcases hD with rfl | rfl | rfl | rfl | rfl | rfl | rfl | rfl | rfl | rfl | rfl | rfl | rfl | rfl | rfl | rfl
      all_goals refine TOps.alloc ti24 rfl (fun b67 => ?_)
      all_goals refine TOps.fin (Nrm.drawM {x with b17 := b67} ?_ rfl (Sp.le (by repeat (first | exact Sp.refl _ | exact Sp.sub (by assumption) | refine Sp.cons (by repeat (first | exact Pick.here | apply Pick.there)) ?_ | exact Sp.nil | apply Sp.skip))))
      all_goals (intro j hj hcj; rcases j with _|_|_|_|_|_|_|_|_|_|_|_|_|_|_|_|_|_|_|j <;> first | rfl | exact absurd rfl hj | exact absurd hcj (by decide))
    · refine ⟨fun x S D he hw hd hD _ => ?_, trivial⟩
      obtain ⟨h17, h16, h14, h0, h1, h2, h3, h4, h5, h6, h7, h8, h9, h10, h11, h12, h13, _, h15, _, _, -⟩ := hd
      replace hD := mem_of_eq (L' := [[2, 5, 8, 11, 13, 14, 17]]) hD (by kernel_rfl)
      simp only [List.mem_cons, List.not_mem_nil, or_false] at hD
      rcases hD with rfl
      all_goals refine TOps.storeN h17 h16 ti24 rfl rfl (by repeat (first | exact Upd.here | apply Upd.there)) (by simp) ?_
      all_goals exact TOps.fin (Nrm.drawM x (fun _ _ _ => rfl) rfl (Sp.le (by repeat (first | exact Sp.refl _ | exact Sp.sub (by assumption) | refine Sp.cons (by repeat (first | exact Pick.here | apply Pick.there)) ?_ | exact Sp.nil | apply Sp.skip))))
    ) (fun z => ?_)
  obtain ⟨H5, hH5⟩ : ∃ H5, H5 = row (some z.a14) 36 3 z.c14 (CELLS ++ z.six) :: row (some z.b8) 3 1 1 [.int .i64 F.top] :: row (some z.b11) 3 1 1 [.int .i64 (F.vars + F.nodes.length)] :: H2 := ⟨_, rfl⟩
  refine Nrm.le (H' := row (some z.b17) 24 3 1 [.int .i64 F.vars, slV (some z.a14) 0 (0 + F.nodes.length + 2) z.c14, .int .i64 (F.vars + F.nodes.length)] :: H5) (by subst hH5; exact (Sp.le (by repeat (first | exact Sp.refl _ | exact Sp.sub (by assumption) | refine Sp.cons (by repeat (first | exact Pick.here | apply Pick.there)) ?_ | exact Sp.nil | apply Sp.skip)))) ?_
  have l5 : Le H5 H2 := by rw [hH5]; exact Le.drop (Le.drop (Le.drop (Le.refl _)))
  have hA : ArgsIn H5 (F.nodes ++ [⟨1, 0, [F.top]⟩] ++ [⟨1, 0, [F.vars + F.nodes.length]⟩]) (qs ++ [(some z.b8, 0, 1, none)] ++ [(some z.b11, 0, 1, none)]) := ((hqs.le l5).snoc (by rw [hH5]; exact RInts.ofRow (xs := [F.top]) (by repeat (first | exact List.Mem.head _ | apply List.Mem.tail)))).snoc (by rw [hH5]; exact RInts.ofRow (xs := [F.vars + F.nodes.length]) (by repeat (first | exact List.Mem.head _ | apply List.Mem.tail)))
  have hRN : RNodes H5 (some z.a14) 0 (F.nodes ++ [⟨1, 0, [F.top]⟩] ++ [⟨1, 0, [F.vars + F.nodes.length]⟩]) := RNodes.ofA (E := 36) (sz := 3) (cap := z.c14) (by rw [hH5, nsCells_snoc _ _ _ _ (by simp [hqs.1]), nsCells_snoc _ _ _ _ hqs.1, ← hCE]; rw [List.append_assoc]; exact List.Mem.head _) hA (fun _ => ⟨_, rfl⟩)
  rw [List.append_assoc] at hRN
  have hRF : ∀ (t : Int) (e : Ent), RF (e :: H5) (.agg (List.toArray [.int .i64 F.vars, slV (some z.a14) 0 (F.nodes.length + 2) z.c14, .int .i64 t])) (G t) := fun t e => ⟨some z.a14, 0, z.c14, none, by rw [hG]; simp [Fm.plus], (by rw [hG]; exact hRN.le (Le.drop (Le.refl _)))⟩
  replace hF0 := hF0.le l5; replace r1 := r1.le l5; replace r2 := r2.le l5
  clear hH5 hll hRN hA
  rw [show 0 + F.nodes.length + 2 = F.nodes.length + 2 by omega]
  generalize z.b17 = b10 at *
  refine Nrm.next ?_
  refine Tri.seq (Tri.region ?_)
  refine TOps.loadN rfl ti24 (by first | exact Rd.all (by repeat (first | exact List.Mem.head _ | apply List.Mem.tail)) | (repeat (first | assumption | apply Rd.up))) rfl rfl ?_
  refine TOps.loadN rfl ti31 (by first | exact Rd.all (by repeat (first | exact List.Mem.head _ | apply List.Mem.tail)) | (repeat (first | assumption | apply Rd.up))) rfl rfl ?_
  refine TOps.call (vs := [_, _]) Try.call13 ⟨rfl, rfl, trivial⟩ (tvalue_g (hF0.le (Le.drop (Le.refl _))) hk _ _) rfl ?_
  rintro _ _ ⟨rfl, rfl⟩
  rw [c0, hT, show (bif (none : Option Int).isNone then (T : Int) else 0) = T from rfl]
  refine TOps.move rfl rfl ?_
  refine TOps.extract rfl rfl rfl ?_
  refine TOps.extract rfl rfl rfl ?_
  refine TOps.assign rfl rfl ?_
  refine TOps.assign rfl rfl ?_
  refine TOps.next ?_
  refine Tri.seq (Tri.region ?_)
  refine TOps.loadN rfl ti24 (by first | exact Rd.all (by repeat (first | exact List.Mem.head _ | apply List.Mem.tail)) | (repeat (first | assumption | apply Rd.up))) rfl rfl ?_
  refine TOps.loadN rfl ti31 (by first | exact Rd.all (by repeat (first | exact List.Mem.head _ | apply List.Mem.tail)) | (repeat (first | assumption | apply Rd.up))) rfl rfl ?_
  refine TOps.call (vs := [_, _]) Try.call13 ⟨rfl, rfl, trivial⟩ (tvalue_g (hRF (F.vars + F.nodes.length) _) gd1.ok _ _) rfl ?_
  rintro _ _ ⟨rfl, rfl⟩
  rw [c1, hGt, w1, show (bif (none : Option Int).isNone then ((negT T : Nat) : Int) else 0) = (negT T : Nat) from rfl]
  refine TOps.move rfl rfl ?_
  refine TOps.extract rfl rfl rfl ?_
  refine TOps.extract rfl rfl rfl ?_
  refine TOps.assign rfl rfl ?_
  refine TOps.assign rfl rfl ?_
  refine TOps.next ?_
  refine Tri.seq (Tri.region ?_)
  refine TOps.move rfl rfl ?_
  refine TOps.add (r := F.vars + F.nodes.length + 1) rfl rfl (by rw [wrapI (by omega) (by omega)]) rfl ?_
  first | refine TOps.fieldB 2 rfl Try.underlying24 rfl rfl ti3 rfl rfl rfl ?_ | refine TOps.fieldN 2 rfl Try.underlying24 rfl rfl ti3 rfl rfl rfl ?_
  refine TOps.store1 rfl rfl ti3 rfl rfl (by repeat (first | exact Upd.here | apply Upd.there)) (by first | decide | (simp; done) | (simp; omega)) ?_
  refine TOps.next ?_
  refine Tri.seq (Tri.region ?_)
  refine TOps.loadN rfl ti24 (by first | exact Rd.all (by repeat (first | exact List.Mem.head _ | apply List.Mem.tail)) | (repeat (first | assumption | apply Rd.up))) rfl rfl ?_
  refine TOps.loadN rfl ti31 (by first | exact Rd.all (by repeat (first | exact List.Mem.head _ | apply List.Mem.tail)) | (repeat (first | assumption | apply Rd.up))) rfl rfl ?_
  refine TOps.call (vs := [_, _]) Try.call13 ⟨rfl, rfl, trivial⟩ (tvalue_g (hRF (F.vars + F.nodes.length + 1) _) gd2.ok _ _) rfl ?_
  rintro _ _ ⟨rfl, rfl⟩
  rw [c2, hGt, w2, show (bif (none : Option Int).isNone then (T : Int) else 0) = T from rfl]
  refine TOps.move rfl rfl ?_
  refine TOps.extract rfl rfl rfl ?_
  refine TOps.extract rfl rfl rfl ?_
  refine TOps.assign rfl rfl ?_
  refine TOps.assign rfl rfl ?_
  refine TOps.next ?_
  refine Tri.seq ?_
  refine Tri.seq (Tri.region ?_)
  refine TOps.move rfl rfl ?_
  refine TOps.neqNil (T := 62) (o := none) rfl Try.underlying28 rfl ?_
  refine TOps.move rfl rfl ?_
  refine' TOps.orB 2 rfl rfl rfl rfl (fun hg10_2 => ?_) ?_; rotate_left
  · have hg10_2' := hg10_2
    try simp only [decide_eq_true_eq, decide_eq_false_iff_not, Bool.and_eq_true, Bool.or_eq_true, Bool.not_eq_true', Bool.and_eq_false_iff, Bool.or_eq_false_iff, Bool.not_eq_false', Int.not_lt, Int.not_le, ne_eq, Decidable.not_not] at hg10_2'
    refine TOps.strip 2 false rfl rfl hg10_2 rfl ?_
    refine TOps.move rfl rfl ?_
    refine TOps.neqNil (T := 62) (o := none) rfl Try.underlying28 rfl ?_
    refine TOps.blk rfl (by repeat (first | exact Ext.refl _ | refine Ext.cons rfl ?_)) (by repeat (first | exact Le.refl _ | apply Le.drop))
  refine TOps.move rfl rfl ?_
  refine' TOps.orB 2 rfl rfl rfl rfl (fun hg10_6 => ?_) ?_; rotate_left
  · have hg10_6' := hg10_6
    try simp only [decide_eq_true_eq, decide_eq_false_iff_not, Bool.and_eq_true, Bool.or_eq_true, Bool.not_eq_true', Bool.and_eq_false_iff, Bool.or_eq_false_iff, Bool.not_eq_false', Int.not_lt, Int.not_le, ne_eq, Decidable.not_not] at hg10_6'
    refine TOps.strip 6 false rfl rfl hg10_6 rfl ?_
    refine TOps.move rfl rfl ?_
    refine TOps.neqNil (T := 62) (o := none) rfl Try.underlying28 rfl ?_
    refine TOps.blk rfl (by repeat (first | exact Ext.refl _ | refine Ext.cons rfl ?_)) (by repeat (first | exact Le.refl _ | apply Le.drop))
  refine TOps.move rfl rfl ?_
  refine' TOps.orB 3 rfl rfl rfl rfl (fun hg10_10 => ?_) ?_; rotate_left
  · have hg10_10' := hg10_10
    try simp only [decide_eq_true_eq, decide_eq_false_iff_not, Bool.and_eq_true, Bool.or_eq_true, Bool.not_eq_true', Bool.and_eq_false_iff, Bool.or_eq_false_iff, Bool.not_eq_false', Int.not_lt, Int.not_le, ne_eq, Decidable.not_not] at hg10_10'
    refine TOps.strip 10 false rfl rfl hg10_10 rfl ?_
    refine TOps.move rfl rfl ?_
    refine TOps.move rfl rfl ?_
    refine TOps.neqI rfl rfl rfl ?_
    refine TOps.blk rfl (by repeat (first | exact Ext.refl _ | refine Ext.cons rfl ?_)) (by repeat (first | exact Le.refl _ | apply Le.drop))
  refine TOps.next ?_
  refine Tri.cond rfl (fun hc2 => ?_) (fun hc2 => ?_)
  · try simp only [decide_eq_true_eq, decide_eq_false_iff_not, Bool.and_eq_true, Bool.or_eq_true, Bool.not_eq_true', Bool.and_eq_false_iff, Bool.or_eq_false_iff, Bool.not_eq_false', Int.not_lt, Int.not_le, ne_eq, Decidable.not_not, Option.isSome_iff_ne_none, Option.isNone_iff_eq_none] at hc2
    have hfalse : False := by simp at hc2
    refine Tri.seq (Tri.region ?_)
    refine TOps.assign rfl rfl ?_
    refine TOps.next ?_
    exact hfalse.elim
  try simp only [decide_eq_true_eq, decide_eq_false_iff_not, Bool.and_eq_true, Bool.or_eq_true, Bool.not_eq_true', Bool.and_eq_false_iff, Bool.or_eq_false_iff, Bool.not_eq_false', Int.not_lt, Int.not_le, ne_eq, Decidable.not_not, Option.isSome_iff_ne_none, Option.isNone_iff_eq_none] at hc2
  refine Tri.fin ?_
  refine Nrm.next ?_
  refine Tri.seq (Tri.region ?_)
  refine TOps.move rfl rfl ?_
  refine TOps.eqlI rfl rfl rfl ?_
  refine TOps.move rfl rfl ?_
  refine' TOps.andB 3 rfl rfl rfl rfl (fun hg12_2 => ?_) ?_; rotate_left
  · have hg12_2' := hg12_2
    try simp only [decide_eq_true_eq, decide_eq_false_iff_not, Bool.and_eq_true, Bool.or_eq_true, Bool.not_eq_true', Bool.and_eq_false_iff, Bool.or_eq_false_iff, Bool.not_eq_false', Int.not_lt, Int.not_le, ne_eq, Decidable.not_not] at hg12_2'
    refine TOps.strip 2 true rfl rfl hg12_2 rfl ?_
    refine TOps.move rfl rfl ?_
    refine TOps.move rfl rfl ?_
    refine TOps.eqlI rfl rfl rfl ?_
    refine TOps.blk rfl (by repeat (first | exact Ext.refl _ | refine Ext.cons rfl ?_)) (by repeat (first | exact Le.refl _ | apply Le.drop))
  refine TOps.move rfl rfl ?_
  refine' TOps.orB 8 rfl rfl rfl rfl (fun hg12_7 => ?_) ?_; rotate_left
  · have hg12_7' := hg12_7
    try simp only [decide_eq_true_eq, decide_eq_false_iff_not, Bool.and_eq_true, Bool.or_eq_true, Bool.not_eq_true', Bool.and_eq_false_iff, Bool.or_eq_false_iff, Bool.not_eq_false', Int.not_lt, Int.not_le, ne_eq, Decidable.not_not] at hg12_7'
    refine TOps.strip 7 false rfl rfl hg12_7 rfl ?_
    refine TOps.move rfl rfl ?_
    refine TOps.neqI rfl rfl rfl ?_
    refine TOps.move rfl rfl ?_
    refine' TOps.andB 4 rfl rfl rfl rfl (fun hg12_10 => ?_) ?_; rotate_left
    · have hg12_10' := hg12_10
      try simp only [decide_eq_true_eq, decide_eq_false_iff_not, Bool.and_eq_true, Bool.or_eq_true, Bool.not_eq_true', Bool.and_eq_false_iff, Bool.or_eq_false_iff, Bool.not_eq_false', Int.not_lt, Int.not_le, ne_eq, Decidable.not_not] at hg12_10'
      refine TOps.strip 10 true rfl rfl hg12_10 rfl ?_
      refine TOps.move rfl rfl ?_
      refine TOps.move rfl rfl ?_
      refine TOps.add (r := ((T + negT T : Nat) : Int)) rfl rfl (by rw [wrapI (by omega) (by omega)]; omega) rfl ?_
      refine TOps.eqlI rfl rfl rfl ?_
      refine TOps.blk rfl (by repeat (first | exact Ext.refl _ | refine Ext.cons rfl ?_)) (by repeat (first | exact Le.refl _ | apply Le.drop))
    refine TOps.blk rfl (by repeat (first | exact Ext.refl _ | refine Ext.cons rfl ?_)) (by repeat (first | exact Le.refl _ | apply Le.drop))
  refine TOps.assign rfl rfl ?_
  refine TOps.next ?_
  refine Tri.ret1 (H' := H) Try.results3 (fun _ _ h => h) (.tmp rfl) (Le.drop (l5.trans (l2.trans l1))) ⟨by rcases hT3 with h | h | h <;> rw [h] <;> rfl, rfl⟩
end Go.Proofs
