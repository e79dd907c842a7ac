import Derived.Test.YtlbiojciipkgbaaC28
namespace Go.Proofs
open Go.GL
set_option linter.unusedVariables false
set_option linter.unusedSimpArgs false
theorem coherentNegates_g {H : List Ent} {fv : Value} {F : Fm} (hF : RF H fv F) (hk : F.ok) (i : Int) :
    Gives Try.prog 8 [fv, .int .i64 i] H (R1 (.bool true) H) := by
  have hF0 := hF
  have k3 := hk.2.2.2
  obtain ⟨na, off, cap, nsp, rfl, hN⟩ := hF
  refine Gives.enter Try.func8 rfl (by exact Try.ntmps8) rfl ?_
  refine Tri.seq (Tri.region ?_)
  refine TOps.boxN rfl ti24 rfl rfl (fun b2 => ?_)
  refine TOps.hide (fun H1 l1 s1 r1 => ?_)
  replace hF0 := hF0.le l1; replace hN := hN.le l1
  refine TOps.assign rfl rfl ?_
  refine TOps.next ?_
  refine Tri.seq ?_
  refine Tri.seq (Tri.region ?_)
  refine TOps.loadN rfl ti24 (by first | exact Rd.all (by repeat (first | exact List.Mem.head _ | apply List.Mem.tail)) | (repeat (first | assumption | apply Rd.up))) rfl rfl ?_
  refine TOps.call (vs := [_]) Try.call15 ⟨rfl, trivial⟩ (valid28_g hF0 hk) rfl ?_
  rintro _ _ ⟨q, hq, rfl, rfl⟩
  refine TOps.not rfl rfl ?_
  refine TOps.move rfl rfl ?_
  refine' TOps.orB 4 rfl rfl rfl rfl (fun hg1_3 => ?_) ?_; rotate_left
  · have hg1_3' := hg1_3
    try simp only [decide_eq_true_eq, decide_eq_false_iff_not, Bool.and_eq_true, Bool.or_eq_true, Bool.not_eq_true', Bool.and_eq_false_iff, Bool.or_eq_false_iff, Bool.not_eq_false', Int.not_lt, Int.not_le, ne_eq, Decidable.not_not] at hg1_3'
    refine TOps.strip 3 false rfl rfl hg1_3 rfl ?_
    first | refine TOps.fieldB 1 rfl Try.underlying24 rfl rfl ti22 rfl rfl rfl ?_ | refine TOps.fieldN 1 rfl Try.underlying24 rfl rfl ti22 rfl rfl rfl ?_
    refine TOps.load1 rfl ti22 (by first | exact Rd.lit (by repeat (first | exact List.Mem.head _ | apply List.Mem.tail)) rfl | (repeat (first | assumption | exact Rd.fld (by assumption) 1 rfl | apply Rd.up))) rfl ?_
    refine TOps.len rfl Try.underlying22 rfl ?_
    refine TOps.geq rfl rfl rfl ?_
    refine TOps.blk rfl (by repeat (first | exact Ext.refl _ | refine Ext.cons rfl ?_)) (by repeat (first | exact Le.refl _ | apply Le.drop))
  refine TOps.move rfl rfl ?_
  refine' TOps.orB 2 rfl rfl rfl rfl (fun hg1_9 => ?_) ?_; rotate_left
  · have hg1_9' := hg1_9
    try simp only [decide_eq_true_eq, decide_eq_false_iff_not, Bool.and_eq_true, Bool.or_eq_true, Bool.not_eq_true', Bool.and_eq_false_iff, Bool.or_eq_false_iff, Bool.not_eq_false', Int.not_lt, Int.not_le, ne_eq, Decidable.not_not] at hg1_9'
    refine TOps.strip 9 false rfl rfl hg1_9 rfl ?_
    refine TOps.call (vs := []) Try.call10 trivial (awake28_g) rfl ?_
    rintro _ _ ⟨rfl, rfl⟩
    refine TOps.not rfl rfl ?_
    refine TOps.blk rfl (by repeat (first | exact Ext.refl _ | refine Ext.cons rfl ?_)) (by repeat (first | exact Le.refl _ | apply Le.drop))
  refine TOps.next ?_
  refine Tri.cond rfl (fun hc1 => ?_) (fun hc1 => ?_)
  · try simp only [decide_eq_true_eq, decide_eq_false_iff_not, Bool.and_eq_true, Bool.or_eq_true, Bool.not_eq_true', Bool.and_eq_false_iff, Bool.or_eq_false_iff, Bool.not_eq_false', Int.not_lt, Int.not_le, ne_eq, Decidable.not_not, Option.isSome_iff_ne_none, Option.isNone_iff_eq_none] at hc1
    refine Tri.seq (Tri.region ?_)
    refine TOps.call (vs := []) Try.call10 trivial (awake28_g) rfl ?_
    rintro _ _ ⟨rfl, rfl⟩
    refine TOps.assign rfl rfl ?_
    refine TOps.next ?_
    refine Tri.ret1 (H' := H) Try.results8 (fun _ _ h => h) (.tmp rfl) l1 ⟨rfl, rfl⟩
  try simp only [decide_eq_true_eq, decide_eq_false_iff_not, Bool.and_eq_true, Bool.or_eq_true, Bool.not_eq_true', Bool.and_eq_false_iff, Bool.or_eq_false_iff, Bool.not_eq_false', Int.not_lt, Int.not_le, ne_eq, Decidable.not_not, Option.isSome_iff_ne_none, Option.isNone_iff_eq_none] at hc1
  have he : F.terr = none := hq (by simpa using hc1.1.1)
  have hlen : F.nodes.length + 1 ≤ 128 := by have := hc1.1.2; omega
  obtain ⟨hg, h12⟩ := Fm.terr_none he
  have g0 := hg.v0; have g1 := hg.v1; have g2 := hg.n1; have gt := hg.topLt
  have hng := Fm.neg_good hg hlen
  have hnt := Fm.neg_terr he hlen
  have hNe : F.neg = ⟨F.vars, F.nodes ++ [⟨1, 0, [F.top]⟩], F.vars + F.nodes.length⟩ := rfl
  refine Tri.fin ?_
  refine Nrm.next ?_
  refine Tri.seq ?_
  obtain ⟨qs, hqs, hys⟩ := hN.cells
  have hcl := nsCells_length F.nodes qs hqs.1
  have hc1' := nsCells_one' F.nodes qs
  obtain ⟨CELLS, hCE⟩ : ∃ CELLS, CELLS = nsCells F.nodes qs := ⟨_, rfl⟩
  rw [← hCE] at hcl hc1' hys
  have hll : ∀ (x : NX) (D : List Nat), Le (on D [2] [5] [row (some x.b2) 52 3 0 []] ++ (on D [5] [11] [row x.a5 52 3 x.c5 CELLS] ++ (on D [11] [] [row (some x.a11) 52 3 x.c11 (CELLS ++ x.three)] ++ (on D [8] [] [row (some x.b8) 3 1 1 [.int .i64 F.top]] ++ (on D [10] [] [row (some x.b10) 52 3 1 x.three] ++ (on D [19] [20] [row (some x.b19) 24 3 1 [.int .i64 0, slV none 0 0 0, .int .i64 0]] ++ (on D [20] [] [row (some x.b19) 24 3 1 [.int .i64 F.vars, slV (some x.a11) 0 (0 + F.nodes.length + 1) x.c11, .int .i64 (F.vars + F.nodes.length)]] ++ H1))))))) H1 := fun x D => Le.sub (by repeat (first | exact List.Sublist.refl _ | apply sub_on))
  refine Tri.drawM (X := NX) rfl [(1, .int .i64 i), (2, .pointer (some ⟨b2, 0, none⟩))] [] (fun x => [_, _, slV (some x.b2) 0 0 0, _, _, slV x.a5 0 (0 + F.nodes.length) x.c5, _, _, slV (some x.b8) 0 1 1, .agg (List.toArray [.int .i64 1, .int .i64 0, slV (some x.b8) 0 1 1]), slV (some x.b10) 0 1 1, slV (some x.a11) 0 (0 + F.nodes.length + 1) x.c11, _, _, _, _, _, _, .agg (List.toArray [.int .i64 F.vars, slV (some x.a11) 0 (0 + F.nodes.length + 1) x.c11, .int .i64 (F.vars + F.nodes.length)]), .pointer (some ⟨x.b19, 0, none⟩), undef]) (fun x D => on D [2] [5] [row (some x.b2) 52 3 0 []] ++ (on D [5] [11] [row x.a5 52 3 x.c5 CELLS] ++ (on D [11] [] [row (some x.a11) 52 3 x.c11 (CELLS ++ x.three)] ++ (on D [8] [] [row (some x.b8) 3 1 1 [.int .i64 F.top]] ++ (on D [10] [] [row (some x.b10) 52 3 1 x.three] ++ (on D [19] [20] [row (some x.b19) 24 3 1 [.int .i64 0, slV none 0 0 0, .int .i64 0]] ++ (on D [20] [] [row (some x.b19) 24 3 1 [.int .i64 F.vars, slV (some x.a11) 0 (0 + F.nodes.length + 1) x.c11, .int .i64 (F.vars + F.nodes.length)]] ++ H1))))))) [2, 5, 8, 10, 11, 19, 20] [0, 1, 0, 0, 8, 28, 0, 64, 192, 448, 960, 2044, 0, 4096, 0, 16384, 49152, 126976, 262143, 0, 1048575] [[], [19], [8], [8, 19], [8, 10], [8, 10, 19], [2], [2, 19], [2, 8], [2, 8, 19], [2, 8, 10], [2, 8, 10, 19], [2, 5], [2, 5, 19], [2, 5, 8], [2, 5, 8, 19], [2, 5, 8, 10], [2, 5, 8, 10, 19], [2, 5, 8, 10, 11], [2, 5, 8, 10, 11, 19], [2, 5, 8, 10, 11, 19, 20]] ⟨0, none, 0, 0, 0, 0, 0, 0⟩ [19] rfl rfl (by kernel_rfl) (by kernel_rfl) ⟨rfl, rfl, trivial⟩ trivial (by repeat (first | exact Le.refl _ | assumption | apply Le.drop)) (by
    refine ⟨?_, ?_, ?_, ?_, ?_, ?_, ?_, ?_, ?_, ?_, ?_, ?_, ?_, ?_, ?_, ?_, ?_, ?_, ?_, ?_, ?_, trivial⟩
    · refine ⟨fun x S D he hw hd hD _ => ?_, trivial⟩
      refine TOps.field0 (he _ _ rfl) Try.underlying24 rfl rfl ti3 rfl rfl rfl ?_
      exact TOps.fin (Nrm.drawM x (fun _ _ _ => rfl) rfl (by first | exact Le.refl _ | assumption | exact (by repeat (first | exact Le.refl _ | assumption | apply Le.drop))))
    · refine ⟨fun x S D he hw hd hD _ => ?_, trivial⟩
      obtain ⟨h0, -⟩ := hd
      refine TOps.load1 h0 ti3 (Rd.le (by first | exact Rd.lit (by repeat (first | exact List.Mem.head _ | apply List.Mem.tail)) rfl | (repeat (first | assumption | exact Rd.fld (by assumption) 0 rfl | apply Rd.up))) (hll x D)) rfl ?_
      exact TOps.fin (Nrm.drawM x (fun _ _ _ => rfl) rfl (by first | exact Le.refl _ | assumption | exact (by repeat (first | exact Le.refl _ | assumption | apply Le.drop))))
    · refine ⟨fun x S D he hw hd hD _ => ?_, trivial⟩
      replace hD := mem_of_eq (L' := [[], [19], [8], [8, 19], [8, 10], [8, 10, 19]]) hD (by kernel_rfl)
      simp only [List.mem_cons, List.not_mem_nil, or_false] at hD
      rcases hD with rfl | rfl | rfl | rfl | rfl | rfl
      all_goals refine TOps.buildSlice0 Try.underlying22 ti52 rfl (fun b52 => ?_)
      all_goals refine TOps.fin (Nrm.drawM {x with b2 := b52} ?_ rfl (Sp.le (by repeat (first | exact Sp.refl _ | exact Sp.sub (by assumption) | refine Sp.cons (by repeat (first | exact Pick.here | apply Pick.there)) ?_ | exact Sp.nil | apply Sp.skip))))
      all_goals (intro j hj hcj; rcases j with _|_|_|_|_|_|_|_|_|_|_|_|_|_|_|_|_|_|_|_|_|j <;> first | rfl | exact absurd rfl hj | exact absurd hcj (by decide))
    · refine ⟨fun x S D he hw hd hD _ => ?_, trivial⟩
      first | refine TOps.fieldB 1 (he _ _ rfl) Try.underlying24 rfl rfl ti22 rfl rfl rfl ?_ | refine TOps.fieldN 1 (he _ _ rfl) Try.underlying24 rfl rfl ti22 rfl rfl rfl ?_
      exact TOps.fin (Nrm.drawM x (fun _ _ _ => rfl) rfl (by first | exact Le.refl _ | assumption | exact (by repeat (first | exact Le.refl _ | assumption | apply Le.drop))))
    · refine ⟨fun x S D he hw hd hD _ => ?_, trivial⟩
      obtain ⟨h3, -⟩ := hd
      refine TOps.load1 h3 ti22 (Rd.le (by first | exact Rd.lit (by repeat (first | exact List.Mem.head _ | apply List.Mem.tail)) rfl | (repeat (first | assumption | exact Rd.fld (by assumption) 1 rfl | apply Rd.up))) (hll x D)) rfl ?_
      exact TOps.fin (Nrm.drawM x (fun _ _ _ => rfl) rfl (by first | exact Le.refl _ | assumption | exact (by repeat (first | exact Le.refl _ | assumption | apply Le.drop))))
    · refine ⟨fun x S D he hw hd hD _ => ?_, trivial⟩
      obtain ⟨h2, h4, -⟩ := hd
      replace hD := mem_of_eq (L' := [[2], [2, 19], [2, 8], [2, 8, 19], [2, 8, 10], [2, 8, 10, 19]]) hD (by kernel_rfl)
      simp only [List.mem_cons, List.not_mem_nil, or_false] at hD
      rcases hD with rfl | rfl | rfl | rfl | rfl | rfl
      all_goals refine TOps.append (ys := CELLS) h2 h4 Try.underlying22 ti52 rfl (fun _ _ => (by repeat (first | exact Upd.here | apply Upd.there))) (RdS.le hys (hll x _)) hcl rfl hc1' (by omega) (by omega) rfl (fun a' c' ha' => ?_)
      all_goals refine TOps.fin (Nrm.drawM {x with a5 := a', c5 := c'} ?_ rfl (Sp.le (by repeat (first | exact Sp.refl _ | exact Sp.sub (by assumption) | refine Sp.cons (by repeat (first | exact Pick.here | apply Pick.there)) ?_ | exact Sp.nil | apply Sp.skip))))
      all_goals (intro j hj hcj; rcases j with _|_|_|_|_|_|_|_|_|_|_|_|_|_|_|_|_|_|_|_|_|j <;> first | rfl | exact absurd rfl hj | exact absurd hcj (by decide))
    · refine ⟨fun x S D he hw hd hD _ => ?_, trivial⟩
      first | refine TOps.fieldB 2 (he _ _ rfl) Try.underlying24 rfl rfl ti3 rfl rfl rfl ?_ | refine TOps.fieldN 2 (he _ _ rfl) Try.underlying24 rfl rfl ti3 rfl rfl rfl ?_
      exact TOps.fin (Nrm.drawM x (fun _ _ _ => rfl) rfl (by first | exact Le.refl _ | assumption | exact (by repeat (first | exact Le.refl _ | assumption | apply Le.drop))))
    · refine ⟨fun x S D he hw hd hD _ => ?_, trivial⟩
      obtain ⟨h6, -⟩ := hd
      refine TOps.load1 h6 ti3 (Rd.le (by first | exact Rd.lit (by repeat (first | exact List.Mem.head _ | apply List.Mem.tail)) rfl | (repeat (first | assumption | exact Rd.fld (by assumption) 2 rfl | apply Rd.up))) (hll x D)) rfl ?_
      exact TOps.fin (Nrm.drawM x (fun _ _ _ => rfl) rfl (by first | exact Le.refl _ | assumption | exact (by repeat (first | exact Le.refl _ | assumption | apply Le.drop))))
    · refine ⟨fun x S D he hw hd hD _ => ?_, trivial⟩
      obtain ⟨h7, -⟩ := hd
      replace hD := mem_of_eq (L' := [[], [19], [2], [2, 19], [2, 5], [2, 5, 19]]) hD (by kernel_rfl)
      simp only [List.mem_cons, List.not_mem_nil, or_false] at hD
      rcases hD with rfl | rfl | rfl | rfl | rfl | rfl
      all_goals refine TOps.buildSlice (vs := [_]) (xs := [_]) Try.underlying50 ti3 ⟨rfl, h7, trivial⟩ rfl rfl rfl rfl rfl rfl (by decide) rfl (fun b58 => ?_)
      all_goals refine TOps.fin (Nrm.drawM {x with b8 := b58} ?_ rfl (Sp.le (by repeat (first | exact Sp.refl _ | exact Sp.sub (by assumption) | refine Sp.cons (by repeat (first | exact Pick.here | apply Pick.there)) ?_ | exact Sp.nil | apply Sp.skip))))
      all_goals (intro j hj hcj; rcases j with _|_|_|_|_|_|_|_|_|_|_|_|_|_|_|_|_|_|_|_|_|j <;> first | rfl | exact absurd rfl hj | exact absurd hcj (by decide))
    · refine ⟨fun x S D he hw hd hD _ => ?_, trivial⟩
      obtain ⟨h8, -⟩ := hd
      refine TOps.buildStruct (vs := [(0, _), (2, _)]) (xs := [_, _, _]) [(0, 1), (1, 1), (2, 1)] Try.underlying52 ti52 (fun w => by simp) ⟨rfl, rfl, rfl, h8, trivial⟩ rfl rfl ?_
      exact TOps.fin (Nrm.drawM x (fun _ _ _ => rfl) rfl (by first | exact Le.refl _ | assumption | exact (by repeat (first | exact Le.refl _ | assumption | apply Le.drop))))
    · refine ⟨fun x S D he hw hd hD _ => ?_, trivial⟩
      obtain ⟨h9, -⟩ := hd
      replace hD := mem_of_eq (L' := [[8], [8, 19], [2, 8], [2, 8, 19], [2, 5, 8], [2, 5, 8, 19]]) hD (by kernel_rfl)
      simp only [List.mem_cons, List.not_mem_nil, or_false] at hD
      rcases hD with rfl | rfl | rfl | rfl | rfl | rfl
      all_goals refine TOps.buildSlice (vs := [_]) (xs := [_, _, _]) Try.underlying22 ti52 ⟨rfl, h9, trivial⟩ rfl rfl rfl rfl rfl rfl (by decide) rfl (fun b63 => ?_)
      all_goals refine TOps.fin (Nrm.drawM {x with b10 := b63} ?_ rfl (Sp.le (by repeat (first | exact Sp.refl _ | exact Sp.sub (by assumption) | refine Sp.cons (by repeat (first | exact Pick.here | apply Pick.there)) ?_ | exact Sp.nil | apply Sp.skip))))
      all_goals (intro j hj hcj; rcases j with _|_|_|_|_|_|_|_|_|_|_|_|_|_|_|_|_|_|_|_|_|j <;> first | rfl | exact absurd rfl hj | exact absurd hcj (by decide))
    · refine ⟨fun x S D he hw hd hD _ => ?_, trivial⟩
      obtain ⟨h5, h10, _, -⟩ := hd
      replace hD := mem_of_eq (L' := [[2, 5, 8, 10], [2, 5, 8, 10, 19]]) hD (by kernel_rfl)
      simp only [List.mem_cons, List.not_mem_nil, or_false] at hD
      rcases hD with rfl | rfl
      all_goals refine TOps.append (ys := x.three) h5 h10 Try.underlying22 ti52 rfl (fun _ _ => (by repeat (first | exact Upd.here | apply Upd.there))) (RdS.ofRowS (by repeat (first | exact List.Mem.head _ | apply List.Mem.tail))) rfl (by rw [hcl]; omega) (by intro u hu; simp at hu; rcases hu with rfl | rfl | rfl <;> rfl) (by omega) (by omega) rfl (fun a' c' ha' => ?_)
      all_goals obtain ⟨b', rfl⟩ := ha' (by simp)
      all_goals refine TOps.fin (Nrm.drawM {x with a11 := b', c11 := c'} ?_ rfl (Sp.le (by repeat (first | exact Sp.refl _ | exact Sp.sub (by assumption) | refine Sp.cons (by repeat (first | exact Pick.here | apply Pick.there)) ?_ | exact Sp.nil | apply Sp.skip))))
      all_goals (intro j hj hcj; rcases j with _|_|_|_|_|_|_|_|_|_|_|_|_|_|_|_|_|_|_|_|_|j <;> first | rfl | exact absurd rfl hj | exact absurd hcj (by decide))
    · refine ⟨fun x S D he hw hd hD _ => ?_, trivial⟩
      refine TOps.field0 (he _ _ rfl) Try.underlying24 rfl rfl ti3 rfl rfl rfl ?_
      exact TOps.fin (Nrm.drawM x (fun _ _ _ => rfl) rfl (by first | exact Le.refl _ | assumption | exact (by repeat (first | exact Le.refl _ | assumption | apply Le.drop))))
    · refine ⟨fun x S D he hw hd hD _ => ?_, trivial⟩
      obtain ⟨h12, -⟩ := hd
      refine TOps.load1 h12 ti3 (Rd.le (by first | exact Rd.lit (by repeat (first | exact List.Mem.head _ | apply List.Mem.tail)) rfl | (repeat (first | assumption | exact Rd.fld (by assumption) 0 rfl | apply Rd.up))) (hll x D)) rfl ?_
      exact TOps.fin (Nrm.drawM x (fun _ _ _ => rfl) rfl (by first | exact Le.refl _ | assumption | exact (by repeat (first | exact Le.refl _ | assumption | apply Le.drop))))
    · refine ⟨fun x S D he hw hd hD _ => ?_, trivial⟩
      first | refine TOps.fieldB 1 (he _ _ rfl) Try.underlying24 rfl rfl ti22 rfl rfl rfl ?_ | refine TOps.fieldN 1 (he _ _ rfl) Try.underlying24 rfl rfl ti22 rfl rfl rfl ?_
      exact TOps.fin (Nrm.drawM x (fun _ _ _ => rfl) rfl (by first | exact Le.refl _ | assumption | exact (by repeat (first | exact Le.refl _ | assumption | apply Le.drop))))
    · refine ⟨fun x S D he hw hd hD _ => ?_, trivial⟩
      obtain ⟨h14, -⟩ := hd
      refine TOps.load1 h14 ti22 (Rd.le (by first | exact Rd.lit (by repeat (first | exact List.Mem.head _ | apply List.Mem.tail)) rfl | (repeat (first | assumption | exact Rd.fld (by assumption) 1 rfl | apply Rd.up))) (hll x D)) rfl ?_
      exact TOps.fin (Nrm.drawM x (fun _ _ _ => rfl) rfl (by first | exact Le.refl _ | assumption | exact (by repeat (first | exact Le.refl _ | assumption | apply Le.drop))))
    · refine ⟨fun x S D he hw hd hD _ => ?_, trivial⟩
      obtain ⟨h15, -⟩ := hd
      refine TOps.len h15 Try.underlying22 rfl ?_
      exact TOps.fin (Nrm.drawM x (fun _ _ _ => rfl) rfl (by first | exact Le.refl _ | assumption | exact (by repeat (first | exact Le.refl _ | assumption | apply Le.drop))))
    · refine ⟨fun x S D he hw hd hD _ => ?_, trivial⟩
      obtain ⟨h13, h16, -⟩ := hd
      refine TOps.add h13 h16 (wrapI (by omega) (by omega)) rfl ?_
      exact TOps.fin (Nrm.drawM x (fun _ _ _ => rfl) rfl (by first | exact Le.refl _ | assumption | exact (by repeat (first | exact Le.refl _ | assumption | apply Le.drop))))
    · refine ⟨fun x S D he hw hd hD _ => ?_, trivial⟩
      obtain ⟨h1, h11, h17, -⟩ := hd
      refine TOps.buildStruct (vs := [(0, _), (1, _), (2, _)]) (xs := [_, _, _]) [(0, 1), (1, 1), (2, 1)] Try.underlying24 ti24 (fun w => by simp) ⟨rfl, h1, rfl, h11, rfl, h17, trivial⟩ rfl rfl ?_
      exact TOps.fin (Nrm.drawM x (fun _ _ _ => rfl) rfl (by first | exact Le.refl _ | assumption | exact (by repeat (first | exact Le.refl _ | assumption | apply Le.drop))))
    · refine ⟨fun x S D he hw hd hD _ => ?_, trivial⟩
      replace hD := mem_of_eq (L' := [[], [8], [8, 10], [2], [2, 8], [2, 8, 10], [2, 5], [2, 5, 8], [2, 5, 8, 10], [2, 5, 8, 10, 11]]) hD (by kernel_rfl)
      simp only [List.mem_cons, List.not_mem_nil, or_false] at hD
      rcases hD with rfl | rfl | rfl | rfl | rfl | rfl | rfl | rfl | rfl | rfl
      all_goals refine TOps.alloc ti24 rfl (fun b67 => ?_)
      all_goals refine TOps.fin (Nrm.drawM {x with b19 := b67} ?_ rfl (Sp.le (by repeat (first | exact Sp.refl _ | exact Sp.sub (by assumption) | refine Sp.cons (by repeat (first | exact Pick.here | apply Pick.there)) ?_ | exact Sp.nil | apply Sp.skip))))
      all_goals (intro j hj hcj; rcases j with _|_|_|_|_|_|_|_|_|_|_|_|_|_|_|_|_|_|_|_|_|j <;> first | rfl | exact absurd rfl hj | exact absurd hcj (by decide))
    · refine ⟨fun x S D he hw hd hD _ => ?_, trivial⟩
      obtain ⟨h19, h18, h11, h0, h1, h2, h3, h4, h5, h6, h7, h8, h9, h10, _, h12, h13, h14, h15, h16, h17, _, _, -⟩ := hd
      replace hD := mem_of_eq (L' := [[2, 5, 8, 10, 11, 19]]) hD (by kernel_rfl)
      simp only [List.mem_cons, List.not_mem_nil, or_false] at hD
      rcases hD with rfl
      all_goals refine TOps.storeN h19 h18 ti24 rfl rfl (by repeat (first | exact Upd.here | apply Upd.there)) (by simp) ?_
      all_goals exact TOps.fin (Nrm.drawM x (fun _ _ _ => rfl) rfl (Sp.le (by repeat (first | exact Sp.refl _ | exact Sp.sub (by assumption) | refine Sp.cons (by repeat (first | exact Pick.here | apply Pick.there)) ?_ | exact Sp.nil | apply Sp.skip))))
    ) (fun z => ?_)
  obtain ⟨H5, hH5⟩ : ∃ H5, H5 = row (some z.a11) 52 3 z.c11 (CELLS ++ z.three) :: row (some z.b8) 3 1 1 [.int .i64 F.top] :: H1 := ⟨_, rfl⟩
  refine Nrm.le (H' := row (some z.b19) 24 3 1 [.int .i64 F.vars, slV (some z.a11) 0 (0 + F.nodes.length + 1) z.c11, .int .i64 (F.vars + F.nodes.length)] :: H5) (by subst hH5; exact (Sp.le (by repeat (first | exact Sp.refl _ | exact Sp.sub (by assumption) | refine Sp.cons (by repeat (first | exact Pick.here | apply Pick.there)) ?_ | exact Sp.nil | apply Sp.skip)))) ?_
  have l5 : Le H5 H1 := by rw [hH5]; exact Le.drop (Le.drop (Le.refl _))
  have hA : ArgsIn H5 (F.nodes ++ [⟨1, 0, [F.top]⟩]) (qs ++ [(some z.b8, 0, 1, none)]) := (hqs.le (l5)).snoc (by rw [hH5]; exact RInts.ofRow (xs := [F.top]) (by repeat (first | exact List.Mem.head _ | apply List.Mem.tail)))
  have hRN : RNodes H5 (some z.a11) 0 (F.nodes ++ [⟨1, 0, [F.top]⟩]) := RNodes.ofA (E := 52) (sz := 3) (cap := z.c11) (by rw [hH5, nsCells_snoc _ _ _ _ hqs.1, ← hCE]; exact List.Mem.head _) hA (fun _ => ⟨_, rfl⟩)
  have hRF : ∀ (e : Ent), RF (e :: H5) (.agg (List.toArray [.int .i64 F.vars, slV (some z.a11) 0 (F.nodes.length + 1) z.c11, .int .i64 (F.vars + F.nodes.length)])) F.neg := fun e => ⟨some z.a11, 0, z.c11, none, by rw [hNe]; simp, (by rw [hNe]; exact hRN.le (Le.drop (Le.refl _)))⟩
  replace hF0 := hF0.le l5; replace r1 := r1.le l5; skip
  have l6 := l5.trans l1
  clear hH5 hll hRN hA
  rw [show 0 + F.nodes.length + 1 = F.nodes.length + 1 by omega]
  generalize z.b19 = b10 at *
  obtain ⟨H6, hH6⟩ : ∃ H6, H6 = row (some b10) 24 3 1 [.int .i64 F.vars, slV (some z.a11) 0 (F.nodes.length + 1) z.c11, .int .i64 (F.vars + F.nodes.length)] :: H5 := ⟨_, rfl⟩
  replace hRF := hRF (row (some b10) 24 3 1 [.int .i64 F.vars, slV (some z.a11) 0 (F.nodes.length + 1) z.c11, .int .i64 (F.vars + F.nodes.length)])
  have r7 : Rd H6 b10 0 [.int .i64 F.vars, slV (some z.a11) 0 (F.nodes.length + 1) z.c11, .int .i64 (F.vars + F.nodes.length)] := by rw [hH6]; exact Rd.all (List.Mem.head _)
  have l7 : Le H6 H5 := by rw [hH6]; exact Le.drop (Le.refl _)
  rw [← hH6] at hRF ⊢
  replace hF0 := hF0.le l7; replace r1 := r1.le l7; skip
  replace l6 := l7.trans l6
  clear hH6 l7
  refine Nrm.next ?_
  refine Tri.seq (Tri.region ?_)
  refine TOps.loadN rfl ti24 (by first | exact Rd.all (by repeat (first | exact List.Mem.head _ | apply List.Mem.tail)) | (repeat (first | assumption | apply Rd.up))) rfl rfl ?_
  refine TOps.call (vs := [_]) Try.call21 ⟨rfl, trivial⟩ (crelevant_g hF0 hk) rfl ?_
  rintro _ _ ⟨rfl, rfl⟩
  rw [he, show (bif (none : Option Int).isNone then (F.rel : Int) else 0) = (F.rel : Int) from rfl]
  refine TOps.move rfl rfl ?_
  refine TOps.extract rfl rfl rfl ?_
  refine TOps.extract rfl rfl rfl ?_
  refine TOps.assign rfl rfl ?_
  refine TOps.assign rfl rfl ?_
  refine TOps.next ?_
  refine Tri.seq (Tri.region ?_)
  refine TOps.loadN rfl ti24 (by first | exact Rd.all (by repeat (first | exact List.Mem.head _ | apply List.Mem.tail)) | (repeat (first | assumption | apply Rd.up))) rfl rfl ?_
  refine TOps.call (vs := [_]) Try.call21 ⟨rfl, trivial⟩ (crelevant_g hRF hng.ok) rfl ?_
  rintro _ _ ⟨rfl, rfl⟩
  rw [hnt, Fm.neg_rel hg, show (bif (none : Option Int).isNone then (F.rel : Int) else 0) = (F.rel : Int) from rfl]
  refine TOps.move rfl rfl ?_
  refine TOps.extract rfl rfl rfl ?_
  refine TOps.extract rfl rfl rfl ?_
  refine TOps.assign rfl rfl ?_
  refine TOps.assign rfl rfl ?_
  refine TOps.next ?_
  refine Tri.seq (Tri.region ?_)
  refine TOps.loadN rfl ti24 (by first | exact Rd.all (by repeat (first | exact List.Mem.head _ | apply List.Mem.tail)) | (repeat (first | assumption | apply Rd.up))) rfl rfl ?_
  refine TOps.move rfl rfl ?_
  refine TOps.call (vs := [_, _]) Try.call20 ⟨rfl, rfl, trivial⟩ (cdirections_g hF0 hk i) rfl ?_
  rintro _ _ ⟨rfl, rfl⟩
  refine TOps.move rfl rfl ?_
  refine TOps.extract rfl rfl rfl ?_
  refine TOps.extract rfl rfl rfl ?_
  refine TOps.extract rfl rfl rfl ?_
  refine TOps.assign rfl rfl ?_
  refine TOps.assign rfl rfl ?_
  refine TOps.assign rfl rfl ?_
  refine TOps.next ?_
  refine Tri.seq (Tri.region ?_)
  refine TOps.loadN rfl ti24 (by first | exact Rd.all (by repeat (first | exact List.Mem.head _ | apply List.Mem.tail)) | (repeat (first | assumption | apply Rd.up))) rfl rfl ?_
  refine TOps.move rfl rfl ?_
  refine TOps.call (vs := [_, _]) Try.call20 ⟨rfl, rfl, trivial⟩ (cdirections_g hRF hng.ok i) rfl ?_
  rintro _ _ ⟨rfl, rfl⟩
  rw [Fm.neg_dirErr he hlen, Fm.neg_up hg, Fm.neg_dn hg]
  refine TOps.move rfl rfl ?_
  refine TOps.extract rfl rfl rfl ?_
  refine TOps.extract rfl rfl rfl ?_
  refine TOps.extract rfl rfl rfl ?_
  refine TOps.assign rfl rfl ?_
  refine TOps.assign rfl rfl ?_
  refine TOps.assign rfl rfl ?_
  refine TOps.next ?_
  refine Tri.seq (Tri.region ?_)
  refine TOps.move rfl rfl ?_
  refine TOps.eqlNil (T := 38) (o := none) rfl Try.underlying28 rfl ?_
  refine TOps.move rfl rfl ?_
  refine' TOps.andB 2 rfl rfl rfl rfl (fun hg8_2 => ?_) ?_; rotate_left
  · have hg8_2' := hg8_2
    try simp only [decide_eq_true_eq, decide_eq_false_iff_not, Bool.and_eq_true, Bool.or_eq_true, Bool.not_eq_true', Bool.and_eq_false_iff, Bool.or_eq_false_iff, Bool.not_eq_false', Int.not_lt, Int.not_le, ne_eq, Decidable.not_not] at hg8_2'
    refine TOps.strip 2 true rfl rfl hg8_2 rfl ?_
    refine TOps.move rfl rfl ?_
    refine TOps.eqlNil (T := 38) (o := none) rfl Try.underlying28 rfl ?_
    refine TOps.blk rfl (by repeat (first | exact Ext.refl _ | refine Ext.cons rfl ?_)) (by repeat (first | exact Le.refl _ | apply Le.drop))
  refine TOps.move rfl rfl ?_
  refine' TOps.andB 3 rfl rfl rfl rfl (fun hg8_6 => ?_) ?_; rotate_left
  · have hg8_6' := hg8_6
    try simp only [decide_eq_true_eq, decide_eq_false_iff_not, Bool.and_eq_true, Bool.or_eq_true, Bool.not_eq_true', Bool.and_eq_false_iff, Bool.or_eq_false_iff, Bool.not_eq_false', Int.not_lt, Int.not_le, ne_eq, Decidable.not_not] at hg8_6'
    refine TOps.strip 6 true rfl rfl hg8_6 rfl ?_
    refine TOps.move rfl rfl ?_
    refine TOps.move rfl rfl ?_
    refine TOps.eqlIr (r := true) rfl rfl (by simp) rfl ?_
    refine TOps.blk rfl (by repeat (first | exact Ext.refl _ | refine Ext.cons rfl ?_)) (by repeat (first | exact Le.refl _ | apply Le.drop))
  refine TOps.move rfl rfl ?_
  refine' TOps.andB 5 rfl rfl rfl rfl (fun hg8_11 => ?_) ?_; rotate_left
  · have hg8_11' := hg8_11
    try simp only [decide_eq_true_eq, decide_eq_false_iff_not, Bool.and_eq_true, Bool.or_eq_true, Bool.not_eq_true', Bool.and_eq_false_iff, Bool.or_eq_false_iff, Bool.not_eq_false', Int.not_lt, Int.not_le, ne_eq, Decidable.not_not] at hg8_11'
    refine TOps.strip 11 true rfl rfl hg8_11 rfl ?_
    refine TOps.move rfl rfl ?_
    refine TOps.call (vs := [_]) Try.call13 ⟨rfl, trivial⟩ (num_g (F.dirErr i)) rfl ?_
    rintro _ _ ⟨rfl, rfl⟩
    refine TOps.move rfl rfl ?_
    refine TOps.call (vs := [_]) Try.call13 ⟨rfl, trivial⟩ (num_g (F.dirErr i)) rfl ?_
    rintro _ _ ⟨rfl, rfl⟩
    refine TOps.eqlIr (r := true) rfl rfl (by simp) rfl ?_
    refine TOps.blk rfl (by repeat (first | exact Ext.refl _ | refine Ext.cons rfl ?_)) (by repeat (first | exact Le.refl _ | apply Le.drop))
  refine TOps.move rfl rfl ?_
  refine' TOps.andB 3 rfl rfl rfl rfl (fun hg8_18 => ?_) ?_; rotate_left
  · have hg8_18' := hg8_18
    try simp only [decide_eq_true_eq, decide_eq_false_iff_not, Bool.and_eq_true, Bool.or_eq_true, Bool.not_eq_true', Bool.and_eq_false_iff, Bool.or_eq_false_iff, Bool.not_eq_false', Int.not_lt, Int.not_le, ne_eq, Decidable.not_not] at hg8_18'
    refine TOps.strip 18 true rfl rfl hg8_18 rfl ?_
    refine TOps.move rfl rfl ?_
    refine TOps.move rfl rfl ?_
    refine TOps.eqlBr (r := true) rfl rfl (by simp) Try.underlying4 rfl ?_
    refine TOps.blk rfl (by repeat (first | exact Ext.refl _ | refine Ext.cons rfl ?_)) (by repeat (first | exact Le.refl _ | apply Le.drop))
  refine TOps.move rfl rfl ?_
  refine' TOps.andB 3 rfl rfl rfl rfl (fun hg8_23 => ?_) ?_; rotate_left
  · have hg8_23' := hg8_23
    try simp only [decide_eq_true_eq, decide_eq_false_iff_not, Bool.and_eq_true, Bool.or_eq_true, Bool.not_eq_true', Bool.and_eq_false_iff, Bool.or_eq_false_iff, Bool.not_eq_false', Int.not_lt, Int.not_le, ne_eq, Decidable.not_not] at hg8_23'
    refine TOps.strip 23 true rfl rfl hg8_23 rfl ?_
    refine TOps.move rfl rfl ?_
    refine TOps.move rfl rfl ?_
    refine TOps.eqlBr (r := true) rfl rfl (by simp) Try.underlying4 rfl ?_
    refine TOps.blk rfl (by repeat (first | exact Ext.refl _ | refine Ext.cons rfl ?_)) (by repeat (first | exact Le.refl _ | apply Le.drop))
  refine TOps.assign rfl rfl ?_
  refine TOps.next ?_
  refine Tri.ret1 (H' := H) Try.results8 (fun _ _ h => h) (.tmp rfl) l6 ⟨rfl, rfl⟩
end Go.Proofs
