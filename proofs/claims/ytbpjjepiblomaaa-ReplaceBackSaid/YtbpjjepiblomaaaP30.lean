import Derived.Test.YtbpjjepiblomaaaK30
import Derived.Test.YtbpjjepiblomaaaQ29
import Derived.Test.YtbpjjepiblomaaaGL57
namespace Go.Proofs
open Go.GL
set_option linter.unusedVariables false
set_option linter.unusedSimpArgs false
structure LX where
  a1 : Option Nat
  c1 : Nat
  a2 : Option Nat
  c2 : Nat
  n : List Ent
  b6 : Nat
  b7 : Nat
theorem rlevels_g {H : List Ent} {fv : Value} {F0 : Fm} (hF : RF H fv F0) (hg0 : F0.Good) {RES : List Fm × Option Int} (hR : levF (25 - F0.vars.toNat) F0 [] = RES) :
    Gives Try.prog 32 [fv] H (fun u H' => ∃ a cap, u = .tuple (List.toArray [slV a 0 RES.1.length cap, .int .i64 (RES.2.getD 0)]) ∧ Le H' H ∧ RFs H' a 0 RES.1) := by
  obtain ⟨na0, off0, cap0, nsp0, rfl, hN0⟩ := hF
  refine Gives.enter Try.func32 rfl (by exact Try.ntmps32) rfl ?_
  refine Tri.seq (Tri.region ?_)
  refine TOps.boxN rfl ti24 rfl rfl (fun b1 => ?_)
  refine TOps.assign rfl rfl ?_
  refine TOps.assign rfl rfl ?_
  refine TOps.next ?_
  refine Tri.seq (Tri.region ?_)
  refine TOps.assign rfl rfl ?_
  refine TOps.next ?_
  refine Tri.block ?_
  refine Tri.loop (X := Fm × SA × List Fm × List SA × (Option Nat × Nat) × List Ent) (fun x => [(1, .pointer (some ⟨b1, 0, none⟩)), (4, slV x.2.2.2.2.1.1 0 x.2.2.1.length x.2.2.2.2.1.2)]) (fun x => row (some b1) 24 3 1 (fmCells x.1 x.2.1) :: row x.2.2.2.2.1.1 24 3 x.2.2.2.2.1.2 (fsCells x.2.2.1 x.2.2.2.1) :: (x.2.2.2.2.2 ++ H)) (fun x => x.1.Good ∧ RNodes (x.2.2.2.2.2 ++ H) x.2.1.1 x.2.1.2.1 x.1.nodes x.2.1.2.2.2 ∧ FsIn (x.2.2.2.2.2 ++ H) x.2.2.1 x.2.2.2.1 ∧ (x.2.2.1 ≠ [] → ∃ b, x.2.2.2.2.1.1 = some b) ∧ x.2.2.1.length ≤ x.1.vars.toNat ∧ levF (25 - x.1.vars.toNat) x.1 x.2.2.1 = RES) (fun x => 25 - x.1.vars.toNat) (F0, (na0, off0, cap0, nsp0), [], [], (none, 0), []) ⟨hg0, hN0, FsIn.nil, fun h => absurd rfl h, Nat.zero_le _, hR⟩ ⟨rfl, rfl, trivial⟩ (Le.addNil.trans (Sp.le (by repeat (first | exact Sp.refl _ | exact Sp.sub (by assumption) | refine Sp.cons (by repeat (first | exact Pick.here | apply Pick.there)) ?_ | exact Sp.nil | apply Sp.skip)))) (fun x hp => ?_)
  obtain ⟨F, ⟨na, off, cap, nsp⟩, acc, qs, ⟨oa, ocap⟩, N⟩ := x
  obtain ⟨hg, hN, hacc, hoa, hal, hres⟩ := hp
  dsimp only at hg hN hacc hoa hal hres ⊢
  have g0 := hg.v0; have g1 := hg.v1; have g2 := hg.n1
  obtain ⟨fuel, hfu⟩ : ∃ fuel, 25 - F.vars.toNat = fuel + 1 := ⟨24 - F.vars.toNat, by omega⟩
  rw [hfu] at hres
  have hcl := fsCells_length acc qs hacc.1
  have hRF : RF (N ++ H) (.agg (List.toArray [.int .i64 F.vars, slV na off F.nodes.length cap nsp, .int .i64 F.top])) F := ⟨na, off, cap, nsp, rfl, hN⟩
  refine Tri.block ?_
  refine Tri.seq (Tri.region ?_)
  refine TOps.loadN rfl ti24 (by first | exact Rd.all (by repeat (first | exact List.Mem.head _ | apply List.Mem.tail)) | (repeat (first | assumption | apply Rd.up))) rfl rfl ?_
  refine TOps.call (vs := [_]) Try.call54 ⟨rfl, trivial⟩ (rproper_g (hRF.le (Le.drop (Le.drop (Le.refl _)))) hg.ok hg) rfl ?_
  rintro _ _ ⟨la, lcap, rfl, hla, rfl⟩
  refine TOps.assign rfl rfl ?_
  refine TOps.next ?_
  refine Tri.seq ?_
  refine Tri.seq (Tri.region ?_)
  refine TOps.move rfl rfl ?_
  refine TOps.len rfl Try.underlying50 rfl ?_
  refine TOps.eqlI rfl rfl rfl ?_
  refine TOps.next ?_
  refine Tri.cond rfl (fun hc1 => ?_) (fun hc1 => ?_)
  · try simp only [decide_eq_true_eq, decide_eq_false_iff_not, Bool.and_eq_true, Bool.or_eq_true, Bool.not_eq_true', Bool.and_eq_false_iff, Bool.or_eq_false_iff, Bool.not_eq_false', Int.not_lt, Int.not_le, ne_eq, Decidable.not_not, Option.isSome_iff_ne_none, Option.isNone_iff_eq_none] at hc1
    have hpe : F.proper = [] := List.eq_nil_of_length_eq_zero (by omega)
    have hres' : RES = (acc ++ [F], none) := by rw [← hres, levF, hpe]
    refine Tri.seq (Tri.region ?_)
    refine TOps.move rfl rfl ?_
    refine TOps.loadN rfl ti24 (by first | exact Rd.all (by repeat (first | exact List.Mem.head _ | apply List.Mem.tail)) | (repeat (first | assumption | apply Rd.up))) rfl rfl ?_
    refine TOps.buildSlice (vs := [_]) (xs := [_, _, _]) Try.underlying38 ti24 ⟨rfl, rfl, trivial⟩ rfl rfl rfl rfl rfl rfl (by decide) rfl (fun b16 => ?_)
    refine TOps.appendLit rfl rfl Try.underlying38 ti24 rfl (fun _ _ => (by repeat (first | exact Upd.here | apply Upd.there))) rfl (by rw [hcl]) rfl (by omega) (by omega) (by simp) rfl (fun b17 cap17 => ?_)
    refine TOps.assign rfl rfl ?_
    refine TOps.assign rfl rfl ?_
    refine TOps.next ?_
    refine Tri.ret2 (H' := row (some b17) 24 3 cap17 (fsCells (acc ++ [F]) (qs ++ [(na, off, cap, nsp)])) :: (N ++ H)) Try.results32 (fun _ _ h => h) (.tmp rfl) (.tmp rfl) ?_ ⟨some b17, cap17, by rw [hres']; simp, Le.drop (Le.sub (List.sublist_append_right _ _)), ?_⟩
    · rw [fsCells_snoc _ _ _ _ hacc.1]; exact (Sp.le (by repeat (first | exact Sp.refl _ | exact Sp.sub (by assumption) | refine Sp.cons (by repeat (first | exact Pick.here | apply Pick.there)) ?_ | exact Sp.nil | apply Sp.skip)))
    · rw [hres']; exact RFs.ofA (E := 24) (cap := cap17) (List.Mem.head _) ((hacc.snoc hN).le (Le.drop (Le.refl _))) (fun _ => ⟨_, rfl⟩)
  try simp only [decide_eq_true_eq, decide_eq_false_iff_not, Bool.and_eq_true, Bool.or_eq_true, Bool.not_eq_true', Bool.and_eq_false_iff, Bool.or_eq_false_iff, Bool.not_eq_false', Int.not_lt, Int.not_le, ne_eq, Decidable.not_not, Option.isSome_iff_ne_none, Option.isNone_iff_eq_none] at hc1
  obtain ⟨pp, rest, hpe⟩ : ∃ pp rest, F.proper = pp :: rest := by
    cases h : F.proper with
    | nil => rw [h] at hc1; simp at hc1
    | cons a r => exact ⟨a, r, rfl⟩
  have hpm := proper_cut hg (p := pp) (by rw [hpe]; exact List.mem_cons_self)
  have hpl : pp < 153 := by obtain ⟨q, h1, h2, _⟩ := proper_mem hg (p := pp) (by rw [hpe]; exact List.mem_cons_self); omega
  obtain ⟨la', rfl⟩ : ∃ b, la = some b := hla (by rw [hpe]; simp)
  obtain ⟨HB, hHB⟩ : ∃ HB, HB = row (some la') 3 1 lcap (nats F.proper) :: row (some b1) 24 3 1 (fmCells F (na, off, cap, nsp)) :: row oa 24 3 ocap (fsCells acc qs) :: (N ++ H) := ⟨_, rfl⟩
  have rL : Rd HB la' 0 [.int .i64 pp] := by rw [hHB, hpe]; exact Rd.lit (List.Mem.head _) rfl
  have r1 : Rd HB b1 0 [.int .i64 F.vars, slV na off F.nodes.length cap nsp, .int .i64 F.top] := by rw [hHB]; exact Rd.all (by repeat (first | exact List.Mem.head _ | apply List.Mem.tail))
  have hFB : RF HB (.agg (List.toArray [.int .i64 F.vars, slV na off F.nodes.length cap nsp, .int .i64 F.top])) F := by rw [hHB]; exact hRF.le (Le.drop (Le.drop (Le.drop (Le.refl _))))
  obtain ⟨G1, hG1⟩ : ∃ G1, F.outF (pp : Int) = G1 := ⟨_, rfl⟩
  obtain ⟨G2, hG2⟩ : ∃ G2, F.inF (pp : Int) = G2 := ⟨_, rfl⟩
  obtain ⟨ce, hCE⟩ : ∃ ce, F.cutErr (pp : Int) = ce := ⟨_, rfl⟩
  rw [hG1, hG2, hCE] at hpm
  rw [levF, hpe] at hres
  simp only [hCE, hG1, hG2] at hres
  rw [← hHB]
  refine Tri.fin ?_
  refine Nrm.next ?_
  refine Tri.seq ?_
  have hll : ∀ (x : LX) (D : List Nat), Le (on D [4] [] [fact (RNodes x.n x.a1 0 G1.nodes), fact (RNodes x.n x.a2 0 G2.nodes)] ++ (on D [9] [11] [row (some x.b6) 24 3 1 [.int .i64 0, slV none 0 0 0, .int .i64 0]] ++ (on D [11] [] [row (some x.b6) 24 3 1 [.int .i64 G1.vars, slV x.a1 0 G1.nodes.length x.c1, .int .i64 G1.top]] ++ (on D [10] [12] [row (some x.b7) 24 3 1 [.int .i64 0, slV none 0 0 0, .int .i64 0]] ++ (on D [12] [] [row (some x.b7) 24 3 1 [.int .i64 G2.vars, slV x.a2 0 G2.nodes.length x.c2, .int .i64 G2.top]] ++ (on D [4] [] x.n ++ HB)))))) HB := fun x D => Le.sub (by repeat (first | exact List.Sublist.refl _ | apply sub_on))
  refine Tri.drawM (X := LX) rfl [(1, .pointer (some ⟨b1, 0, none⟩)), (4, slV oa 0 acc.length ocap), (5, slV (some la') 0 F.proper.length lcap)] [] (fun x => [_, _, _, _, .tuple (List.toArray [(.agg (List.toArray [.int .i64 G1.vars, slV x.a1 0 G1.nodes.length x.c1, .int .i64 G1.top]) : Value), (.agg (List.toArray [.int .i64 G2.vars, slV x.a2 0 G2.nodes.length x.c2, .int .i64 G2.top]) : Value), .int .i64 (ce.getD 0)]), .tuple (List.toArray [(.agg (List.toArray [.int .i64 G1.vars, slV x.a1 0 G1.nodes.length x.c1, .int .i64 G1.top]) : Value), (.agg (List.toArray [.int .i64 G2.vars, slV x.a2 0 G2.nodes.length x.c2, .int .i64 G2.top]) : Value), .int .i64 (ce.getD 0)]), (.agg (List.toArray [.int .i64 G1.vars, slV x.a1 0 G1.nodes.length x.c1, .int .i64 G1.top]) : Value), (.agg (List.toArray [.int .i64 G2.vars, slV x.a2 0 G2.nodes.length x.c2, .int .i64 G2.top]) : Value), .int .i64 (ce.getD 0), .pointer (some ⟨x.b6, 0, none⟩), .pointer (some ⟨x.b7, 0, none⟩), undef, undef, .int .i64 (ce.getD 0)]) (fun x D => on D [4] [] [fact (RNodes x.n x.a1 0 G1.nodes), fact (RNodes x.n x.a2 0 G2.nodes)] ++ (on D [9] [11] [row (some x.b6) 24 3 1 [.int .i64 0, slV none 0 0 0, .int .i64 0]] ++ (on D [11] [] [row (some x.b6) 24 3 1 [.int .i64 G1.vars, slV x.a1 0 G1.nodes.length x.c1, .int .i64 G1.top]] ++ (on D [10] [12] [row (some x.b7) 24 3 1 [.int .i64 0, slV none 0 0 0, .int .i64 0]] ++ (on D [12] [] [row (some x.b7) 24 3 1 [.int .i64 G2.vars, slV x.a2 0 G2.nodes.length x.c2, .int .i64 G2.top]] ++ (on D [4] [] x.n ++ HB)))))) [4, 9, 10, 11, 12] [0, 0, 2, 6, 15, 31, 63, 63, 63, 0, 0, 1663, 3839, 8191] [[], [10], [9], [9, 10], [4], [4, 10], [4, 9], [4, 9, 10], [4, 9, 10, 11], [4, 9, 10, 11, 12]] ⟨none, 0, none, 0, [], 0, 0⟩ [9, 10, 13] rfl rfl (by kernel_rfl) (by kernel_rfl) ⟨rfl, rfl, rfl, trivial⟩ trivial (by repeat (first | exact Le.refl _ | assumption | apply Le.drop)) (by
    refine ⟨?_, ?_, ?_, ?_, ?_, ?_, ?_, ?_, ?_, ?_, ?_, ?_, ?_, ?_, trivial⟩
    · refine ⟨fun x S D he hw hd hD _ => ?_, trivial⟩
      refine TOps.loadN (he _ _ rfl) ti24 (Rd.le (by first | exact Rd.all (by repeat (first | exact List.Mem.head _ | apply List.Mem.tail)) | (repeat (first | assumption | apply Rd.up))) (hll x D)) rfl rfl ?_
      exact TOps.fin (Nrm.drawM x (fun _ _ _ => rfl) rfl (by first | exact Le.refl _ | assumption | exact (by repeat (first | exact Le.refl _ | assumption | apply Le.drop))))
    · refine ⟨fun x S D he hw hd hD _ => ?_, trivial⟩
      refine TOps.move (he _ _ rfl) rfl ?_
      exact TOps.fin (Nrm.drawM x (fun _ _ _ => rfl) rfl (by first | exact Le.refl _ | assumption | exact (by repeat (first | exact Le.refl _ | assumption | apply Le.drop))))
    · refine ⟨fun x S D he hw hd hD _ => ?_, trivial⟩
      obtain ⟨h1, -⟩ := hd
      refine TOps.indexAddr (off' := 0) h1 rfl Try.underlying50 ti3 (by omega) (by rw [hpe]; simp) (by simp) rfl ?_
      exact TOps.fin (Nrm.drawM x (fun _ _ _ => rfl) rfl (by first | exact Le.refl _ | assumption | exact (by repeat (first | exact Le.refl _ | assumption | apply Le.drop))))
    · refine ⟨fun x S D he hw hd hD _ => ?_, trivial⟩
      obtain ⟨h2, -⟩ := hd
      refine TOps.load1 h2 ti3 (rL.le (hll x D)) rfl ?_
      exact TOps.fin (Nrm.drawM x (fun _ _ _ => rfl) rfl (by first | exact Le.refl _ | assumption | exact (by repeat (first | exact Le.refl _ | assumption | apply Le.drop))))
    · refine ⟨fun x S D he hw hd hD _ => ?_, trivial⟩
      obtain ⟨h0, h3, -⟩ := hd
      replace hD := mem_of_eq (L' := [[], [10], [9], [9, 10]]) hD (by kernel_rfl)
      simp only [List.mem_cons, List.not_mem_nil, or_false] at hD
      rcases hD with rfl | rfl | rfl | rfl
      all_goals refine TOps.call (vs := [_, _]) Try.call16 ⟨h0, h3, trivial⟩ (rcutN_g (hFB.le (by first | exact hll x [] | exact hll x [10] | exact hll x [9] | exact hll x [9, 10])) hg.ok hg (pp : Int) ⟨by omega, by omega⟩) rfl ?_
      all_goals rintro _ _ ⟨a1, c1, a2, c2, N2, rfl, hf1, hf2, rfl⟩
      all_goals rw [hG1] at hf1
      all_goals rw [hG2] at hf2
      all_goals rw [hG1, hG2, hCE]
      all_goals refine TOps.fin (Nrm.drawM ⟨a1, c1, a2, c2, N2, x.b6, x.b7⟩ ?_ rfl (by first | exact (Le.addFact hf2).trans (Le.addFact hf1) | exact (Le.perm List.perm_middle).trans ((Le.addFact hf2).trans (Le.addFact hf1)) | exact Le.midB.trans ((Le.addFact hf2).trans (Le.addFact hf1))))
      all_goals (intro j hj hcj; rcases j with _|_|_|_|_|_|_|_|_|_|_|_|_|_|j <;> first | rfl | exact absurd rfl hj | exact absurd hcj (by decide))
    · refine ⟨fun x S D he hw hd hD _ => ?_, trivial⟩
      obtain ⟨h4, -⟩ := hd
      refine TOps.move h4 rfl ?_
      exact TOps.fin (Nrm.drawM x (fun _ _ _ => rfl) rfl (by first | exact Le.refl _ | assumption | exact (by repeat (first | exact Le.refl _ | assumption | apply Le.drop))))
    · refine ⟨fun x S D he hw hd hD _ => ?_, trivial⟩
      obtain ⟨h5, -⟩ := hd
      refine TOps.extract h5 rfl rfl ?_
      exact TOps.fin (Nrm.drawM x (fun _ _ _ => rfl) rfl (by first | exact Le.refl _ | assumption | exact (by repeat (first | exact Le.refl _ | assumption | apply Le.drop))))
    · refine ⟨fun x S D he hw hd hD _ => ?_, trivial⟩
      obtain ⟨h5, -⟩ := hd
      refine TOps.extract h5 rfl rfl ?_
      exact TOps.fin (Nrm.drawM x (fun _ _ _ => rfl) rfl (by first | exact Le.refl _ | assumption | exact (by repeat (first | exact Le.refl _ | assumption | apply Le.drop))))
    · refine ⟨fun x S D he hw hd hD _ => ?_, trivial⟩
      obtain ⟨h5, -⟩ := hd
      refine TOps.extract h5 rfl rfl ?_
      exact TOps.fin (Nrm.drawM x (fun _ _ _ => rfl) rfl (by first | exact Le.refl _ | assumption | exact (by repeat (first | exact Le.refl _ | assumption | apply Le.drop))))
    · refine ⟨fun x S D he hw hd hD _ => ?_, trivial⟩
      replace hD := mem_of_eq (L' := [[], [10], [4], [4, 10]]) hD (by kernel_rfl)
      simp only [List.mem_cons, List.not_mem_nil, or_false] at hD
      rcases hD with rfl | rfl | rfl | rfl
      all_goals refine TOps.alloc ti24 rfl (fun b6 => ?_)
      all_goals refine TOps.fin (Nrm.drawM {x with b6 := b6} ?_ rfl (Sp.le (by repeat (first | exact Sp.refl _ | exact Sp.sub (by assumption) | refine Sp.cons (by repeat (first | exact Pick.here | apply Pick.there)) ?_ | exact Sp.nil | apply Sp.skip))))
      all_goals (intro j hj hcj; rcases j with _|_|_|_|_|_|_|_|_|_|_|_|_|_|j <;> first | rfl | exact absurd rfl hj | exact absurd hcj (by decide))
    · refine ⟨fun x S D he hw hd hD _ => ?_, trivial⟩
      replace hD := mem_of_eq (L' := [[], [9], [4], [4, 9]]) hD (by kernel_rfl)
      simp only [List.mem_cons, List.not_mem_nil, or_false] at hD
      rcases hD with rfl | rfl | rfl | rfl
      all_goals refine TOps.alloc ti24 rfl (fun b7 => ?_)
      all_goals refine TOps.fin (Nrm.drawM {x with b7 := b7} ?_ rfl (Sp.le (by repeat (first | exact Sp.refl _ | exact Sp.sub (by assumption) | refine Sp.cons (by repeat (first | exact Pick.here | apply Pick.there)) ?_ | exact Sp.nil | apply Sp.skip))))
      all_goals (intro j hj hcj; rcases j with _|_|_|_|_|_|_|_|_|_|_|_|_|_|j <;> first | rfl | exact absurd rfl hj | exact absurd hcj (by decide))
    · refine ⟨fun x S D he hw hd hD _ => ?_, trivial⟩
      obtain ⟨h9, h6, h4, h0, h1, h2, h3, _, h5, _, _, h10, -⟩ := hd
      replace hD := mem_of_eq (L' := [[4, 9, 10]]) hD (by kernel_rfl)
      simp only [List.mem_cons, List.not_mem_nil, or_false] at hD
      rcases hD with rfl
      all_goals refine TOps.storeN h9 h6 ti24 rfl rfl (by repeat (first | exact Upd.here | apply Upd.there)) (by simp) ?_
      all_goals exact TOps.fin (Nrm.drawM x (fun _ _ _ => rfl) rfl (Sp.le (by repeat (first | exact Sp.refl _ | exact Sp.sub (by assumption) | refine Sp.cons (by repeat (first | exact Pick.here | apply Pick.there)) ?_ | exact Sp.nil | apply Sp.skip))))
    · refine ⟨fun x S D he hw hd hD _ => ?_, trivial⟩
      obtain ⟨h10, h7, h11, h0, h1, h2, h3, h4, h5, h6, _, h9, _, _, -⟩ := hd
      replace hD := mem_of_eq (L' := [[4, 9, 10, 11]]) hD (by kernel_rfl)
      simp only [List.mem_cons, List.not_mem_nil, or_false] at hD
      rcases hD with rfl
      all_goals refine TOps.storeN h10 h7 ti24 rfl rfl (by repeat (first | exact Upd.here | apply Upd.there)) (by simp) ?_
      all_goals exact TOps.fin (Nrm.drawM x (fun _ _ _ => rfl) rfl (Sp.le (by repeat (first | exact Sp.refl _ | exact Sp.sub (by assumption) | refine Sp.cons (by repeat (first | exact Pick.here | apply Pick.there)) ?_ | exact Sp.nil | apply Sp.skip))))
    · refine ⟨fun x S D he hw hd hD _ => ?_, trivial⟩
      obtain ⟨h8, h12, h0, h1, h2, h3, h4, h5, h6, h7, _, h9, h10, h11, _, -⟩ := hd
      refine TOps.assign h8 rfl ?_
      exact TOps.fin (Nrm.drawM x (fun _ _ _ => rfl) rfl (by first | exact Le.refl _ | assumption | exact (by repeat (first | exact Le.refl _ | assumption | apply Le.drop))))
    ) (fun g => ?_)
  refine Nrm.fact (List.Mem.head _) (fun f1 => ?_)
  refine Nrm.fact (List.Mem.tail _ (List.Mem.head _)) (fun f2 => ?_)
  refine Nrm.le (H' := row (some g.b6) 24 3 1 [.int .i64 G1.vars, slV g.a1 0 G1.nodes.length g.c1, .int .i64 G1.top] :: row (some g.b7) 24 3 1 [.int .i64 G2.vars, slV g.a2 0 G2.nodes.length g.c2, .int .i64 G2.top] :: row (some b1) 24 3 1 (fmCells F (na, off, cap, nsp)) :: row oa 24 3 ocap (fsCells acc qs) :: ((g.n ++ N) ++ H)) ?_ ?_
  · subst hHB
    rw [List.append_assoc]
    exact Le.outC
  have hNN : Le ((g.n ++ N) ++ H) (N ++ H) := by rw [List.append_assoc]; exact Le.sub (List.sublist_append_right _ _)
  have hNg : Le ((g.n ++ N) ++ H) g.n := by rw [List.append_assoc]; exact Le.sub (List.sublist_append_left _ _)
  replace f1 := f1.le hNg; replace f2 := f2.le hNg
  have hacc' := hacc.le hNN
  refine Nrm.next ?_
  refine Tri.seq ?_
  refine Tri.seq (Tri.region ?_)
  refine TOps.move rfl rfl ?_
  refine TOps.neqI rfl rfl rfl ?_
  refine TOps.next ?_
  refine Tri.cond rfl (fun hc2 => ?_) (fun hc2 => ?_)
  · try simp only [decide_eq_true_eq, decide_eq_false_iff_not, Bool.and_eq_true, Bool.or_eq_true, Bool.not_eq_true', Bool.and_eq_false_iff, Bool.or_eq_false_iff, Bool.not_eq_false', Int.not_lt, Int.not_le, ne_eq, Decidable.not_not, Option.isSome_iff_ne_none, Option.isNone_iff_eq_none] at hc2
    have hres' : RES = ([], some 4) := by
      rcases hpm with ⟨_, h⟩ | ⟨_, h, _⟩
      · rw [h] at hres; exact hres.symm
      · rw [h] at hc2; simp at hc2
    have hce4 : ce = some 4 := by
      rcases hpm with ⟨_, h⟩ | ⟨_, h, _⟩
      · exact h
      · rw [h] at hc2; simp at hc2
    refine Tri.seq (Tri.region ?_)
    refine TOps.move rfl rfl ?_
    refine TOps.assign rfl rfl ?_
    refine TOps.assign rfl rfl ?_
    refine TOps.next ?_
    refine Tri.ret2 (H' := H) Try.results32 (fun _ _ h => h) (.tmp rfl) (.tmp rfl) ?_ ⟨none, 0, by rw [hres', hce4]; rfl, Le.refl _, by rw [hres']; exact .inl rfl⟩
    exact Le.sub (List.Sublist.cons _ (List.Sublist.cons _ (List.Sublist.cons _ (List.Sublist.cons _ (List.sublist_append_right _ _)))))
  try simp only [decide_eq_true_eq, decide_eq_false_iff_not, Bool.and_eq_true, Bool.or_eq_true, Bool.not_eq_true', Bool.and_eq_false_iff, Bool.or_eq_false_iff, Bool.not_eq_false', Int.not_lt, Int.not_le, ne_eq, Decidable.not_not, Option.isSome_iff_ne_none, Option.isNone_iff_eq_none] at hc2
  have hcn : ce = none := by
    rcases hpm with ⟨_, h⟩ | ⟨_, h, _⟩
    · rw [h] at hc2; simp at hc2
    · exact h
  obtain ⟨hv24, hgo, hgi, hvo, hvi⟩ : F.vars < 24 ∧ G1.Good ∧ G2.Good ∧ G1.vars = F.vars + 1 ∧ G2.vars = F.vars := by
    rcases hpm with ⟨_, h⟩ | ⟨h1, _, h2⟩
    · rw [hcn] at h; cases h
    · exact ⟨h1, h2⟩
  rw [hcn] at hres
  have hvon : G1.vars.toNat = F.vars.toNat + 1 := by omega
  refine Tri.fin ?_
  refine Nrm.next ?_
  refine Tri.seq (Tri.region ?_)
  refine TOps.move rfl rfl ?_
  refine TOps.loadN rfl ti24 (by first | exact Rd.all (by repeat (first | exact List.Mem.head _ | apply List.Mem.tail)) | (repeat (first | assumption | apply Rd.up))) rfl rfl ?_
  refine TOps.buildSlice (vs := [_]) (xs := [_, _, _]) Try.underlying38 ti24 ⟨rfl, rfl, trivial⟩ rfl rfl rfl rfl rfl rfl (by decide) rfl (fun b32 => ?_)
  refine TOps.appendLit rfl rfl Try.underlying38 ti24 rfl (fun _ _ => (by repeat (first | exact Upd.here | apply Upd.there))) rfl (by rw [hcl]) rfl (by omega) (by omega) (by simp) rfl (fun b33 cap33 => ?_)
  refine TOps.assign rfl rfl ?_
  refine TOps.next ?_
  refine Tri.region ?_
  refine TOps.loadN rfl ti24 (by first | exact Rd.all (by repeat (first | exact List.Mem.head _ | apply List.Mem.tail)) | (repeat (first | assumption | apply Rd.up))) rfl rfl ?_
  refine TOps.storeN rfl rfl ti24 rfl rfl (by repeat (first | exact Upd.here | apply Upd.there)) (by simp [fmCells]) ?_
  refine TOps.fin ?_
  refine Nrm.unB ?_
  refine Nrm.loop (G1, (g.a1, 0, g.c1, none), acc ++ [G2], qs ++ [(g.a2, 0, g.c2, none)], (some b33, cap33), g.n ++ N) ⟨hgo, f1, hacc'.snoc f2, fun _ => ⟨_, rfl⟩, by simp; omega, by dsimp only; rw [hvon, show 25 - (F.vars.toNat + 1) = fuel by omega]; exact hres⟩ (by dsimp only; omega) ⟨rfl, (by show _ = some (slV (some b33) 0 (acc ++ [G2]).length cap33); rw [List.length_append]; rfl), trivial⟩ (Sp.le (by repeat (first | exact Sp.refl _ | exact Sp.sub (by assumption) | refine Sp.cons (by repeat (first | exact Pick.here | exact Pick.row (by first | (rw [fsCells_snoc _ _ _ _ hacc.1]; rfl) | rfl) | apply Pick.there)) ?_ | exact Sp.nil | apply Sp.skip)))
end Go.Proofs
