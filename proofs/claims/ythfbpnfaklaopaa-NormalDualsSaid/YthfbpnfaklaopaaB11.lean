import Derived.Test.YthfbpnfaklaopaaA11
namespace Go.Proofs
open Go.GL
set_option linter.unusedVariables false
set_option linter.unusedSimpArgs false
theorem trimmed_g {HB : List Ent} {bb : Nat} {v : Nat} {t : Int} {ns : List Nd} {s : BS} (hs : s.ok ns) (hn : ns.length ≤ 100000) {top : Int} (hg : Fm.Fit ⟨v, ns, top⟩) :
    Gives Try.prog 33 [.pointer (some ⟨bb, 0, none⟩), .int .i64 top] (bld 61 54 bb v ns t s HB) (NewN 47 (sizedF (Fm.trim ⟨v, ns, top⟩)) (sizedE (Fm.trim ⟨v, ns, top⟩)) HB) := by
  have hfit := hg.fits
  have g0 := hg.v0; have g1 := hg.v1; have gt := hg.topLt
  obtain ⟨F, hF⟩ : ∃ F, F = Fm.mk v ns top := ⟨_, rfl⟩
  have hvn : F.vars.toNat = v := by rw [hF]; simp
  have hFn : F.nodes = ns := by rw [hF]
  have hFv : F.vars = v := by rw [hF]
  simp only at g0 g1 gt hfit
  obtain ⟨tp, htp⟩ := Int.eq_ofNat_of_zero_le gt.1
  have eb : Fm.below ⟨v, ns, top⟩ = belowL v ns ns.length ((List.replicate (v + ns.length) false).set tp true) := by simp [Fm.below, htp]
  have hbl := F.below_length
  have hbd : ∀ k j, (F.trS k).1.getD j 0 ≤ v + k := fun k j => by rw [← hvn]; exact trS_bound k j
  have hle : ∀ k, (F.trS k).2.length ≤ k := fun k => trS_le k
  have hln : ∀ k, (F.trS k).1.length = v + ns.length := fun k => by rw [← hvn, ← hFn]; exact trS_length k
  rw [← hF] at eb hg ⊢
  rw [hvn, hFn] at hbl
  refine Gives.enter Try.func33 rfl (by exact Try.ntmps33) rfl ?_
  refine Tri.seq (Tri.region ?_)
  refine TOps.alloc ti24 rfl (fun b4 => ?_)
  refine TOps.assign rfl rfl ?_
  refine TOps.next ?_
  refine Tri.seq (Tri.region ?_)
  refine TOps.move rfl rfl ?_
  refine TOps.nilCheck rfl rfl ?_
  refine TOps.field0 rfl Try.underlying61 rfl rfl ti24 rfl rfl rfl ?_
  refine TOps.loadN rfl ti24 (by first | exact Rd.all (by repeat (first | exact List.Mem.head _ | apply List.Mem.tail)) | (repeat (first | assumption | apply Rd.up))) rfl rfl ?_
  refine TOps.alloc ti24 rfl (fun b6 => ?_)
  refine TOps.storeN rfl rfl ti24 rfl rfl (by repeat (first | exact Upd.here | apply Upd.there)) (by first | decide | (simp; done) | (simp; omega)) ?_
  refine TOps.hide2 (fun H1 l1 s1 r6 => ?_)
  have hN := (bld_nodes (T := 61) (TN := 54) (b := bb) (v := v) (t := t) (HB := HB) hs).le l1
  have r6 : Rd H1 b6 0 [.int .i64 v, slV s.oa 0 ns.length s.cap, .int .i64 t] := r6
  have lB : Le H1 HB := l1.trans bld_le
  have sB : HB.Sublist H1 := bld_sub.trans s1
  subst htp
  refine TOps.next ?_
  refine Tri.seq ?_
  have hll : ∀ (x : Nat × Nat) (D : List Nat), Le (on D [6] [] [row (some x.1) 4 1 (v + ns.length) (List.replicate (v + ns.length) (.bool false))] ++ (on D [13] [] [row (some x.2) 3 1 (v + ns.length) (List.replicate (v + ns.length) (.int .i64 0))] ++ (row (some b4) 24 3 1 [.int .i64 0, slV none 0 0 0, .int .i64 0] :: H1))) H1 := fun x D => Le.sub (by repeat (first | exact List.Sublist.refl _ | apply sub_on | apply List.Sublist.cons))
  refine Tri.drawM (X := Nat × Nat) rfl [(1, .int .i64 tp), (4, .pointer (some ⟨b4, 0, none⟩)), (6, .pointer (some ⟨b6, 0, none⟩))] [] (fun x => [_, _, _, _, _, _, slV (some x.1) 0 (v + ns.length) (v + ns.length), _, _, _, _, _, _, slV (some x.2) 0 (v + ns.length) (v + ns.length), slV (some x.1) 0 (v + ns.length) (v + ns.length), slV (some x.2) 0 (v + ns.length) (v + ns.length)]) (fun x D => on D [6] [] [row (some x.1) 4 1 (v + ns.length) (List.replicate (v + ns.length) (.bool false))] ++ (on D [13] [] [row (some x.2) 3 1 (v + ns.length) (List.replicate (v + ns.length) (.int .i64 0))] ++ (row (some b4) 24 3 1 [.int .i64 0, slV none 0 0 0, .int .i64 0] :: H1))) [6, 13] [0, 1, 0, 4, 12, 31, 63, 0, 128, 0, 512, 1536, 3968, 8064, 127, 32767] [[], [13], [6], [6, 13]] (0, 0) [14, 15] rfl rfl (by kernel_rfl) (by kernel_rfl) ⟨rfl, rfl, rfl, trivial⟩ trivial (by repeat (first | exact Le.refl _ | assumption | apply Le.drop)) (by
    refine ⟨?_, ?_, ?_, ?_, ?_, ?_, ?_, ?_, ?_, ?_, ?_, ?_, ?_, ?_, ?_, ?_, trivial⟩
    · refine ⟨fun x S D he hw hd hD _ => ?_, trivial⟩
      refine TOps.field0 (he _ _ rfl) Try.underlying24 rfl rfl ti3 rfl rfl rfl ?_
      exact TOps.fin (Nrm.drawM x (fun _ _ _ => rfl) rfl (by first | exact Le.refl _ | assumption | exact (by repeat (first | exact Le.refl _ | assumption | apply Le.drop))))
    · refine ⟨fun x S D he hw hd hD _ => ?_, trivial⟩
      obtain ⟨h0, -⟩ := hd
      refine TOps.load1 h0 ti3 (Rd.le (by first | exact Rd.lit (by repeat (first | exact List.Mem.head _ | apply List.Mem.tail)) rfl | (repeat (first | assumption | exact Rd.fld (by assumption) 0 rfl | apply Rd.up))) (hll x D)) rfl ?_
      exact TOps.fin (Nrm.drawM x (fun _ _ _ => rfl) rfl (by first | exact Le.refl _ | assumption | exact (by repeat (first | exact Le.refl _ | assumption | apply Le.drop))))
    · refine ⟨fun x S D he hw hd hD _ => ?_, trivial⟩
      first | refine TOps.fieldB 1 (he _ _ rfl) Try.underlying24 rfl rfl ti22 rfl rfl rfl ?_ | refine TOps.fieldN 1 (he _ _ rfl) Try.underlying24 rfl rfl ti22 rfl rfl rfl ?_
      exact TOps.fin (Nrm.drawM x (fun _ _ _ => rfl) rfl (by first | exact Le.refl _ | assumption | exact (by repeat (first | exact Le.refl _ | assumption | apply Le.drop))))
    · refine ⟨fun x S D he hw hd hD _ => ?_, trivial⟩
      obtain ⟨h2, -⟩ := hd
      refine TOps.load1 h2 ti22 (Rd.le (by first | exact Rd.lit (by repeat (first | exact List.Mem.head _ | apply List.Mem.tail)) rfl | (repeat (first | assumption | exact Rd.fld (by assumption) 1 rfl | apply Rd.up))) (hll x D)) rfl ?_
      exact TOps.fin (Nrm.drawM x (fun _ _ _ => rfl) rfl (by first | exact Le.refl _ | assumption | exact (by repeat (first | exact Le.refl _ | assumption | apply Le.drop))))
    · refine ⟨fun x S D he hw hd hD _ => ?_, trivial⟩
      obtain ⟨h3, -⟩ := hd
      refine TOps.len h3 Try.underlying22 rfl ?_
      exact TOps.fin (Nrm.drawM x (fun _ _ _ => rfl) rfl (by first | exact Le.refl _ | assumption | exact (by repeat (first | exact Le.refl _ | assumption | apply Le.drop))))
    · refine ⟨fun x S D he hw hd hD _ => ?_, trivial⟩
      obtain ⟨h1, h4, -⟩ := hd
      refine TOps.add (r := ((v + ns.length : Nat) : Int)) h1 h4 (by rw [wrapI (by omega) (by omega)]; omega) rfl ?_
      exact TOps.fin (Nrm.drawM x (fun _ _ _ => rfl) rfl (by first | exact Le.refl _ | assumption | exact (by repeat (first | exact Le.refl _ | assumption | apply Le.drop))))
    · refine ⟨fun x S D he hw hd hD _ => ?_, trivial⟩
      obtain ⟨h5, _, -⟩ := hd
      replace hD := mem_of_eq (L' := [[], [13]]) hD (by kernel_rfl)
      simp only [List.mem_cons, List.not_mem_nil, or_false] at hD
      rcases hD with rfl | rfl
      all_goals refine TOps.make1 h5 h5 Try.underlying77 ti4 (by omega) (by omega) (by omega) rfl (fun b26 => ?_)
      all_goals refine TOps.fin (Nrm.drawM (b26, x.2) ?_ rfl (Sp.le (by repeat (first | exact Sp.refl _ | exact Sp.sub (by assumption) | refine Sp.cons (by repeat (first | exact Pick.here | apply Pick.there)) ?_ | exact Sp.nil | apply Sp.skip))))
      all_goals (intro j hj hcj; rcases j with _|_|_|_|_|_|_|_|_|_|_|_|_|_|_|_|j <;> first | rfl | exact absurd rfl hj | exact absurd hcj (by decide))
    · refine ⟨fun x S D he hw hd hD _ => ?_, trivial⟩
      refine TOps.field0 (he _ _ rfl) Try.underlying24 rfl rfl ti3 rfl rfl rfl ?_
      exact TOps.fin (Nrm.drawM x (fun _ _ _ => rfl) rfl (by first | exact Le.refl _ | assumption | exact (by repeat (first | exact Le.refl _ | assumption | apply Le.drop))))
    · refine ⟨fun x S D he hw hd hD _ => ?_, trivial⟩
      obtain ⟨h7, -⟩ := hd
      refine TOps.load1 h7 ti3 (Rd.le (by first | exact Rd.lit (by repeat (first | exact List.Mem.head _ | apply List.Mem.tail)) rfl | (repeat (first | assumption | exact Rd.fld (by assumption) 0 rfl | apply Rd.up))) (hll x D)) rfl ?_
      exact TOps.fin (Nrm.drawM x (fun _ _ _ => rfl) rfl (by first | exact Le.refl _ | assumption | exact (by repeat (first | exact Le.refl _ | assumption | apply Le.drop))))
    · refine ⟨fun x S D he hw hd hD _ => ?_, trivial⟩
      first | refine TOps.fieldB 1 (he _ _ rfl) Try.underlying24 rfl rfl ti22 rfl rfl rfl ?_ | refine TOps.fieldN 1 (he _ _ rfl) Try.underlying24 rfl rfl ti22 rfl rfl rfl ?_
      exact TOps.fin (Nrm.drawM x (fun _ _ _ => rfl) rfl (by first | exact Le.refl _ | assumption | exact (by repeat (first | exact Le.refl _ | assumption | apply Le.drop))))
    · refine ⟨fun x S D he hw hd hD _ => ?_, trivial⟩
      obtain ⟨h9, -⟩ := hd
      refine TOps.load1 h9 ti22 (Rd.le (by first | exact Rd.lit (by repeat (first | exact List.Mem.head _ | apply List.Mem.tail)) rfl | (repeat (first | assumption | exact Rd.fld (by assumption) 1 rfl | apply Rd.up))) (hll x D)) rfl ?_
      exact TOps.fin (Nrm.drawM x (fun _ _ _ => rfl) rfl (by first | exact Le.refl _ | assumption | exact (by repeat (first | exact Le.refl _ | assumption | apply Le.drop))))
    · refine ⟨fun x S D he hw hd hD _ => ?_, trivial⟩
      obtain ⟨h10, -⟩ := hd
      refine TOps.len h10 Try.underlying22 rfl ?_
      exact TOps.fin (Nrm.drawM x (fun _ _ _ => rfl) rfl (by first | exact Le.refl _ | assumption | exact (by repeat (first | exact Le.refl _ | assumption | apply Le.drop))))
    · refine ⟨fun x S D he hw hd hD _ => ?_, trivial⟩
      obtain ⟨h8, h11, -⟩ := hd
      refine TOps.add (r := ((v + ns.length : Nat) : Int)) h8 h11 (by rw [wrapI (by omega) (by omega)]; omega) rfl ?_
      exact TOps.fin (Nrm.drawM x (fun _ _ _ => rfl) rfl (by first | exact Le.refl _ | assumption | exact (by repeat (first | exact Le.refl _ | assumption | apply Le.drop))))
    · refine ⟨fun x S D he hw hd hD _ => ?_, trivial⟩
      obtain ⟨h12, _, -⟩ := hd
      replace hD := mem_of_eq (L' := [[], [6]]) hD (by kernel_rfl)
      simp only [List.mem_cons, List.not_mem_nil, or_false] at hD
      rcases hD with rfl | rfl
      all_goals refine TOps.make1 h12 h12 Try.underlying52 ti3 (by omega) (by omega) (by omega) rfl (fun b33 => ?_)
      all_goals refine TOps.fin (Nrm.drawM (x.1, b33) ?_ rfl (Sp.le (by repeat (first | exact Sp.refl _ | exact Sp.sub (by assumption) | refine Sp.cons (by repeat (first | exact Pick.here | apply Pick.there)) ?_ | exact Sp.nil | apply Sp.skip))))
      all_goals (intro j hj hcj; rcases j with _|_|_|_|_|_|_|_|_|_|_|_|_|_|_|_|j <;> first | rfl | exact absurd rfl hj | exact absurd hcj (by decide))
    · refine ⟨fun x S D he hw hd hD _ => ?_, trivial⟩
      obtain ⟨h6, h0, h1, h2, h3, h4, h5, _, -⟩ := hd
      refine TOps.assign h6 rfl ?_
      exact TOps.fin (Nrm.drawM x (fun _ _ _ => rfl) rfl (by first | exact Le.refl _ | assumption | exact (by repeat (first | exact Le.refl _ | assumption | apply Le.drop))))
    · refine ⟨fun x S D he hw hd hD _ => ?_, trivial⟩
      obtain ⟨h13, h14, h0, h1, h2, h3, h4, h5, h6, h7, h8, h9, h10, h11, h12, _, _, -⟩ := hd
      refine TOps.assign h13 rfl ?_
      exact TOps.fin (Nrm.drawM x (fun _ _ _ => rfl) rfl (by first | exact Le.refl _ | assumption | exact (by repeat (first | exact Le.refl _ | assumption | apply Le.drop))))
    ) (fun y => ?_)
  refine Nrm.le (H' := row (some y.1) 4 1 (v + ns.length) (List.replicate (v + ns.length) (.bool false)) :: row (some y.2) 3 1 (v + ns.length) (List.replicate (v + ns.length) (.int .i64 0)) :: row (some b4) 24 3 1 [.int .i64 0, slV none 0 0 0, .int .i64 0] :: H1) (Sp.le (by repeat (first | exact Sp.refl _ | exact Sp.sub (by assumption) | refine Sp.cons (by repeat (first | exact Pick.here | apply Pick.there)) ?_ | exact Sp.nil | apply Sp.skip))) ?_
  clear hll
  refine Nrm.next ?_
  refine Tri.seq (Tri.region ?_)
  refine TOps.move rfl rfl ?_
  refine TOps.move rfl rfl ?_
  refine TOps.indexAddr (off' := tp) rfl rfl Try.underlying77 ti4 (by omega) (by omega) (by simp) rfl ?_
  refine TOps.store1 rfl rfl ti4 rfl rfl (by repeat (first | exact Upd.here | apply Upd.there)) (by first | decide | (simp; done) | (simp; omega)) ?_
  refine TOps.next ?_
  refine Tri.seq ?_
  refine Tri.seq (Tri.region ?_)
  first | refine TOps.fieldB 1 rfl Try.underlying24 rfl rfl ti22 rfl rfl rfl ?_ | refine TOps.fieldN 1 rfl Try.underlying24 rfl rfl ti22 rfl rfl rfl ?_
  refine TOps.load1 rfl ti22 (by first | exact Rd.lit (by repeat (first | exact List.Mem.head _ | apply List.Mem.tail)) rfl | (repeat (first | assumption | exact Rd.fld (by assumption) 1 rfl | apply Rd.up))) rfl ?_
  refine TOps.len rfl Try.underlying22 rfl ?_
  refine TOps.sub rfl rfl (wrapI (by omega) (by omega)) rfl ?_
  refine TOps.assign rfl rfl ?_
  refine TOps.next ?_
  refine Tri.block ?_
  refine Tri.loop (X := Nat × List Bool) (fun x => [(1, .int .i64 tp), (4, .pointer (some ⟨b4, 0, none⟩)), (6, .pointer (some ⟨b6, 0, none⟩)), (7, slV (some y.1) 0 (v + ns.length) (v + ns.length)), (8, slV (some y.2) 0 (v + ns.length) (v + ns.length)), (9, .int .i64 ((x.1 : Int) - 1))]) (fun x => row (some y.1) 4 1 (v + ns.length) (bools x.2) :: row (some y.2) 3 1 (v + ns.length) (List.replicate (v + ns.length) (.int .i64 0)) :: row (some b4) 24 3 1 [.int .i64 0, slV none 0 0 0, .int .i64 0] :: H1) (fun x => x.1 ≤ ns.length ∧ x.2.length = v + ns.length ∧ belowL v ns x.1 x.2 = F.below) (fun x => x.1) (ns.length, (List.replicate (v + ns.length) false).set tp true) ⟨Nat.le_refl _, by simp, eb.symm⟩ ⟨rfl, rfl, rfl, rfl, rfl, rfl, trivial⟩ (Le.rowEq (by simp)) (fun x hp => ?_)
  obtain ⟨i, m⟩ := x
  obtain ⟨hp1, hp2, hp3⟩ := hp
  dsimp only at hp1 hp2 hp3 ⊢
  refine Tri.seq ?_
  refine Tri.seq (Tri.region ?_)
  refine TOps.move rfl rfl ?_
  refine TOps.geq rfl rfl rfl ?_
  refine TOps.next ?_
  refine Tri.cond rfl (fun hc1 => ?_) (fun hc1 => ?_)
  · try simp only [decide_eq_true_eq, decide_eq_false_iff_not, Bool.and_eq_true, Bool.or_eq_true, Bool.not_eq_true', Bool.and_eq_false_iff, Bool.or_eq_false_iff, Bool.not_eq_false', Int.not_lt, Int.not_le, ne_eq, Decidable.not_not, Option.isSome_iff_ne_none, Option.isNone_iff_eq_none] at hc1
    obtain ⟨i, rfl⟩ : ∃ j, i = j + 1 := ⟨i - 1, by omega⟩
    have hi : i < ns.length := by omega
    have e1 : ((i + 1 : Nat) : Int) - 1 = i := by omega
    refine Tri.fin ?_
    refine Nrm.next ?_
    refine Tri.seq ?_
    refine Tri.block ?_
    refine Tri.seq (Tri.region ?_)
    refine TOps.move rfl rfl ?_
    refine TOps.field0 rfl Try.underlying24 rfl rfl ti3 rfl rfl rfl ?_
    refine TOps.load1 rfl ti3 (by first | exact Rd.lit (by repeat (first | exact List.Mem.head _ | apply List.Mem.tail)) rfl | (repeat (first | assumption | exact Rd.fld (by assumption) 0 rfl | apply Rd.up))) rfl ?_
    refine TOps.move rfl rfl ?_
    refine TOps.add (r := ((v + i : Nat) : Int)) rfl rfl (by rw [wrapI (by omega) (by omega)]; omega) rfl ?_
    refine TOps.indexAddr (off' := v + i) rfl rfl Try.underlying77 ti4 (by omega) (by omega) (by omega) rfl ?_
    refine TOps.load1 (v := .bool (m.getD (v + i) false)) rfl ti4 (Rd.lit (List.Mem.head _) (bools_get (by omega))) rfl ?_
    refine TOps.next ?_
    refine Tri.cond rfl (fun hc2 => ?_) (fun hc2 => ?_)
    · try simp only [decide_eq_true_eq, decide_eq_false_iff_not, Bool.and_eq_true, Bool.or_eq_true, Bool.not_eq_true', Bool.and_eq_false_iff, Bool.or_eq_false_iff, Bool.not_eq_false', Int.not_lt, Int.not_le, ne_eq, Decidable.not_not, Option.isSome_iff_ne_none, Option.isNone_iff_eq_none] at hc2
      refine Tri.seq (Tri.region ?_)
      obtain ⟨nb, aa, ao, acap, asp, hoa, -, hn⟩ := hN.at hi
      have hfi := hfit i hi
      have hcells := hn.cells
      have hal := hfi.len
      rw [hoa] at r6
      first | refine TOps.fieldB 1 rfl Try.underlying24 rfl rfl ti22 rfl rfl rfl ?_ | refine TOps.fieldN 1 rfl Try.underlying24 rfl rfl ti22 rfl rfl rfl ?_
      refine TOps.load1 rfl ti22 (by first | exact Rd.lit (by repeat (first | exact List.Mem.head _ | apply List.Mem.tail)) rfl | (repeat (first | assumption | exact Rd.fld (by assumption) 1 rfl | apply Rd.up))) rfl ?_
      refine TOps.move rfl rfl ?_
      refine TOps.indexAddr (off' := 0 + i * 3) rfl rfl Try.underlying22 ti54 (by omega) (by omega) (by rw [e1]; simp) rfl ?_
      refine TOps.fieldN 2 rfl Try.underlying54 rfl rfl ti52 rfl rfl rfl ?_
      refine TOps.load1 rfl ti52 (Rd.up (Rd.up (Rd.up (hcells.part 2 rfl)))) rfl ?_
      refine TOps.len rfl Try.underlying52 rfl ?_
      refine TOps.move rfl rfl ?_
      refine TOps.next ?_
      refine Tri.range (X := Unit) (fun w j => [(1, .int .i64 tp), (4, .pointer (some ⟨b4, 0, none⟩)), (6, .pointer (some ⟨b6, 0, none⟩)), (7, slV (some y.1) 0 (v + ns.length) (v + ns.length)), (8, slV (some y.2) 0 (v + ns.length) (v + ns.length)), (9, .int .i64 (((i + 1 : Nat) : Int) - 1)), (57, slV aa ao ns[i].args.length acap asp)]) (fun w j => row (some y.1) 4 1 (v + ns.length) (bools (markArgs m (ns[i].args.take j))) :: row (some y.2) 3 1 (v + ns.length) (List.replicate (v + ns.length) (.int .i64 0)) :: row (some b4) 24 3 1 [.int .i64 0, slV none 0 0 0, .int .i64 0] :: H1) (fun w j => True) (by omega) rfl rfl rfl (fun _ _ => ⟨rfl, rfl, rfl, rfl⟩) () trivial ⟨rfl, rfl, rfl, rfl, rfl, rfl, rfl, trivial⟩ (by repeat (first | exact Le.refl _ | assumption | apply Le.drop)) (fun j w hltj hpj => ?_) (fun w ac wc hpj hS hM => ?_)
      · skip
        obtain ⟨ab, rfl, rfl, ha⟩ := hn.args.at hltj
        have hb := hfi.args _ (List.getElem_mem hltj)
        have hml := markArgs_length (ns[i].args.take j) m
        refine Tri.seq (Tri.region ?_)
        refine TOps.indexAddr (off' := ao + j) rfl rfl Try.underlying52 ti3 (by omega) (by omega) (by simp) rfl ?_
        refine TOps.load1 rfl ti3 (by first | exact Rd.lit (by repeat (first | exact List.Mem.head _ | apply List.Mem.tail)) rfl | (repeat (first | assumption | apply Rd.up))) rfl ?_
        refine TOps.assign rfl rfl ?_
        refine TOps.next ?_
        refine Tri.region ?_
        refine TOps.move rfl rfl ?_
        refine TOps.move rfl rfl ?_
        refine TOps.indexAddr (off' := ns[i].args[j].toNat) rfl rfl Try.underlying77 ti4 (by omega) (by omega) (by simp) rfl ?_
        refine TOps.store1 rfl rfl ti4 rfl rfl Upd.here (by simp; omega) ?_
        refine TOps.fin ?_
        refine Nrm.body () trivial ⟨rfl, rfl, rfl, rfl, rfl, rfl, rfl, rfl, rfl, trivial⟩ (Le.rowEq (by rw [markArgs_take_succ hltj]; simp [bools]))
      rw [List.take_length] at hM
      refine Nrm.of hS hM ?_
      refine Nrm.unB ?_
      refine Nrm.next ?_
      refine Tri.region ?_
      refine TOps.move rfl rfl ?_
      refine TOps.sub rfl rfl (wrapI (by omega) (by omega)) rfl ?_
      refine TOps.assign rfl rfl ?_
      refine TOps.fin ?_
      refine Nrm.loop (i, bif m.getD (v + i) false then markArgs m (ns.getD i ⟨0, 0, []⟩).args else m) ⟨by simp only; omega, by cases m.getD (v + i) false <;> simp [markArgs_length, hp2], hp3⟩ (by simp) ⟨rfl, rfl, rfl, rfl, rfl, (by refine congrArg (fun z : Int => some (Value.int .i64 z)) ?_; simp), trivial⟩ (by rw [show ns.getD i ⟨0, 0, []⟩ = ns[i] from by simp [hi], hc2]; exact Le.refl _)
    try simp only [decide_eq_true_eq, decide_eq_false_iff_not, Bool.and_eq_true, Bool.or_eq_true, Bool.not_eq_true', Bool.and_eq_false_iff, Bool.or_eq_false_iff, Bool.not_eq_false', Int.not_lt, Int.not_le, ne_eq, Decidable.not_not, Option.isSome_iff_ne_none, Option.isNone_iff_eq_none] at hc2
    refine Tri.fin ?_
    refine Nrm.unB ?_
    refine Nrm.next ?_
    refine Tri.region ?_
    refine TOps.move rfl rfl ?_
    refine TOps.sub rfl rfl (wrapI (by omega) (by omega)) rfl ?_
    refine TOps.assign rfl rfl ?_
    refine TOps.fin ?_
    refine Nrm.loop (i, bif m.getD (v + i) false then markArgs m (ns.getD i ⟨0, 0, []⟩).args else m) ⟨by simp only; omega, by cases m.getD (v + i) false <;> simp [markArgs_length, hp2], hp3⟩ (by simp) ⟨rfl, rfl, rfl, rfl, rfl, (by refine congrArg (fun z : Int => some (Value.int .i64 z)) ?_; simp), trivial⟩ (by rw [show ns.getD i ⟨0, 0, []⟩ = ns[i] from by simp [hi], hc2]; exact Le.refl _)
  try simp only [decide_eq_true_eq, decide_eq_false_iff_not, Bool.and_eq_true, Bool.or_eq_true, Bool.not_eq_true', Bool.and_eq_false_iff, Bool.or_eq_false_iff, Bool.not_eq_false', Int.not_lt, Int.not_le, ne_eq, Decidable.not_not, Option.isSome_iff_ne_none, Option.isNone_iff_eq_none] at hc1
  obtain rfl : i = 0 := by omega
  have hp3' : m = F.below := hp3
  subst hp3'
  first | refine Tri.exitW ?_ | (refine Tri.exitTo ?_; repeat (with_reducible first | refine ExitTo.blk ?_ | refine ExitTo.blkNe rfl ?_ | refine ExitTo.body ?_ | refine ExitTo.brk rfl ?_ | refine ExitTo.bodyNe rfl rfl ?_ | refine ExitTo.seq ?_ | refine ExitTo.loop ?_))
  refine Nrm.next ?_
  refine Tri.seq (Tri.region ?_)
  refine TOps.field0 rfl Try.underlying24 rfl rfl ti3 rfl rfl rfl ?_
  refine TOps.load1 rfl ti3 (by first | exact Rd.lit (by repeat (first | exact List.Mem.head _ | apply List.Mem.tail)) rfl | (repeat (first | assumption | exact Rd.fld (by assumption) 0 rfl | apply Rd.up))) rfl ?_
  refine TOps.buildStruct (vs := [(0, _)]) (xs := [_, _, _]) [(0, 1), (1, 1), (2, 1)] Try.underlying24 ti24 (fun w => by simp) ⟨rfl, rfl, trivial⟩ rfl rfl ?_
  refine TOps.buildStruct (vs := [(0, _)]) (xs := [_, _, _]) [(0, 3)] Try.underlying61 ti61 (fun w => by simp) ⟨rfl, rfl, trivial⟩ rfl rfl ?_
  refine TOps.boxN rfl ti61 rfl rfl (fun b71 => ?_)
  refine TOps.assign rfl rfl ?_
  refine TOps.next ?_
  refine Tri.seq ?_
  refine Tri.seq (Tri.region ?_)
  refine TOps.field0 rfl Try.underlying24 rfl rfl ti3 rfl rfl rfl ?_
  refine TOps.load1 rfl ti3 (by first | exact Rd.lit (by repeat (first | exact List.Mem.head _ | apply List.Mem.tail)) rfl | (repeat (first | assumption | exact Rd.fld (by assumption) 0 rfl | apply Rd.up))) rfl ?_
  refine TOps.move rfl rfl ?_
  refine TOps.next ?_
  refine Tri.range (X := Unit) (fun x k => [(1, .int .i64 tp), (4, .pointer (some ⟨b4, 0, none⟩)), (6, .pointer (some ⟨b6, 0, none⟩)), (7, slV (some y.1) 0 (v + ns.length) (v + ns.length)), (8, slV (some y.2) 0 (v + ns.length) (v + ns.length)), (12, .pointer (some ⟨b71, 0, none⟩))]) (fun x k => row (some y.2) 3 1 (v + ns.length) (nats (List.range k ++ List.replicate (v + ns.length - k) 0)) :: row (some b71) 61 3 1 [.int .i64 v, slV none 0 0 0, .int .i64 0] :: row (some y.1) 4 1 (v + ns.length) (bools F.below) :: row (some b4) 24 3 1 [.int .i64 0, slV none 0 0 0, .int .i64 0] :: H1) (fun x k => True) (by omega) rfl rfl rfl (fun _ _ => ⟨rfl, rfl, rfl, rfl⟩) () trivial ⟨rfl, rfl, rfl, rfl, rfl, rfl, trivial⟩ (Sp.le (by repeat (first | exact Sp.refl _ | exact Sp.sub (by assumption) | refine Sp.cons (by repeat (first | exact Pick.here | exact Pick.row (by simp) | apply Pick.there)) ?_ | exact Sp.nil | apply Sp.skip))) (fun k x hlt hp => ?_) (fun x ac wc hp hS hM => ?_)
  · skip
    refine Tri.seq (Tri.region ?_)
    refine TOps.move rfl rfl ?_
    refine TOps.assign rfl rfl ?_
    refine TOps.next ?_
    refine Tri.region ?_
    refine TOps.move rfl rfl ?_
    refine TOps.move rfl rfl ?_
    refine TOps.move rfl rfl ?_
    refine TOps.indexAddr (off' := k) rfl rfl Try.underlying52 ti3 (by omega) (by omega) (by simp) rfl ?_
    refine TOps.store1 rfl rfl ti3 rfl rfl (by repeat (first | exact Upd.here | apply Upd.there)) (by first | decide | (simp; done) | (simp; omega)) ?_
    refine TOps.fin ?_
    refine Nrm.body () trivial ⟨rfl, rfl, rfl, rfl, rfl, rfl, rfl, rfl, trivial⟩ (Le.rowEq (by rw [← nats_set, setRange hlt]))
  have hz : nats (List.range v ++ List.replicate (v + ns.length - v) 0) = nats (F.trS 0).1 := by unfold Fm.trS trS; rw [hvn, hFn]; simp
  rw [hz] at hM
  refine Nrm.of hS hM ?_
  refine Nrm.next ?_
  refine Tri.seq ?_
  refine Tri.seq (Tri.region ?_)
  first | refine TOps.fieldB 1 rfl Try.underlying24 rfl rfl ti22 rfl rfl rfl ?_ | refine TOps.fieldN 1 rfl Try.underlying24 rfl rfl ti22 rfl rfl rfl ?_
  refine TOps.load1 rfl ti22 (by first | exact Rd.lit (by repeat (first | exact List.Mem.head _ | apply List.Mem.tail)) rfl | (repeat (first | assumption | exact Rd.fld (by assumption) 1 rfl | apply Rd.up))) rfl ?_
  refine TOps.len rfl Try.underlying22 rfl ?_
  refine TOps.move rfl rfl ?_
  refine TOps.next ?_
  refine Tri.range (X := BS) (fun z k => [(1, .int .i64 tp), (4, .pointer (some ⟨b4, 0, none⟩)), (6, .pointer (some ⟨b6, 0, none⟩)), (7, slV (some y.1) 0 (v + ns.length) (v + ns.length)), (8, slV (some y.2) 0 (v + ns.length) (v + ns.length)), (12, .pointer (some ⟨b71, 0, none⟩)), (83, slV s.oa 0 ns.length s.cap)]) (fun z k => bld 61 54 b71 v (F.trS k).2 0 z (row (some y.2) 3 1 (v + ns.length) (nats (F.trS k).1) :: row (some y.1) 4 1 (v + ns.length) (bools F.below) :: row (some b4) 24 3 1 [.int .i64 0, slV none 0 0 0, .int .i64 0] :: H1)) (fun z k => z.ok (F.trS k).2) (by omega) rfl rfl rfl (fun _ _ => ⟨rfl, rfl, rfl, rfl⟩) BS.new BS.new_ok ⟨rfl, rfl, rfl, rfl, rfl, rfl, rfl, trivial⟩ (Le.swap.trans bld_new) (fun k z hlt hp => ?_) (fun z ac wc hp hS hM => ?_)
  · skip
    obtain ⟨nb, aa, ao, acap, asp, hoa, -, hn⟩ := hN.at hlt
    have hfi := hfit k hlt
    have hal := hfi.len
    have hlk := hle k; have hlnk := hln k
    have hst : F.trS (k + 1) = (bif F.below.getD (v + k) false then ((F.trS k).1.set (v + k) (v + (F.trS k).2.length), (F.trS k).2 ++ [trN (F.trS k).1 ns[k]]) else F.trS k) := by
      subst hF; unfold Fm.trS; rw [trS]; simp [hlt]
    obtain ⟨d, hd⟩ : ∃ d, d = ns[k] := ⟨_, rfl⟩
    obtain ⟨TB, hTB⟩ : ∃ TB, TB = (F.trS k).1 := ⟨_, rfl⟩
    obtain ⟨NS, hNS⟩ : ∃ NS, NS = (F.trS k).2 := ⟨_, rfl⟩
    obtain ⟨HT, hHT⟩ : ∃ HT, HT = row (some y.2) 3 1 (v + ns.length) (nats TB) := ⟨_, rfl⟩
    obtain ⟨HB2, hHB⟩ : ∃ HB2, HB2 = row (some y.1) 4 1 (v + ns.length) (bools F.below) :: row (some b4) 24 3 1 [.int .i64 0, slV none 0 0 0, .int .i64 0] :: H1 := ⟨_, rfl⟩
    have lH : Le HB2 H1 := by rw [hHB]; exact Le.drop (Le.drop (Le.refl _))
    rw [← hd] at hn hfi hal hst
    rw [← hTB, ← hNS] at hst
    rw [← hTB] at hlnk
    rw [← hNS] at hlk hp
    rw [← hTB, ← hNS, ← hHT, ← hHB, hoa]
    have r6b : Rd (bld 61 54 b71 v NS 0 z (HT :: HB2)) b6 0 [.int .i64 v, slV s.oa 0 ns.length s.cap, .int .i64 t] := (r6.le lH).le (Le.trans bld_le (Le.drop (Le.refl _)))
    have hnb := (hn.le lH).le (Le.trans (bld_le (T := 61) (TN := 54) (b := b71) (v := v) (ns := NS) (t := 0) (s := z) (HB := HT :: HB2)) (Le.drop (Le.refl _)))
    have hmk : Rd (bld 61 54 b71 v NS 0 z (HT :: HB2)) y.1 0 (bools F.below) := by subst hHB; exact Rd.le (Rd.all (List.Mem.head _)) (Le.trans bld_le (Le.drop (Le.refl _)))
    have hto : RdS (bld 61 54 b71 v NS 0 z (HT :: HB2)) (some y.2) 0 (nats TB) := by subst hHT; exact RdS.le (RdS.ofRowS (List.Mem.head _)) bld_le
    have hin : ∀ a ∈ d.args, 0 ≤ a ∧ a.toNat < v + ns.length := fun a ha => by have := hfi.args a ha; omega
    refine Tri.seq (Tri.region ?_)
    refine TOps.move rfl rfl ?_
    refine TOps.indexAddr (off' := 0 + k * 3) rfl rfl Try.underlying22 ti54 (by omega) (by omega) (by simp) rfl ?_
    refine TOps.loadN (vs := [.int .i64 d.kind, .int .i64 d.k, slV aa ao d.args.length acap asp]) rfl ti54 hnb.cells rfl rfl ?_
    refine TOps.alloc ti54 rfl (fun b15 => ?_)
    refine TOps.assign rfl rfl ?_
    refine TOps.storeN rfl rfl ti54 rfl rfl (by repeat (first | exact Upd.here | apply Upd.there)) (by first | decide | (simp; done) | (simp; omega)) ?_
    refine TOps.next ?_
    refine Tri.seq (Tri.region ?_)
    refine TOps.move rfl rfl ?_
    refine TOps.field0 rfl Try.underlying24 rfl rfl ti3 rfl rfl rfl ?_
    refine TOps.load1 rfl ti3 (by first | exact Rd.lit (by repeat (first | exact List.Mem.head _ | apply List.Mem.tail)) rfl | (repeat (first | assumption | exact Rd.fld (by assumption) 0 rfl | apply Rd.up))) rfl ?_
    refine TOps.move rfl rfl ?_
    refine TOps.add (r := ((v + k : Nat) : Int)) rfl rfl (by rw [wrapI (by omega) (by omega)]; omega) rfl ?_
    refine TOps.indexAddr (off' := v + k) rfl rfl Try.underlying77 ti4 (by omega) (by omega) (by omega) rfl ?_
    refine TOps.load1 (v := .bool (F.below.getD (v + k) false)) rfl ti4 (Rd.up (by have := hmk.part (v + k) (bools_get (by omega)); rwa [Nat.zero_add] at this)) rfl ?_
    refine TOps.next ?_
    refine Tri.cond rfl (fun hc3 => ?_) (fun hc3 => ?_)
    · try simp only [decide_eq_true_eq, decide_eq_false_iff_not, Bool.and_eq_true, Bool.or_eq_true, Bool.not_eq_true', Bool.and_eq_false_iff, Bool.or_eq_false_iff, Bool.not_eq_false', Int.not_lt, Int.not_le, ne_eq, Decidable.not_not, Option.isSome_iff_ne_none, Option.isNone_iff_eq_none] at hc3
      have hlc : ∀ (x : (Option Nat × Nat) × BS) (c : Nat), Le (match c with | 0 => row (some b15) 54 3 1 [.int .i64 d.kind, .int .i64 d.k, slV aa ao d.args.length acap asp] :: bld 61 54 b71 v NS 0 z (HT :: HB2) | 1 => fact (d.args ≠ [] → ∃ b, x.1.1 = some b) :: row x.1.1 3 1 x.1.2 (ints (trA TB d.args)) :: row (some b15) 54 3 1 [.int .i64 d.kind, .int .i64 d.k, slV aa ao d.args.length acap asp] :: bld 61 54 b71 v NS 0 z (HT :: HB2) | 2 => fact (x.2.ok (NS ++ [trN TB d])) :: bld 61 54 b71 v (NS ++ [trN TB d]) 0 x.2 (HT :: HB2) | _ + 3 => fact (x.2.ok (NS ++ [trN TB d])) :: bld 61 54 b71 v (NS ++ [trN TB d]) 0 x.2 (row (some y.2) 3 1 (v + ns.length) ((nats TB).set (v + k) (.int .i64 (v + NS.length))) :: HB2)) HB2 := by
        intro x c
        match c with
        | 0 => exact Le.drop (Le.trans bld_le (Le.drop (Le.refl _)))
        | 1 => exact Le.drop (Le.drop (Le.drop (Le.trans bld_le (Le.drop (Le.refl _)))))
        | 2 => exact Le.drop (Le.trans bld_le (Le.drop (Le.refl _)))
        | _ + 3 => exact Le.drop (Le.trans bld_le (Le.drop (Le.refl _)))
      have r6c := r6.le lH
      refine Tri.drawX (X := (Option Nat × Nat) × BS) rfl [(1, .int .i64 tp), (4, .pointer (some ⟨b4, 0, none⟩)), (6, .pointer (some ⟨b6, 0, none⟩)), (7, slV (some y.1) 0 (v + ns.length) (v + ns.length)), (8, slV (some y.2) 0 (v + ns.length) (v + ns.length)), (12, .pointer (some ⟨b71, 0, none⟩)), (83, slV (some nb) 0 ns.length s.cap), (84, .int .i64 ns.length), (85, .int .i64 k), (14, .int .i64 k), (15, .pointer (some ⟨b15, 0, none⟩))] [] (fun x => [_, _, _, _, _, _, _, _, _, _, _, _, _, slV x.1.1 0 d.args.length x.1.2, _, _, undef]) (fun x c => match c with | 0 => row (some b15) 54 3 1 [.int .i64 d.kind, .int .i64 d.k, slV aa ao d.args.length acap asp] :: bld 61 54 b71 v NS 0 z (HT :: HB2) | 1 => fact (d.args ≠ [] → ∃ b, x.1.1 = some b) :: row x.1.1 3 1 x.1.2 (ints (trA TB d.args)) :: row (some b15) 54 3 1 [.int .i64 d.kind, .int .i64 d.k, slV aa ao d.args.length acap asp] :: bld 61 54 b71 v NS 0 z (HT :: HB2) | 2 => fact (x.2.ok (NS ++ [trN TB d])) :: bld 61 54 b71 v (NS ++ [trN TB d]) 0 x.2 (HT :: HB2) | _ + 3 => fact (x.2.ok (NS ++ [trN TB d])) :: bld 61 54 b71 v (NS ++ [trN TB d]) 0 x.2 (row (some y.2) 3 1 (v + ns.length) ((nats TB).set (v + k) (.int .i64 (v + NS.length))) :: HB2)) [13, 14, 16] ((none, 0), BS.new) [] rfl rfl ⟨rfl, rfl, rfl, rfl, rfl, rfl, rfl, rfl, rfl, rfl, rfl, trivial⟩ trivial (by repeat (first | exact Le.refl _ | assumption | apply Le.drop)) (by
        refine ⟨?_, ?_, ?_, ?_, ?_, ?_, ?_, ?_, ?_, ?_, ?_, ?_, ?_, ?_, ?_, ?_, ?_, trivial⟩
        · refine ⟨fun x S c he hw hd hc hcu hm _ => ?_, trivial⟩
          refine TOps.move (he _ _ rfl) rfl ?_
          exact TOps.fin (Nrm.draw x (fun _ _ _ => rfl) rfl (by first | exact Le.refl _ | assumption | exact (by repeat (first | exact Le.refl _ | assumption | apply Le.drop))))
        · refine ⟨fun x S c he hw hd hc hcu hm _ => ?_, trivial⟩
          refine TOps.field0 (he _ _ rfl) Try.underlying24 rfl rfl ti3 rfl rfl rfl ?_
          exact TOps.fin (Nrm.draw x (fun _ _ _ => rfl) rfl (by first | exact Le.refl _ | assumption | exact (by repeat (first | exact Le.refl _ | assumption | apply Le.drop))))
        · refine ⟨fun x S c he hw hd hc hcu hm _ => ?_, trivial⟩
          obtain ⟨h1, -⟩ := hd
          refine TOps.load1 h1 ti3 (Rd.fld (r6c.le (hlc x c)) 0 rfl) rfl ?_
          exact TOps.fin (Nrm.draw x (fun _ _ _ => rfl) rfl (by first | exact Le.refl _ | assumption | exact (by repeat (first | exact Le.refl _ | assumption | apply Le.drop))))
        · refine ⟨fun x S c he hw hd hc hcu hm _ => ?_, trivial⟩
          refine TOps.move (he _ _ rfl) rfl ?_
          exact TOps.fin (Nrm.draw x (fun _ _ _ => rfl) rfl (by first | exact Le.refl _ | assumption | exact (by repeat (first | exact Le.refl _ | assumption | apply Le.drop))))
        · refine ⟨fun x S c he hw hd hc hcu hm _ => ?_, trivial⟩
          obtain ⟨h2, h3, -⟩ := hd
          refine TOps.add (r := ((v + k : Nat) : Int)) h2 h3 (by rw [wrapI (by omega) (by omega)]; omega) rfl ?_
          exact TOps.fin (Nrm.draw x (fun _ _ _ => rfl) rfl (by first | exact Le.refl _ | assumption | exact (by repeat (first | exact Le.refl _ | assumption | apply Le.drop))))
        · refine ⟨fun x S c he hw hd hc hcu hm _ => ?_, trivial⟩
          refine TOps.move (he _ _ rfl) rfl ?_
          exact TOps.fin (Nrm.draw x (fun _ _ _ => rfl) rfl (by first | exact Le.refl _ | assumption | exact (by repeat (first | exact Le.refl _ | assumption | apply Le.drop))))
        · refine ⟨fun x S c he hw hd hc hcu hm _ => ?_, trivial⟩
          refine TOps.field0 (he _ _ rfl) Try.underlying54 rfl rfl ti3 rfl rfl rfl ?_
          exact TOps.fin (Nrm.draw x (fun _ _ _ => rfl) rfl (by first | exact Le.refl _ | assumption | exact (by repeat (first | exact Le.refl _ | assumption | apply Le.drop))))
        · refine ⟨fun x S c he hw hd hc hcu hm _ => ?_, trivial⟩
          obtain ⟨h6, -⟩ := hd
          rcases (show c = 0 ∨ c = 1 by have : c ≤ 1 := hcu; omega) with rfl | rfl <;> refine TOps.load1 h6 ti3 (Rd.lit (by repeat (first | exact List.Mem.head _ | apply List.Mem.tail)) rfl) rfl ?_
          all_goals exact TOps.fin (Nrm.draw x (fun _ _ _ => rfl) rfl (Le.refl _))
        · refine ⟨fun x S c he hw hd hc hcu hm _ => ?_, trivial⟩
          first | refine TOps.fieldB 1 (he _ _ rfl) Try.underlying54 rfl rfl ti3 rfl rfl rfl ?_ | refine TOps.fieldN 1 (he _ _ rfl) Try.underlying54 rfl rfl ti3 rfl rfl rfl ?_
          exact TOps.fin (Nrm.draw x (fun _ _ _ => rfl) rfl (by first | exact Le.refl _ | assumption | exact (by repeat (first | exact Le.refl _ | assumption | apply Le.drop))))
        · refine ⟨fun x S c he hw hd hc hcu hm _ => ?_, trivial⟩
          obtain ⟨h8, -⟩ := hd
          rcases (show c = 0 ∨ c = 1 by have : c ≤ 1 := hcu; omega) with rfl | rfl <;> refine TOps.load1 h8 ti3 (Rd.lit (by repeat (first | exact List.Mem.head _ | apply List.Mem.tail)) rfl) rfl ?_
          all_goals exact TOps.fin (Nrm.draw x (fun _ _ _ => rfl) rfl (Le.refl _))
        · refine ⟨fun x S c he hw hd hc hcu hm _ => ?_, trivial⟩
          first | refine TOps.fieldB 2 (he _ _ rfl) Try.underlying54 rfl rfl ti52 rfl rfl rfl ?_ | refine TOps.fieldN 2 (he _ _ rfl) Try.underlying54 rfl rfl ti52 rfl rfl rfl ?_
          exact TOps.fin (Nrm.draw x (fun _ _ _ => rfl) rfl (by first | exact Le.refl _ | assumption | exact (by repeat (first | exact Le.refl _ | assumption | apply Le.drop))))
        · refine ⟨fun x S c he hw hd hc hcu hm _ => ?_, trivial⟩
          obtain ⟨h10, -⟩ := hd
          obtain rfl : c = 0 := by have : c ≤ 0 := hcu; omega
          refine TOps.load1 h10 ti52 (Rd.lit (by repeat (first | exact List.Mem.head _ | apply List.Mem.tail)) rfl) rfl ?_
          exact TOps.fin (Nrm.draw x (fun _ _ _ => rfl) rfl (by first | exact Le.refl _ | assumption | exact (by repeat (first | exact Le.refl _ | assumption | apply Le.drop))))
        · refine ⟨fun x S c he hw hd hc hcu hm _ => ?_, trivial⟩
          refine TOps.move (he _ _ rfl) rfl ?_
          exact TOps.fin (Nrm.draw x (fun _ _ _ => rfl) rfl (by first | exact Le.refl _ | assumption | exact (by repeat (first | exact Le.refl _ | assumption | apply Le.drop))))
        · refine ⟨fun x S c he hw hd hc hcu hm _ => ?_, trivial⟩
          obtain ⟨h11, h12, -⟩ := hd
          obtain rfl : c = 0 := hm rfl
          refine TOps.call (vs := [_, _]) Try.call31 ⟨h11, h12, trivial⟩ (mappedN_g (to := TB) (RdS.le hnb.args (Le.drop (Le.refl _))) (by omega) (RdS.le hto (Le.drop (Le.refl _))) hlnk (by omega) hin) rfl ?_
          rintro _ _ ⟨ma, mc, rfl, hma, rfl⟩
          refine TOps.fin (Nrm.draw ((ma, mc), x.2) ?_ rfl (Le.addFact hma))
          intro j hj hcj; rcases j with _|_|_|_|_|_|_|_|_|_|_|_|_|_|_|_|_|j <;> first | rfl | exact absurd rfl hj | exact absurd hcj (by decide)
        · refine ⟨fun x S c he hw hd hc hcu hm _ => ?_, trivial⟩
          obtain ⟨h5, h7, h9, h13, _, -⟩ := hd
          obtain rfl : c = 1 := hm rfl
          refine TOps.fact (List.Mem.head _) (fun hma => ?_)
          refine TOps.le ((Le.drop (Le.refl _)).trans (Le.keep (List.sublist_cons_self _ _))) ?_
          refine TOps.call (vs := [_, _, _, _]) Try.call30 ⟨h5, h7, h9, h13, trivial⟩ (add1_g (s := z) hp rfl ⟨by omega, by omega⟩ (by omega) (trA_length TB d.args) (fun h => hma (fun e => h (by rw [e]; rfl))) d.kind d.k) rfl ?_
          rintro _ _ ⟨s', rfl, hs', rfl⟩
          refine TOps.fin (Nrm.draw (x.1, s') ?_ rfl (Le.addFact hs'))
          intro j hj hcj; rcases j with _|_|_|_|_|_|_|_|_|_|_|_|_|_|_|_|_|j <;> first | rfl | exact absurd rfl hj | exact absurd hcj (by decide)
        · refine ⟨fun x S c he hw hd hc hcu hm _ => ?_, trivial⟩
          obtain ⟨h0, h4, _, h1, h2, h3, _, h5, h6, h7, h8, h9, h10, h11, h12, h13, h14, -⟩ := hd
          refine TOps.indexAddr (off' := v + k) h0 h4 Try.underlying52 ti3 (by omega) (by omega) (by omega) rfl ?_
          exact TOps.fin (Nrm.draw x (fun _ _ _ => rfl) rfl (by first | exact Le.refl _ | assumption | exact (by repeat (first | exact Le.refl _ | assumption | apply Le.drop))))
        · refine ⟨fun x S c he hw hd hc hcu hm _ => ?_, trivial⟩
          obtain ⟨h15, h14, _, h0, h1, h2, h3, h4, h5, h6, h7, h8, h9, h10, h11, h12, h13, _, -⟩ := hd
          obtain rfl : c = 2 := hm rfl
          subst hHT
          refine TOps.store1 h15 h14 ti3 rfl rfl (Upd.there (Upd.bld Upd.here)) (by simp; omega) ?_
          exact TOps.fin (Nrm.draw x (fun _ _ _ => rfl) rfl (by first | exact Le.refl _ | assumption | exact (by repeat (first | exact Le.refl _ | assumption | apply Le.drop))))
        ) (fun w => ?_)
      refine Nrm.fact (List.Mem.head _) (fun hw => ?_)
      first
       | refine Nrm.body w.2 (by rw [hst, hc3]; exact hw) ⟨rfl, rfl, rfl, rfl, rfl, rfl, rfl, rfl, rfl, trivial⟩ (by rw [hst, hc3]; simp only [cond_true, nats_set, Int.natCast_add]; subst hHB; exact Le.drop (Le.refl _))
       | refine Nrm.body z (by rw [hst, hc3]; show z.ok (F.trS k).2; rw [← hNS]; exact hp) ⟨rfl, rfl, rfl, rfl, rfl, rfl, rfl, rfl, rfl, trivial⟩ (by rw [hst, hc3]; simp only [cond_false]; subst hHT hHB hNS hTB; exact Le.drop (Le.refl _))
    try simp only [decide_eq_true_eq, decide_eq_false_iff_not, Bool.and_eq_true, Bool.or_eq_true, Bool.not_eq_true', Bool.and_eq_false_iff, Bool.or_eq_false_iff, Bool.not_eq_false', Int.not_lt, Int.not_le, ne_eq, Decidable.not_not, Option.isSome_iff_ne_none, Option.isNone_iff_eq_none] at hc3
    refine Tri.fin ?_
    first
     | refine Nrm.body w.2 (by rw [hst, hc3]; exact hw) ⟨rfl, rfl, rfl, rfl, rfl, rfl, rfl, rfl, rfl, trivial⟩ (by rw [hst, hc3]; simp only [cond_true, nats_set, Int.natCast_add]; subst hHB; exact Le.drop (Le.refl _))
     | refine Nrm.body z (by rw [hst, hc3]; show z.ok (F.trS k).2; rw [← hNS]; exact hp) ⟨rfl, rfl, rfl, rfl, rfl, rfl, rfl, rfl, rfl, trivial⟩ (by rw [hst, hc3]; simp only [cond_false]; subst hHT hHB hNS hTB; exact Le.drop (Le.refl _))
  have hlnn := hln ns.length
  have hlen := hle ns.length
  have htr : F.trim = ⟨(v : Int), (F.trS ns.length).2, (((F.trS ns.length).1.getD tp 0 : Nat) : Int)⟩ := by subst hF; rfl
  refine Nrm.of hS hM ?_
  refine Nrm.next ?_
  refine Tri.seq (Tri.region ?_)
  refine TOps.move rfl rfl ?_
  refine TOps.move rfl rfl ?_
  refine TOps.move rfl rfl ?_
  refine TOps.indexAddr (off' := tp) rfl rfl Try.underlying52 ti3 (by omega) (by omega) (by simp) rfl ?_
  refine TOps.load1 (v := .int .i64 ((F.trS ns.length).1.getD tp 0 : Nat)) rfl ti3 (Rd.le (Rd.lit (List.Mem.head _) (nats_get (by omega))) bld_le) rfl ?_
  refine TOps.call (vs := [_, _]) Try.call42 ⟨rfl, rfl, trivial⟩ (done_g (s := z) hp (by omega) _) rfl ?_
  rintro _ _ ⟨a1, c1, N, rfl, hN2, rfl⟩
  refine TOps.extract rfl rfl rfl ?_
  refine TOps.extract rfl rfl rfl ?_
  refine TOps.storeN rfl rfl ti24 rfl rfl (Upd.app (Upd.there (Upd.there Upd.here)) N) (by simp) ?_
  refine TOps.assign rfl rfl ?_
  refine TOps.next ?_
  refine Tri.ret2 (H' := N ++ HB) Try.results33 (fun _ _ h => h) (.cellN rfl rfl ti24 (Rd.all (List.mem_append_right _ (List.Mem.tail _ (List.Mem.tail _ (List.Mem.head _))))) rfl) (.tmp rfl) (sub_app (List.Sublist.cons _ (List.Sublist.cons _ (List.Sublist.cons _ sB)))) ⟨a1, c1, N, ?_, ?_, rfl⟩
  · rw [htr]; rfl
  · rw [htr]; exact hN2
end Go.Proofs
