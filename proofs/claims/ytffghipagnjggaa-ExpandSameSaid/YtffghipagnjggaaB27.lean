import Derived.Test.YtffghipagnjggaaA27
namespace Go.Proofs
open Go.GL
set_option linter.unusedVariables false
set_option linter.unusedSimpArgs false
theorem rnode27_g {A HB : List Ent} {bb : Nat} {v : Int} {ms : MS} {s : BS} (hs : s.ok ms.ns) (hv : 0 ≤ v ∧ v ≤ 24) (ho : ms.Ok) {aa asp : Option Nat} {ao ac m : Nat} {args : List Int} (hml : args.length = m) (hm2 : m ≤ 1000) (ha : RInts A aa ao args asp) (kind kk : Int) :
    Gives Try.prog 50 [.pointer (some ⟨bb, 0, none⟩), .int .i64 kind, .int .i64 kk, slV aa ao m ac asp] (A ++ mkE 69 43 bb v ms s HB) (MkR 69 43 bb v (addM v ⟨kind, kk, args⟩ ms) HB) := by
  obtain ⟨ns, full⟩ := ms
  dsimp only at hs
  unfold MS.Ok at ho
  dsimp only at ho
  have hcl : (nsCells ns s.qs).length = ns.length * 3 := nsCells_length _ _ hs.a.1
  obtain ⟨n, hnn⟩ : ∃ n, ns.length = n := ⟨_, rfl⟩
  rw [hnn] at hcl ho
  refine Gives.enter Try.func50 rfl (by exact Try.ntmps50) rfl ?_
  refine Tri.le mkE_perm ?_
  dsimp only
  obtain ⟨oa, ho2⟩ : ∃ oa, s.oa = oa := ⟨_, rfl⟩
  obtain ⟨ocap, hc⟩ : ∃ ocap, s.cap = ocap := ⟨_, rfl⟩
  obtain ⟨CS, hCS⟩ : ∃ CS, nsCells ns s.qs = CS := ⟨_, rfl⟩
  obtain ⟨HX, hHX⟩ : ∃ HX, (A ++ s.N) ++ HB = HX := ⟨_, rfl⟩
  rw [ho2, hc, hCS, hHX, hnn]
  rw [hCS] at hcl
  refine Tri.seq (Tri.region ?_)
  refine TOps.assign rfl rfl ?_
  refine TOps.next ?_
  refine Tri.seq ?_
  refine Tri.seq (Tri.region ?_)
  refine TOps.move rfl rfl ?_
  refine TOps.nilCheck rfl rfl ?_
  first | refine TOps.fieldB 1 rfl Try.underlying69 rfl rfl ti22 rfl rfl rfl ?_ | refine TOps.fieldN 1 rfl Try.underlying69 rfl rfl ti22 rfl rfl rfl ?_
  refine TOps.load1 rfl ti22 (by first | exact Rd.lit (by repeat (first | exact List.Mem.head _ | apply List.Mem.tail)) rfl | (repeat (first | assumption | exact Rd.fld (by assumption) 1 rfl | apply Rd.up))) rfl ?_
  refine TOps.len rfl Try.underlying22 rfl ?_
  refine TOps.geq rfl rfl rfl ?_
  refine TOps.next ?_
  refine Tri.cond rfl (fun hc1 => ?_) (fun hc1 => ?_)
  · try simp only [decide_eq_true_eq, decide_eq_false_iff_not, Bool.and_eq_true, Bool.or_eq_true, Bool.not_eq_true', Bool.and_eq_false_iff, Bool.or_eq_false_iff, Bool.not_eq_false', Int.not_lt, Int.not_le, ne_eq, Decidable.not_not, Option.isSome_iff_ne_none, Option.isNone_iff_eq_none] at hc1
    have hfu : addM v ⟨kind, kk, args⟩ ⟨ns, full⟩ = (0, ⟨ns, true⟩) := addM_full (by dsimp only; omega)
    refine Tri.seq (Tri.region ?_)
    refine TOps.move rfl rfl ?_
    refine TOps.nilCheck rfl rfl ?_
    first | refine TOps.fieldB 2 rfl Try.underlying69 rfl rfl ti4 rfl rfl rfl ?_ | refine TOps.fieldN 2 rfl Try.underlying69 rfl rfl ti4 rfl rfl rfl ?_
    refine TOps.store1 rfl rfl ti4 rfl rfl (by repeat (first | exact Upd.here | apply Upd.there)) (by first | decide | (simp; done) | (simp; omega) | exact (show (2 : Nat) < 3 by decide)) ?_
    refine TOps.next ?_
    refine Tri.seq (Tri.region ?_)
    refine TOps.assign rfl rfl ?_
    refine TOps.next ?_
    subst hHX
    refine Tri.ret1 (H' := mkE 69 43 bb v ⟨ns, true⟩ s HB) Try.results50 (fun _ _ h => h) (.tmp rfl) (by rw [← ho2, ← hc, ← hCS, ← hnn]; exact mk_same2) ⟨s, by rw [hfu], by rw [hfu]; exact hs, by rw [hfu]⟩
  try simp only [decide_eq_true_eq, decide_eq_false_iff_not, Bool.and_eq_true, Bool.or_eq_true, Bool.not_eq_true', Bool.and_eq_false_iff, Bool.or_eq_false_iff, Bool.not_eq_false', Int.not_lt, Int.not_le, ne_eq, Decidable.not_not, Option.isSome_iff_ne_none, Option.isNone_iff_eq_none] at hc1
  have hro : addM v ⟨kind, kk, args⟩ ⟨ns, full⟩ = (v + ns.length, ⟨ns ++ [⟨kind, kk, args⟩], full⟩) := addM_room (by dsimp only; omega)
  refine Tri.fin ?_
  refine Nrm.next ?_
  refine Tri.seq (Tri.region ?_)
  refine TOps.move rfl rfl ?_
  refine TOps.move rfl rfl ?_
  refine TOps.nilCheck rfl rfl ?_
  first | refine TOps.fieldB 1 rfl Try.underlying69 rfl rfl ti22 rfl rfl rfl ?_ | refine TOps.fieldN 1 rfl Try.underlying69 rfl rfl ti22 rfl rfl rfl ?_
  refine TOps.load1 rfl ti22 (by first | exact Rd.lit (by repeat (first | exact List.Mem.head _ | apply List.Mem.tail)) rfl | (repeat (first | assumption | exact Rd.fld (by assumption) 1 rfl | apply Rd.up))) rfl ?_
  refine TOps.move rfl rfl ?_
  refine TOps.move rfl rfl ?_
  refine TOps.move rfl rfl ?_
  refine TOps.buildStruct (vs := [(0, _), (1, _), (2, _)]) (xs := [_, _, _]) [(0, 1), (1, 1), (2, 1)] Try.underlying43 ti43 (fun w => by simp) ⟨rfl, rfl, rfl, rfl, rfl, rfl, trivial⟩ rfl rfl ?_
  refine TOps.buildSlice (vs := [_]) (xs := [_, _, _]) Try.underlying22 ti43 ⟨rfl, rfl, trivial⟩ rfl rfl rfl rfl rfl rfl (by decide) rfl (fun b27 => ?_)
  refine TOps.appendLit rfl rfl Try.underlying22 ti43 rfl (fun _ _ => (by repeat (first | exact Upd.here | apply Upd.there))) rfl hcl rfl (by omega) (by omega) (by simp) rfl (fun wb wc => ?_)
  refine TOps.nilCheck rfl rfl ?_
  first | refine TOps.fieldB 1 rfl Try.underlying69 rfl rfl ti22 rfl rfl rfl ?_ | refine TOps.fieldN 1 rfl Try.underlying69 rfl rfl ti22 rfl rfl rfl ?_
  refine TOps.store1 rfl rfl ti22 rfl rfl (by repeat (first | exact Upd.here | apply Upd.there)) (by first | decide | (simp; done) | (simp; omega) | exact (show (1 : Nat) < 3 by decide)) ?_
  refine TOps.next ?_
  refine Tri.seq ?_
  subst hHX
  refine Tri.drawC rfl [(0, .pointer (some ⟨bb, 0, none⟩))] [] [_, _, _, _, _, _, _, _, _, _, _, _] (row (some bb) 69 3 1 [.int .i64 v, slV (some wb) 0 (n + 1) wc, .bool full] :: row (some wb) 43 3 wc (CS ++ [.int .i64 kind, .int .i64 kk, slV aa ao m ac asp]) :: ((A ++ s.N) ++ HB)) [11] rfl ⟨rfl, trivial⟩ trivial (by repeat (first | exact Le.refl _ | assumption | apply Le.drop)) (by
    refine ⟨?_, ?_, ?_, ?_, ?_, ?_, ?_, ?_, ?_, ?_, ?_, ?_, trivial⟩
    · refine ⟨fun x S c he hw hd hc hcu hm _ => ?_, trivial⟩
      refine TOps.move (he _ _ rfl) rfl ?_
      exact TOps.fin (Nrm.draw x (fun _ _ _ => rfl) rfl (by first | exact Le.refl _ | assumption | exact (by repeat (first | exact Le.refl _ | assumption | apply Le.drop))))
    · refine ⟨fun x S c he hw hd hc hcu hm _ => ?_, trivial⟩
      obtain ⟨h0, -⟩ := hd
      refine TOps.nilCheck h0 rfl ?_
      exact TOps.fin (Nrm.draw x (fun _ _ _ => rfl) rfl (by first | exact Le.refl _ | assumption | exact (by repeat (first | exact Le.refl _ | assumption | apply Le.drop))))
    · refine ⟨fun x S c he hw hd hc hcu hm _ => ?_, trivial⟩
      obtain ⟨h1, -⟩ := hd
      refine TOps.field0 h1 Try.underlying69 rfl rfl ti3 rfl rfl rfl ?_
      exact TOps.fin (Nrm.draw x (fun _ _ _ => rfl) rfl (by first | exact Le.refl _ | assumption | exact (by repeat (first | exact Le.refl _ | assumption | apply Le.drop))))
    · refine ⟨fun x S c he hw hd hc hcu hm _ => ?_, trivial⟩
      obtain ⟨h2, -⟩ := hd
      refine TOps.load1 h2 ti3 (by first | exact Rd.lit (by repeat (first | exact List.Mem.head _ | apply List.Mem.tail)) rfl | (repeat (first | assumption | exact Rd.fld (by assumption) 0 rfl | apply Rd.up))) rfl ?_
      exact TOps.fin (Nrm.draw x (fun _ _ _ => rfl) rfl (by first | exact Le.refl _ | assumption | exact (by repeat (first | exact Le.refl _ | assumption | apply Le.drop))))
    · refine ⟨fun x S c he hw hd hc hcu hm _ => ?_, trivial⟩
      refine TOps.move (he _ _ rfl) rfl ?_
      exact TOps.fin (Nrm.draw x (fun _ _ _ => rfl) rfl (by first | exact Le.refl _ | assumption | exact (by repeat (first | exact Le.refl _ | assumption | apply Le.drop))))
    · refine ⟨fun x S c he hw hd hc hcu hm _ => ?_, trivial⟩
      obtain ⟨h4, -⟩ := hd
      refine TOps.nilCheck h4 rfl ?_
      exact TOps.fin (Nrm.draw x (fun _ _ _ => rfl) rfl (by first | exact Le.refl _ | assumption | exact (by repeat (first | exact Le.refl _ | assumption | apply Le.drop))))
    · refine ⟨fun x S c he hw hd hc hcu hm _ => ?_, trivial⟩
      obtain ⟨h5, -⟩ := hd
      first | refine TOps.fieldB 1 h5 Try.underlying69 rfl rfl ti22 rfl rfl rfl ?_ | refine TOps.fieldN 1 h5 Try.underlying69 rfl rfl ti22 rfl rfl rfl ?_
      exact TOps.fin (Nrm.draw x (fun _ _ _ => rfl) rfl (by first | exact Le.refl _ | assumption | exact (by repeat (first | exact Le.refl _ | assumption | apply Le.drop))))
    · refine ⟨fun x S c he hw hd hc hcu hm _ => ?_, trivial⟩
      obtain ⟨h6, -⟩ := hd
      refine TOps.load1 h6 ti22 (by first | exact Rd.lit (by repeat (first | exact List.Mem.head _ | apply List.Mem.tail)) rfl | (repeat (first | assumption | exact Rd.fld (by assumption) 1 rfl | apply Rd.up))) rfl ?_
      exact TOps.fin (Nrm.draw x (fun _ _ _ => rfl) rfl (by first | exact Le.refl _ | assumption | exact (by repeat (first | exact Le.refl _ | assumption | apply Le.drop))))
    · refine ⟨fun x S c he hw hd hc hcu hm _ => ?_, trivial⟩
      obtain ⟨h7, -⟩ := hd
      refine TOps.len h7 Try.underlying22 rfl ?_
      exact TOps.fin (Nrm.draw x (fun _ _ _ => rfl) rfl (by first | exact Le.refl _ | assumption | exact (by repeat (first | exact Le.refl _ | assumption | apply Le.drop))))
    · refine ⟨fun x S c he hw hd hc hcu hm _ => ?_, trivial⟩
      obtain ⟨h3, h8, -⟩ := hd
      refine TOps.add h3 h8 (wrapI (by omega) (by omega)) rfl ?_
      exact TOps.fin (Nrm.draw x (fun _ _ _ => rfl) rfl (by first | exact Le.refl _ | assumption | exact (by repeat (first | exact Le.refl _ | assumption | apply Le.drop))))
    · refine ⟨fun x S c he hw hd hc hcu hm _ => ?_, trivial⟩
      obtain ⟨h9, -⟩ := hd
      refine TOps.sub h9 rfl (wrapI (by omega) (by omega)) rfl ?_
      exact TOps.fin (Nrm.draw x (fun _ _ _ => rfl) rfl (by first | exact Le.refl _ | assumption | exact (by repeat (first | exact Le.refl _ | assumption | apply Le.drop))))
    · refine ⟨fun x S c he hw hd hc hcu hm _ => ?_, trivial⟩
      obtain ⟨h10, h0, h1, h2, h3, h4, h5, h6, h7, h8, h9, _, -⟩ := hd
      refine TOps.assign h10 rfl ?_
      exact TOps.fin (Nrm.draw x (fun _ _ _ => rfl) rfl (by first | exact Le.refl _ | assumption | exact (by repeat (first | exact Le.refl _ | assumption | apply Le.drop))))
    ) ?_
  refine Nrm.next ?_
  refine Tri.ret1 (H' := mkE 69 43 bb v ⟨ns ++ [⟨kind, kk, args⟩], full⟩ ⟨some wb, wc, s.qs ++ [(aa, ao, ac, asp)], A ++ s.N⟩ HB) Try.results50 (fun _ _ h => h) (.tmp rfl) ?_ ⟨⟨some wb, wc, s.qs ++ [(aa, ao, ac, asp)], A ++ s.N⟩, ?_, ?_, ?_⟩
  · unfold mkE
    dsimp only
    rw [nsCells_snoc _ _ _ _ hs.a.1, hCS, show ndCells ⟨kind, kk, args⟩ (aa, ao, ac, asp) = [.int .i64 kind, .int .i64 kk, slV aa ao m ac asp] from by simp [ndCells, hml]]
    rw [show (ns ++ [(⟨kind, kk, args⟩ : Nd)]).length = n + 1 from by simp [hnn]]
    exact Le.refl _
  · rw [hro]; refine congrArg (Value.int .i64) ?_; dsimp only; omega
  · rw [hro]; exact BS.ok_snoc hs ha
  · rw [hro]
theorem rshort_g {HB : List Ent} {bb : Nat} {v : Int} {ms : MS} {s : BS} (hs : s.ok ms.ns) (hv : 0 ≤ v ∧ v ≤ 24) (ho : ms.Ok) {aa asp : Option Nat} {ao ac m : Nat} {args : List Int} (hm : args.length = m) (hm2 : m ≤ 1000) (ha : RInts HB aa ao args asp) (kind : Int) :
    Gives Try.prog 53 [.pointer (some ⟨bb, 0, none⟩), .int .i64 kind, slV aa ao m ac asp] (mkE 69 43 bb v ms s HB) (MkR 69 43 bb v (gateM v kind args ms) HB) := by
  subst hm
  have hac : RInts (mkE 69 43 bb v ms s HB) aa ao args asp := RdS.le ha mkE_le
  refine Gives.enter Try.func53 rfl (by exact Try.ntmps53) rfl ?_
  refine Tri.seq (Tri.region ?_)
  refine TOps.assign rfl rfl ?_
  refine TOps.next ?_
  refine Tri.seq ?_
  refine Tri.seq (Tri.region ?_)
  refine TOps.move rfl rfl ?_
  refine TOps.len rfl Try.underlying41 rfl ?_
  refine TOps.eqlI rfl rfl rfl ?_
  refine TOps.next ?_
  refine Tri.cond rfl (fun hc1 => ?_) (fun hc1 => ?_)
  · try simp only [decide_eq_true_eq, decide_eq_false_iff_not, Bool.and_eq_true, Bool.or_eq_true, Bool.not_eq_true', Bool.and_eq_false_iff, Bool.or_eq_false_iff, Bool.not_eq_false', Int.not_lt, Int.not_le, ne_eq, Decidable.not_not, Option.isSome_iff_ne_none, Option.isNone_iff_eq_none] at hc1
    have hl : args.length = 1 := by omega
    have hg : gateM v kind args ms = (args.headD 0, ms) := if_pos hl
    obtain ⟨ab, rfl, rfl, h0⟩ := hac.at (i := 0) (by omega)
    have hh : args.headD 0 = args[0] := by cases args with | nil => simp at hl | cons a r => rfl
    refine Tri.seq (Tri.region ?_)
    refine TOps.move rfl rfl ?_
    refine TOps.indexAddr (off' := ao + 0) rfl rfl Try.underlying41 ti3 (by omega) (by omega) (by simp) rfl ?_
    refine TOps.load1 rfl ti3 (by first | exact Rd.lit (by repeat (first | exact List.Mem.head _ | apply List.Mem.tail)) rfl | (repeat (first | assumption | exact Rd.fld (by assumption) 1 rfl | apply Rd.up))) rfl ?_
    refine TOps.assign rfl rfl ?_
    refine TOps.next ?_
    refine Tri.ret1 (H' := mkE 69 43 bb v ms s HB) Try.results53 (fun _ _ h => h) (.tmp rfl) (Le.refl _) ⟨s, by rw [hg, hh], by rw [hg]; exact hs, by rw [hg]⟩
  try simp only [decide_eq_true_eq, decide_eq_false_iff_not, Bool.and_eq_true, Bool.or_eq_true, Bool.not_eq_true', Bool.and_eq_false_iff, Bool.or_eq_false_iff, Bool.not_eq_false', Int.not_lt, Int.not_le, ne_eq, Decidable.not_not, Option.isSome_iff_ne_none, Option.isNone_iff_eq_none] at hc1
  have hg : gateM v kind args ms = addM v ⟨kind, 0, args⟩ ms := if_neg (by omega)
  refine Tri.fin ?_
  refine Nrm.next ?_
  refine Tri.seq (Tri.region ?_)
  refine TOps.move rfl rfl ?_
  refine TOps.move rfl rfl ?_
  refine TOps.buildSlice0 Try.underlying41 ti3 rfl (fun b15 => ?_)
  refine TOps.move rfl rfl ?_
  refine TOps.append (ys := ints args) rfl rfl Try.underlying41 ti3 rfl (fun _ _ => Upd.here) (RdS.up hac) (by simp) rfl (oneInts args) (by omega) (by omega) rfl (fun a' cap' h0 => ?_)
  refine TOps.call (vs := [_, _, _, _]) Try.call50 ⟨rfl, rfl, rfl, rfl, trivial⟩ (rnode27_g (A := [row a' 3 1 cap' (ints args)]) hs hv ho (by omega) (by omega) (RdS.ofRowA (List.Mem.head _) h0) kind 0) rfl ?_
  rintro _ _ ⟨s', rfl, hs', rfl⟩
  refine TOps.assign rfl rfl ?_
  refine TOps.next ?_
  refine Tri.ret1 (H' := _) Try.results53 (fun _ _ h => h) (.tmp rfl) (Le.refl _) ⟨s', by rw [hg], by rw [hg]; exact hs', by rw [hg]⟩
end Go.Proofs
