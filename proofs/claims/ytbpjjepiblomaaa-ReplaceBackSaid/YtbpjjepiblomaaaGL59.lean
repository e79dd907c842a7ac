import Derived.Test.YtbpjjepiblomaaaGL58
namespace Go.GL
open Go.ChangeShapes Go.WideShapes Go.RowKit Go.Deep Go.Joins
set_option linter.unusedVariables false
set_option linter.unusedSimpArgs false
section
variable {H : Type} {enc : TypeId × Value → H} {P : Program} {w : World}
theorem open_fmAt {tF tNs tN tIs tI n : Nat} {f0 f1 f2 g0 g1 g2 : Field} {b off : Nat} {sp : Option Nat} {cs : List Value} {y : DataW H × List MemPlace} (hF : P.underlying tF = some (.struct #[f0, f1, f2])) (honeF : oneCellFields P #[f0, f1, f2] = true)
    (d0 : f0.type = tI) (d1 : f1.type = tNs) (d2 : f2.type = tI)
    (hNs : P.underlying tNs = some (.slice tN)) (hN : P.underlying tN = some (.struct #[g0, g1, g2])) (hone : oneCellFields P #[g0, g1, g2] = true) (hC3 : P.cellsOf tN = 3)
    (e0 : g0.type = tI) (e1 : g1.type = tI) (e2 : g2.type = tIs) (hIs : P.underlying tIs = some (.slice tI)) (hI : P.underlying tI = some (.int .i64)) (hC : P.cellsOf tI = 1)
    (hc : w.cells? 0 ⟨b, off, sp⟩ 3 = some cs) (h : DataW.trod enc P w 0 (fun _ => true) true n tF cs = some y) :
    sp = none ∧ ∃ F : Fm, F.ok ∧ ∃ na no nc ns, Rd [base w] b off [.int .i64 F.vars, slV na no F.nodes.length nc ns, .int .i64 F.top] ∧ RNodes [base w] na no F.nodes ns := by
  obtain ⟨_, hcl, hat⟩ := World.cells?_some hc
  obtain ⟨c0, c1, c2, rfl⟩ : ∃ c0 c1 c2, cs = [c0, c1, c2] := by
    match cs, hcl with
    | [c0, c1, c2], _ => exact ⟨c0, c1, c2, rfl⟩
  have hs : sp = none := by
    have := hat 0 (by omega)
    simpa [Addr.add] using World.cell?_spot this
  subst hs
  obtain ⟨y0, y1, y2, n', _, _, h0, h1, h2⟩ := trod_struct3 hF h
  obtain ⟨o0, k0⟩ := hone_of honeF 0 f0 rfl
  obtain ⟨o1, k1⟩ := hone_of honeF 1 f1 rfl
  obtain ⟨o2, k2⟩ := hone_of honeF 2 f2 rfl
  rw [d0] at k0; rw [d1] at k1; rw [d2] at k2
  simp only [o0, k0, d0, List.drop_zero, List.take_succ_cons, List.take_zero] at h0
  simp only [o1, k1, d1, List.drop_succ_cons, List.drop_zero, List.take_succ_cons, List.take_zero] at h1
  simp only [o2, k2, d2, List.drop_succ_cons, List.drop_zero, List.take_succ_cons, List.take_zero] at h2
  obtain ⟨F, hk, na, no, nc, ns, hv, hR⟩ := open_formulaC hNs hN hone hC3 e0 e1 e2 hIs hI hC h0 h1 h2
  simp only [Value.agg.injEq] at hv
  have hv' := congrArg Array.toList hv
  simp only [List.cons.injEq, and_true] at hv'
  obtain ⟨rfl, rfl, rfl⟩ := hv'
  refine ⟨rfl, F, hk, na, no, nc, ns, Rd.base (fun j v hj => ?_), hR⟩
  have hj3 : j < 3 := by
    have := (List.getElem?_eq_some_iff.1 hj).1
    simpa using this
  have := hat j hj3
  rw [addr_add] at this
  rw [this]
  exact hj
theorem open_formulas {r : _root_.Go.Reach} {b0 : Nat} {tL tF tNs tN tIs tI : TypeId} {f0 f1 f2 g0 g1 g2 : Field} {v : Value} {d : DataW H} {p : List MemPlace} (hL : P.underlying tL = some (.slice tF))
    (hF : P.underlying tF = some (.struct #[f0, f1, f2])) (honeF : oneCellFields P #[f0, f1, f2] = true) (hCF : P.cellsOf tF = 3) (d0 : f0.type = tI) (d1 : f1.type = tNs) (d2 : f2.type = tI)
    (hNs : P.underlying tNs = some (.slice tN)) (hN : P.underlying tN = some (.struct #[g0, g1, g2])) (hone : oneCellFields P #[g0, g1, g2] = true) (hC3 : P.cellsOf tN = 3)
    (e0 : g0.type = tI) (e1 : g1.type = tI) (e2 : g2.type = tIs) (hIs : P.underlying tIs = some (.slice tI)) (hI : P.underlying tI = some (.int .i64)) (hC : P.cellsOf tI = 1)
    (hv : Value.okWide P w r b0 tL v) (h : DataW.Trod enc P w 0 (fun _ => true) true tL v d p) :
    ∃ (Fs : List Fm) (a : Option Nat) (off cap : Nat) (sp : Option Nat), v = slV a off Fs.length cap sp ∧ RFs [base w] a off Fs sp ∧ Fs.length ≤ 9223372036854775807 ∧ ∀ (i : Nat) (hi : i < Fs.length), Fs[i].ok := by
  obtain ⟨a, len, cap, rfl⟩ := okWide_slice hL hv
  obtain ⟨fuel, hf⟩ := h
  simp only [Value.cells] at hf
  rcases open_slice hL hf with ⟨hc, _⟩ | ⟨a', len', cap', m, n', D, Pl, hc, _, hl, hm, hmm, _, hi⟩
  · simp at hc
    obtain ⟨rfl, rfl, rfl⟩ := hc
    exact ⟨[], none, 0, 0, none, rfl, .inl rfl, by simp, fun i hi => by simp at hi⟩
  · simp at hc
    obtain ⟨rfl, rfl, rfl⟩ := hc
    simp only [if_true] at hmm
    obtain ⟨b, off, sp⟩ := a'
    have hm' : cap ≤ 9223372036854775807 := by simpa [maxLen] using hm
    have hsp : len ≠ 0 → sp = none := by
      intro h0
      obtain ⟨cs', hcs, ht⟩ := hi 0 (by omega)
      rw [Nat.zero_mul, hCF] at hcs
      exact (open_fmAt hF honeF d0 d1 d2 hNs hN hone hC3 e0 e1 e2 hIs hI hC hcs ht).1
    have each : ∀ i, i < len → ∃ F : Fm, F.ok ∧ ∃ na no nc ns, Rd [base w] b (off + i * 3) [.int .i64 F.vars, slV na no F.nodes.length nc ns, .int .i64 F.top] ∧ RNodes [base w] na no F.nodes ns := by
      intro i hil
      have hs := hsp (by omega)
      subst hs
      obtain ⟨cs', hcs, ht⟩ := hi i (by omega)
      rw [hCF, addr_add] at hcs
      exact (open_fmAt hF honeF d0 d1 d2 hNs hN hone hC3 e0 e1 e2 hIs hI hC hcs ht).2
    obtain ⟨f, hf⟩ := choose_lt (p := fun i (F : Fm) => F.ok ∧ ∃ na no nc ns, Rd [base w] b (off + i * 3) [.int .i64 F.vars, slV na no F.nodes.length nc ns, .int .i64 F.top] ∧ RNodes [base w] na no F.nodes ns) each
    have hlen : ((List.range len).map f).length = len := by simp
    have hfi : ∀ (i : Nat) (hi : i < ((List.range len).map f).length), ((List.range len).map f)[i] = f i := fun i hi => by simp
    refine ⟨(List.range len).map f, some b, off, cap, sp, by rw [hlen]; rfl, ?_, by rw [hlen]; omega, fun i hi => ?_⟩
    · rcases Nat.eq_zero_or_pos len with h0 | hp
      · subst h0
        exact .inl rfl
      · refine .inr ⟨b, rfl, hsp (by omega), fun i hi => ?_⟩
        rw [hfi]
        exact (hf i (by omega)).2
    · rw [hfi]
      exact (hf i (by omega)).1
end
end Go.GL
