import Derived.Test.YtpeobpgfbjghjaaGL48
import Derived.Deep.SlicePairs
namespace Go.GL
open Go.ChangeShapes Go.WideShapes Go.RowKit Go.Deep Go.Joins
set_option linter.unusedVariables false
set_option linter.unusedSimpArgs false
section
variable {H : Type} {enc : TypeId × Value → H} {P : Program} {w : World}
theorem open_acts {r : _root_.Go.Reach} {b0 : Nat} {tA tE : TypeId} {f0 f1 : Field} {v : Value} {d : DataW H} {p : List MemPlace} (hA : P.underlying tA = some (.slice tE)) (hE : P.underlying tE = some (.struct #[f0, f1]))
    (ce : P.cellsOf tE = 2) (o0 : f0.offset = 0) (o1 : f1.offset = 1) (c0 : P.cellsOf f0.type = 1) (c1 : P.cellsOf f1.type = 1) (hU : P.underlying f0.type = some (.int .u8)) (hI : P.underlying f1.type = some (.int .i64))
    (hv : Value.okWide P w r b0 tA v) (h : DataW.Trod enc P w 0 (fun _ => true) true tA v d p) :
    ∃ (l : List (Int × Int)) (aa : Option Nat) (ao cap : Nat) (sp : Option Nat), v = slV aa ao l.length cap sp ∧ RdS [GL.base w] aa ao (actCells l) sp ∧ l.length ≤ 9223372036854775807 ∧ ∀ a ∈ l, 0 ≤ a.1 ∧ a.1 ≤ 255 := by
  obtain ⟨a, len, cap, rfl⟩ := okWide_slice hA hv
  obtain ⟨fuel, hf⟩ := h
  simp only [Value.cells] at hf
  rcases open_slice_pairs hA hE ce o0 o1 c0 c1 hf with ⟨hc, _⟩ | ⟨a', len', cap', m, n, V0, V1, D0, D1, P0, P1, hc, _, hl, hm, hmm, _, hx⟩
  · simp at hc
    obtain ⟨rfl, rfl, rfl⟩ := hc
    exact ⟨[], none, 0, 0, none, rfl, .inl rfl, by simp, by simp⟩
  · simp at hc
    obtain ⟨rfl, rfl, rfl⟩ := hc
    simp only [if_true] at hmm
    obtain ⟨b, off, sp⟩ := a'
    have hm' : cap ≤ 9223372036854775807 := by simpa [maxLen] using hm
    have each : ∀ i, i < len → ∃ q : Int × Int, w.cell? ((⟨b, off, sp⟩ : Addr).add (i * 2)) = some (.int .u8 q.1) ∧ w.cell? ((⟨b, off, sp⟩ : Addr).add (i * 2 + 1)) = some (.int .i64 q.2) ∧ (0 ≤ q.1 ∧ q.1 ≤ 255) := by
      intro i hi
      obtain ⟨h1, h2, h3, h4⟩ := hx i (by omega)
      obtain ⟨x, q0, _, w0⟩ := DataW.trod_int hU h3
      obtain ⟨z, q1, _, w1⟩ := DataW.trod_int hI h4
      simp only [List.cons.injEq, and_true] at q0 q1
      rw [q0] at h1; rw [q1] at h2
      exact ⟨(x, z), h1, h2, bounds_u8 w0⟩
    obtain ⟨f, hf'⟩ := choose_lt each
    have hlen : ((List.range len).map f).length = len := by simp
    refine ⟨(List.range len).map f, some b, off, cap, sp, by rw [hlen]; rfl, ?_, by rw [hlen]; omega, ?_⟩
    · rcases Nat.eq_zero_or_pos len with h0 | hp
      · subst h0
        exact .inl rfl
      · have h0 := (hf' 0 hp).1
        have hs : sp = none := by simpa [Addr.add] using World.cell?_spot h0
        subst hs
        refine .inr ⟨b, rfl, rfl, Rd.base (fun j u hj => ?_)⟩
        have hjl : j < len * 2 := by
          have := (List.getElem?_eq_some_iff.1 hj).1
          rwa [actCells_length, hlen] at this
        have hi : j / 2 < ((List.range len).map f).length := by rw [hlen]; omega
        have hg := actCells_get hi
        have hfi : ((List.range len).map f)[j / 2] = f (j / 2) := by simp
        rw [hfi] at hg
        obtain ⟨g1, g2, _⟩ := hf' (j / 2) (by omega)
        rw [addr_add] at g1 g2
        rcases (show j % 2 = 0 ∨ j % 2 = 1 by omega) with e | e
        · have g := hg 0 _ rfl
          rw [show j / 2 * 2 + 0 = j by omega, hj] at g
          cases g
          rw [show off + j / 2 * 2 = off + j by omega] at g1
          exact g1
        · have g := hg 1 _ rfl
          rw [show j / 2 * 2 + 1 = j by omega, hj] at g
          cases g
          rw [show off + (j / 2 * 2 + 1) = off + j by omega] at g2
          exact g2
    · intro q hq
      obtain ⟨i, hi, rfl⟩ := List.mem_map.1 hq
      exact (hf' i (List.mem_range.1 hi)).2.2
end
end Go.GL
