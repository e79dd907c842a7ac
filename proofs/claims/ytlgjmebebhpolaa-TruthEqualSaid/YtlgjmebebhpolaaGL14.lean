import Derived.Test.YtlgjmebebhpolaaGL13
import Derived.ProofKit
import Derived.Deep.Slices
import Derived.Deep.Fields
import Derived.Deep.Strs
import Derived.Lib.SmallJoins
import Derived.ChangeOld
import Derived.OpenShut
namespace Go.GL
open Go.ChangeShapes Go.WideShapes Go.RowKit Go.Deep Go.Joins
set_option linter.unusedVariables false
instance : Inhabited Nd := ⟨⟨0, 0, []⟩⟩
instance : Inhabited Fm := ⟨⟨0, [], 0⟩⟩
theorem base_mem (w : World) : Mem [base w] w := by
  unfold base
  exact ⟨Same.refl _ _, fun k hk => hk, by simp, trivial⟩
theorem base_same {w w' : World} (h : Mem [base w] w') : Same (fun k => k < w.heap.size) w w' := by
  have := h.ok (base w) (by simp)
  unfold base at this
  exact this
theorem base_below {w w' : World} (h : Mem [base w] w') : Go.RowKit.Below w.heap.size w w' :=
  let s := base_same h
  ⟨s.os, s.tape, s.output, s.size, s.block⟩
theorem Rd.base {w : World} {b off : Nat} {vs : List Value} (h : ∀ (j : Nat) (v : Value), vs[j]? = some v → w.cell? ⟨b, off + j, none⟩ = some v) : Rd [GL.base w] b off vs := by
  intro w' hM j v hj
  have h0 := h j v hj
  have hlt := World.block_lt_of_cell? w ⟨b, off + j, none⟩ h0
  rw [World.cell?_of_block (w := w) (w' := w') ((base_same hM).block b hlt)]
  exact h0
theorem wf_I64 {z : Int} (h : (Lit.int .i64 z).wf = true) : I64 z := by
  exact bounds_i64 h
section
variable {H : Type} {enc : TypeId × Value → H} {P : Program} {w : World}
theorem open_args {tIs tI n : Nat} {c : Value} {y : DataW H × List MemPlace} (hIs : P.underlying tIs = some (.slice tI)) (hI : P.underlying tI = some (.int .i64)) (hC : P.cellsOf tI = 1)
    (h : DataW.trod enc P w 0 (fun _ => true) true n tIs [c] = some y) :
    ∃ (xs : List Int) (a : Option Nat) (o cap : Nat) (sp : Option Nat), c = slV a o xs.length cap sp ∧ RInts [base w] a o xs sp ∧ (∀ x ∈ xs, I64 x) ∧ xs.length ≤ 9223372036854775807 := by
  rcases open_ints hIs hI hC h with ⟨hc, _⟩ | ⟨a, len, cap, zs, hc, _, hl, hm, hz, _, hcell, hwf⟩
  · simp only [List.cons.injEq, and_true] at hc
    exact ⟨[], none, 0, 0, none, hc, .inl rfl, by simp, by simp⟩
  · simp only [List.cons.injEq, and_true] at hc
    simp only [if_true] at hz
    have hm' : cap ≤ 9223372036854775807 := by simpa [maxLen] using hm
    have hlen : (zs.take len).length = len := by rw [List.length_take]; omega
    obtain ⟨b, off, spt⟩ := a
    refine ⟨zs.take len, some b, off, cap, spt, by rw [hc, hlen]; rfl, ?_, fun x hx => wf_I64 (hwf x (List.mem_of_mem_take hx)), by omega⟩
    rcases Nat.eq_zero_or_pos len with h0 | hp
    · subst h0
      exact .inl (by simp [ints])
    · have h0 := hcell 0 (by omega)
      have hs : spt = none := by simpa [Addr.add] using World.cell?_spot h0
      subst hs
      refine .inr ⟨b, rfl, rfl, Rd.base (fun j v hj => ?_)⟩
      have hjl : j < (ints (zs.take len)).length := (List.getElem?_eq_some_iff.1 hj).1
      rw [List.length_map, hlen] at hjl
      have hc' := hcell j (by omega)
      rw [addr_add] at hc'
      rw [hc']
      have hjz : j < zs.length := by omega
      have : (ints (zs.take len))[j]? = some (.int .i64 (zs.getD j 0)) := by
        simp [ints, hjl, hjz]
      rw [this] at hj
      exact hj
theorem open_node {tN tIs tI n : Nat} {g0 g1 g2 : Field} {b off : Nat} {sp : Option Nat} {cs : List Value} {y : DataW H × List MemPlace} (hN : P.underlying tN = some (.struct #[g0, g1, g2])) (hone : oneCellFields P #[g0, g1, g2] = true) (hC3 : P.cellsOf tN = 3)
    (e0 : g0.type = tI) (e1 : g1.type = tI) (e2 : g2.type = tIs) (hIs : P.underlying tIs = some (.slice tI)) (hI : P.underlying tI = some (.int .i64)) (hC : P.cellsOf tI = 1)
    (hc : w.cells? 0 ⟨b, off, sp⟩ 3 = some cs) (h : DataW.trod enc P w 0 (fun _ => true) true n tN cs = some y) :
    sp = none ∧ ∃ d : Nd, d.ok ∧ ∃ aa o cap asp, NdAt [base w] b off d aa o cap asp := by
  obtain ⟨_, hcl, hat⟩ := World.cells?_some hc
  obtain ⟨c0, c1, c2, rfl⟩ : ∃ c0 c1 c2, cs = [c0, c1, c2] := by
    match cs, hcl with
    | [c0, c1, c2], _ => exact ⟨c0, c1, c2, rfl⟩
  have hs : sp = none := by
    have := hat 0 (by omega)
    simpa [Addr.add] using World.cell?_spot this
  subst hs
  obtain ⟨y0, y1, y2, n', _, _, h0, h1, h2⟩ := trod_struct3 hN h
  obtain ⟨o0, k0⟩ := hone_of hone 0 g0 rfl
  obtain ⟨o1, k1⟩ := hone_of hone 1 g1 rfl
  obtain ⟨o2, k2⟩ := hone_of hone 2 g2 rfl
  rw [e0] at k0; rw [e1] at k1; rw [e2] at k2
  simp only [o0, k0, e0, List.drop_zero, List.take_succ_cons, List.take_zero] at h0
  simp only [o1, k1, e1, List.drop_succ_cons, List.drop_zero, List.take_succ_cons, List.take_zero] at h1
  simp only [o2, k2, e2, List.drop_succ_cons, List.drop_zero, List.take_succ_cons, List.take_zero] at h2
  obtain ⟨kind, q0, _, w0⟩ := DataW.trod_int hI h0
  obtain ⟨k, q1, _, w1⟩ := DataW.trod_int hI h1
  obtain ⟨xs, aa, o, cap, asp, q2, q3, q4, q5⟩ := open_args hIs hI hC h2
  simp only [List.cons.injEq, and_true] at q0 q1
  subst q0 q1 q2
  refine ⟨rfl, ⟨kind, k, xs⟩, ⟨wf_I64 w0, wf_I64 w1, q4, q5⟩, aa, o, cap, asp, Rd.base (fun j v hj => ?_), q3⟩
  have hj3 : j < 3 := by
    have := (List.getElem?_eq_some_iff.1 hj).1
    simpa using this
  have := hat j hj3
  rw [addr_add] at this
  rw [this]
  exact hj
theorem open_formulaC {tNs tN tIs tI n : Nat} {g0 g1 g2 : Field} {c0 c1 c2 : Value} {y0 y1 y2 : DataW H × List MemPlace}
    (hNs : P.underlying tNs = some (.slice tN)) (hN : P.underlying tN = some (.struct #[g0, g1, g2])) (hone : oneCellFields P #[g0, g1, g2] = true) (hC3 : P.cellsOf tN = 3)
    (e0 : g0.type = tI) (e1 : g1.type = tI) (e2 : g2.type = tIs) (hIs : P.underlying tIs = some (.slice tI)) (hI : P.underlying tI = some (.int .i64)) (hC : P.cellsOf tI = 1)
    (h0 : DataW.trod enc P w 0 (fun _ => true) true n tI [c0] = some y0) (h1 : DataW.trod enc P w 0 (fun _ => true) true n tNs [c1] = some y1) (h2 : DataW.trod enc P w 0 (fun _ => true) true n tI [c2] = some y2) :
    ∃ F : Fm, F.ok ∧ RF [base w] (.agg #[c0, c1, c2]) F := by
  obtain ⟨vars, q0, _, w0⟩ := DataW.trod_int hI h0
  obtain ⟨top, q2, _, w2⟩ := DataW.trod_int hI h2
  simp only [List.cons.injEq, and_true] at q0 q2
  subst q0 q2
  rcases open_slice hNs h1 with ⟨hc, _⟩ | ⟨a, len, cap, m, n', D, Pl, hc, _, hl, hm, hmm, _, hi⟩
  · simp only [List.cons.injEq, and_true] at hc
    subst hc
    exact ⟨⟨vars, [], top⟩, ⟨wf_I64 w0, wf_I64 w2, by simp, by simp⟩, none, 0, 0, none, rfl, .inl rfl⟩
  · simp only [List.cons.injEq, and_true] at hc
    simp only [if_true] at hmm
    subst hc
    obtain ⟨b, off, sp⟩ := a
    have hm' : cap ≤ 9223372036854775807 := by simpa [maxLen] using hm
    have hsp : len ≠ 0 → sp = none := by
      intro h0
      obtain ⟨cs', hcs, ht⟩ := hi 0 (by omega)
      rw [Nat.zero_mul, hC3] at hcs
      exact (open_node hN hone hC3 e0 e1 e2 hIs hI hC hcs ht).1
    have each : ∀ i, i < len → ∃ d : Nd, d.ok ∧ ∃ aa o acap asp, NdAt [base w] b (off + i * 3) d aa o acap asp := by
      intro i hil
      have hs := hsp (by omega)
      subst hs
      obtain ⟨cs', hcs, ht⟩ := hi i (by omega)
      rw [hC3, addr_add] at hcs
      exact (open_node hN hone hC3 e0 e1 e2 hIs hI hC hcs ht).2
    obtain ⟨f, hf⟩ := choose_lt (p := fun i (d : Nd) => d.ok ∧ ∃ aa o acap asp, NdAt [base w] b (off + i * 3) d aa o acap asp) each
    have hlen : ((List.range len).map f).length = len := by simp
    refine ⟨⟨vars, (List.range len).map f, top⟩, ⟨wf_I64 w0, wf_I64 w2, ?_, by rw [hlen]; omega⟩, some b, off, cap, sp, by rw [hlen]; rfl, ?_⟩
    · intro d hd
      obtain ⟨i, hi', rfl⟩ := List.mem_map.1 hd
      exact (hf i (List.mem_range.1 hi')).1
    · rcases Nat.eq_zero_or_pos len with h0 | hp
      · subst h0
        exact .inl rfl
      · refine .inr ⟨b, rfl, hsp (by omega), fun i d hd => ?_⟩
        have hil : i < len := by
          have := (List.getElem?_eq_some_iff.1 hd).1
          rwa [hlen] at this
        have : d = f i := by simp [hil] at hd; exact hd.symm
        subst this
        exact (hf i hil).2
end
end Go.GL
