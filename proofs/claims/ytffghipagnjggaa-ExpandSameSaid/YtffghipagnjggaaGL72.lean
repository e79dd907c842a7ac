import Derived.Test.YtffghipagnjggaaGL71
namespace Go.GL
open Go.ChangeShapes Go.WideShapes Go.RowKit Go.Deep Go.Joins
set_option linter.unusedVariables false
set_option linter.unusedSimpArgs false
section
variable {P : Program} {n : Nat} {S : List (Nat × Value)} {H : List Ent} {A : Array Oper} {Q : Exit → Act → World → Prop}
theorem TOps.storeBld {x w U p e rest} {T TN : TypeId} {bo : Nat} {v t : Int} {hdr : List Value} {ns : List Nd} {s : BS} {HB : List Ent} {L : Nat} {zs : List Value} {g : Bool} {y : Nat} (hx : opv S x = some (.pointer (some ⟨bo, 0, none⟩)))
    (hv : opv S w = some (.agg (List.toArray [.int .i64 v, slV s.oa 0 L s.cap, .int .i64 t]))) (ht : TI P T g zs 3 y) (hL : ns.length = L) (hh : hdr.length = 3) (h : TOps P n S (bld T TN bo v ns t s HB) rest A Q) :
    TOps P n S (bldH T TN bo hdr ns s HB) (⟨none, .store T x w, U, p, e, none⟩ :: rest) A Q := by
  subst hL
  obtain ⟨h0, h1, h2, rfl⟩ : ∃ a b c, hdr = [a, b, c] := by
    match hdr, hh with
    | [a, b, c], _ => exact ⟨a, b, c, rfl⟩
  exact TOps.storeN (H' := bld T TN bo v ns t s HB) (vs := [.int .i64 v, slV s.oa 0 ns.length s.cap, .int .i64 t]) hx hv ht rfl (by simp [slV, Value.oneCell']) Upd.here (by simp) h
end
theorem bld_in2 {T TN : TypeId} {b : Nat} {v t : Int} {ns : List Nd} {s : BS} {HB : List Ent} {e f : Ent} : Le (e :: f :: bld T TN b v ns t s HB) (bld T TN b v ns t s (e :: f :: HB)) := by
  refine Le.perm ?_
  unfold bld
  exact (List.perm_middle (l₁ := [e, f])).trans (List.Perm.cons _ ((List.perm_middle (l₁ := [e, f])).trans (List.Perm.cons _ ((List.perm_append_comm_assoc [e, f] s.N HB)))))
def tabI (P : List Int) (m : Nat) : List Int := P ++ List.replicate (m - P.length) 0
theorem tabI_length {P : List Int} {m : Nat} (h : P.length ≤ m) : (tabI P m).length = m := by simp [tabI]; omega
theorem tabI_getD {P : List Int} {m i : Nat} (h : i < P.length) : (tabI P m).getD i 0 = P.getD i 0 := by
  unfold tabI
  rw [List.getD_eq_getElem?_getD, List.getElem?_append_left h, ← List.getD_eq_getElem?_getD]
theorem tabI_set {P : List Int} {m : Nat} {x : Int} (h : P.length < m) : (tabI P m).set P.length x = tabI (P ++ [x]) m := by
  unfold tabI
  rw [List.set_append_right _ _ (Nat.le_refl _), Nat.sub_self]
  obtain ⟨r, hr⟩ : ∃ r, m - P.length = r + 1 := ⟨m - P.length - 1, by omega⟩
  rw [hr, List.replicate_succ, List.set_cons_zero, List.length_append, List.length_singleton, show m - (P.length + 1) = r by omega]
  simp
theorem tabI_nil (m : Nat) : tabI [] m = List.replicate m 0 := by simp [tabI]
def NdAtC (H : List Ent) (b off : Nat) (d : Nd) (a : Option Nat) (o cap : Nat) (sp : Option Nat) : Prop := NdAt H b off d a o cap sp ∧ d.args.length ≤ cap
def RNodesC (H : List Ent) (a : Option Nat) (off : Nat) (ns : List Nd) (sp : Option Nat := none) : Prop :=
  ns = [] ∨ ∃ b, a = some b ∧ sp = none ∧ ∀ (i : Nat) (d : Nd), ns[i]? = some d → ∃ aa o cap asp, NdAtC H b (off + i * 3) d aa o cap asp
def RFC (H : List Ent) (v : Value) (F : Fm) : Prop :=
  ∃ a off cap sp, v = .agg (List.toArray [.int .i64 F.vars, slV a off F.nodes.length cap sp, .int .i64 F.top]) ∧ RNodesC H a off F.nodes sp
theorem RNodesC.le {H H' a off ns sp} (h : RNodesC H a off ns sp) (hl : Le H' H) : RNodesC H' a off ns sp := by
  rcases h with h | ⟨b, h1, h3, h2⟩
  · exact .inl h
  · exact .inr ⟨b, h1, h3, fun i d hi => by obtain ⟨aa, o, cap, asp, h, h'⟩ := h2 i d hi; exact ⟨aa, o, cap, asp, h.le hl, h'⟩⟩
theorem RFC.le {H H' v F} (h : RFC H v F) (hl : Le H' H) : RFC H' v F := by
  obtain ⟨a, off, cap, sp, h1, h2⟩ := h
  exact ⟨a, off, cap, sp, h1, h2.le hl⟩
theorem RNodesC.r {H a off ns sp} (h : RNodesC H a off ns sp) : RNodes H a off ns sp := by
  rcases h with h | ⟨b, h1, h3, h2⟩
  · exact .inl h
  · exact .inr ⟨b, h1, h3, fun i d hi => by obtain ⟨aa, o, cap, asp, h, h'⟩ := h2 i d hi; exact ⟨aa, o, cap, asp, h⟩⟩
theorem RFC.r {H v F} (h : RFC H v F) : RF H v F := by
  obtain ⟨a, off, cap, sp, h1, h2⟩ := h
  exact ⟨a, off, cap, sp, h1, h2.r⟩
theorem RNodesC.at {H a off ns sp} (h : RNodesC H a off ns sp) {i : Nat} (hi : i < ns.length) : ∃ b aa o cap asp, a = some b ∧ sp = none ∧ NdAt H b (off + i * 3) ns[i] aa o cap asp ∧ ns[i].args.length ≤ cap := by
  rcases h with h | ⟨b, h1, h3, h2⟩
  · subst h; simp at hi
  · obtain ⟨aa, o, cap, asp, h, h'⟩ := h2 i ns[i] (List.getElem?_eq_getElem hi)
    exact ⟨b, aa, o, cap, asp, h1, h3, h, h'⟩
theorem RNodesC.ofRow {H : List Ent} {b E sz cap : Nat} {ns : List Nd} {qs : List SA} (hm : row (.some b) E sz cap (nsCells ns qs) ∈ H) (hl : qs.length = ns.length)
    (ha : ∀ (i : Nat) (d : Nd) (q : SA), ns[i]? = .some d → qs[i]? = .some q → RInts H q.1 q.2.1 d.args q.2.2.2 ∧ d.args.length ≤ q.2.2.1) : RNodesC H (.some b) 0 ns := by
  refine .inr ⟨b, rfl, rfl, fun i d hi => ?_⟩
  have hil : i < ns.length := (List.getElem?_eq_some_iff.1 hi).1
  have hq : qs[i]? = some qs[i] := List.getElem?_eq_getElem (by omega)
  refine ⟨qs[i].1, qs[i].2.1, qs[i].2.2.1, qs[i].2.2.2, ⟨Rd.ofRow hm _ _ (fun j v hj => ?_), (ha i d _ hi hq).1⟩, (ha i d _ hi hq).2⟩
  rw [Nat.zero_add]
  exact nsCells_get ns qs i d qs[i] hi hq j v hj
def exN : Fm := ⟨2, [⟨2, 0, [0, 1]⟩, ⟨1, 0, [2]⟩], 3⟩
def exO : Fm := ⟨2, [⟨1, 0, [0]⟩, ⟨1, 0, [1]⟩, ⟨3, 0, [2, 3]⟩, ⟨3, 0, [4]⟩], 5⟩
theorem exN_good : exN.Good := (Fm.good_iff _).1 (by decide)
theorem exN_pf : exN.pushF = exO := by decide +kernel
theorem exN_pe : exN.pushE = none := by decide +kernel
section
variable {H : Type} {enc : TypeId × Value → H} {P : Program} {w : World}
theorem open_argsC {tIs tI n : Nat} {c : Value} {y : DataW H × List MemPlace} (hIs : P.underlying tIs = some (.slice tI)) (hI : P.underlying tI = some (.int .i64)) (hC : P.cellsOf tI = 1)
    (h : DataW.trod enc P w 0 (fun _ => true) true n tIs [c] = some y) :
    ∃ (xs : List Int) (a : Option Nat) (o cap : Nat) (sp : Option Nat), c = slV a o xs.length cap sp ∧ RInts [base w] a o xs sp ∧ (∀ x ∈ xs, I64 x) ∧ xs.length ≤ 9223372036854775807 ∧ xs.length ≤ cap := by
  rcases open_ints hIs hI hC h with ⟨hc, _⟩ | ⟨a, len, cap, zs, hc, _, hl, hm, hz, _, hcell, hwf⟩
  · simp only [List.cons.injEq, and_true] at hc
    exact ⟨[], none, 0, 0, none, hc, .inl rfl, by simp, by simp, by simp⟩
  · simp only [List.cons.injEq, and_true] at hc
    simp only [if_true] at hz
    have hm' : cap ≤ 9223372036854775807 := by simpa [maxLen] using hm
    have hlen : (zs.take len).length = len := by rw [List.length_take]; omega
    obtain ⟨b, off, spt⟩ := a
    refine ⟨zs.take len, some b, off, cap, spt, by rw [hc, hlen]; rfl, ?_, fun x hx => wf_I64 (hwf x (List.mem_of_mem_take hx)), by omega, by omega⟩
    rcases Nat.eq_zero_or_pos len with h0 | hp
    · subst h0
      exact .inl (by simp [ints])
    · have h0 := hcell 0 (by omega)
      have hs : spt = none := by simpa [Addr.add] using World.cell?_spot h0
      subst hs
      refine .inr ⟨b, rfl, rfl, Rd.base (fun j v hj => ?_)⟩
      have hjl : j < (ints (zs.take len)).length := (List.getElem?_eq_some_iff.1 hj).1
      rw [List.length_map, hlen] at hjl
      have hc' := hcell j (by omega)
      rw [addr_add] at hc'
      rw [hc']
      have hjz : j < zs.length := by omega
      have : (ints (zs.take len))[j]? = some (.int .i64 (zs.getD j 0)) := by
        simp [ints, hjl, hjz]
      rw [this] at hj
      exact hj
theorem open_nodeC {tN tIs tI n : Nat} {g0 g1 g2 : Field} {b off : Nat} {sp : Option Nat} {cs : List Value} {y : DataW H × List MemPlace} (hN : P.underlying tN = some (.struct #[g0, g1, g2])) (hone : oneCellFields P #[g0, g1, g2] = true) (hC3 : P.cellsOf tN = 3)
    (e0 : g0.type = tI) (e1 : g1.type = tI) (e2 : g2.type = tIs) (hIs : P.underlying tIs = some (.slice tI)) (hI : P.underlying tI = some (.int .i64)) (hC : P.cellsOf tI = 1)
    (hc : w.cells? 0 ⟨b, off, sp⟩ 3 = some cs) (h : DataW.trod enc P w 0 (fun _ => true) true n tN cs = some y) :
    sp = none ∧ ∃ d : Nd, d.ok ∧ ∃ aa o cap asp, NdAtC [base w] b off d aa o cap asp := by
  obtain ⟨_, hcl, hat⟩ := World.cells?_some hc
  obtain ⟨c0, c1, c2, rfl⟩ : ∃ c0 c1 c2, cs = [c0, c1, c2] := by
    match cs, hcl with
    | [c0, c1, c2], _ => exact ⟨c0, c1, c2, rfl⟩
  have hs : sp = none := by
    have := hat 0 (by omega)
    simpa [Addr.add] using World.cell?_spot this
  subst hs
  obtain ⟨y0, y1, y2, n', _, _, h0, h1, h2⟩ := trod_struct3 hN h
  obtain ⟨o0, k0⟩ := hone_of hone 0 g0 rfl
  obtain ⟨o1, k1⟩ := hone_of hone 1 g1 rfl
  obtain ⟨o2, k2⟩ := hone_of hone 2 g2 rfl
  rw [e0] at k0; rw [e1] at k1; rw [e2] at k2
  simp only [o0, k0, e0, List.drop_zero, List.take_succ_cons, List.take_zero] at h0
  simp only [o1, k1, e1, List.drop_succ_cons, List.drop_zero, List.take_succ_cons, List.take_zero] at h1
  simp only [o2, k2, e2, List.drop_succ_cons, List.drop_zero, List.take_succ_cons, List.take_zero] at h2
  obtain ⟨kind, q0, _, w0⟩ := DataW.trod_int hI h0
  obtain ⟨k, q1, _, w1⟩ := DataW.trod_int hI h1
  obtain ⟨xs, aa, o, cap, asp, q2, q3, q4, q5, q6⟩ := open_argsC hIs hI hC h2
  simp only [List.cons.injEq, and_true] at q0 q1
  subst q0 q1 q2
  refine ⟨rfl, ⟨kind, k, xs⟩, ⟨wf_I64 w0, wf_I64 w1, q4, q5⟩, aa, o, cap, asp, ⟨Rd.base (fun j v hj => ?_), q3⟩, q6⟩
  have hj3 : j < 3 := by
    have := (List.getElem?_eq_some_iff.1 hj).1
    simpa using this
  have := hat j hj3
  rw [addr_add] at this
  rw [this]
  exact hj
theorem open_formulaD {tNs tN tIs tI n : Nat} {g0 g1 g2 : Field} {c0 c1 c2 : Value} {y0 y1 y2 : DataW H × List MemPlace}
    (hNs : P.underlying tNs = some (.slice tN)) (hN : P.underlying tN = some (.struct #[g0, g1, g2])) (hone : oneCellFields P #[g0, g1, g2] = true) (hC3 : P.cellsOf tN = 3)
    (e0 : g0.type = tI) (e1 : g1.type = tI) (e2 : g2.type = tIs) (hIs : P.underlying tIs = some (.slice tI)) (hI : P.underlying tI = some (.int .i64)) (hC : P.cellsOf tI = 1)
    (h0 : DataW.trod enc P w 0 (fun _ => true) true n tI [c0] = some y0) (h1 : DataW.trod enc P w 0 (fun _ => true) true n tNs [c1] = some y1) (h2 : DataW.trod enc P w 0 (fun _ => true) true n tI [c2] = some y2) :
    ∃ F : Fm, F.ok ∧ RFC [base w] (.agg #[c0, c1, c2]) F := by
  obtain ⟨vars, q0, _, w0⟩ := DataW.trod_int hI h0
  obtain ⟨top, q2, _, w2⟩ := DataW.trod_int hI h2
  simp only [List.cons.injEq, and_true] at q0 q2
  subst q0 q2
  rcases open_slice hNs h1 with ⟨hc, _⟩ | ⟨a, len, cap, m, n', D, Pl, hc, _, hl, hm, hmm, _, hi⟩
  · simp only [List.cons.injEq, and_true] at hc
    subst hc
    exact ⟨⟨vars, [], top⟩, ⟨wf_I64 w0, wf_I64 w2, by simp, by simp⟩, none, 0, 0, none, rfl, .inl rfl⟩
  · simp only [List.cons.injEq, and_true] at hc
    simp only [if_true] at hmm
    subst hc
    obtain ⟨b, off, sp⟩ := a
    have hm' : cap ≤ 9223372036854775807 := by simpa [maxLen] using hm
    have hsp : len ≠ 0 → sp = none := by
      intro h0
      obtain ⟨cs', hcs, ht⟩ := hi 0 (by omega)
      rw [Nat.zero_mul, hC3] at hcs
      exact (open_nodeC hN hone hC3 e0 e1 e2 hIs hI hC hcs ht).1
    have each : ∀ i, i < len → ∃ d : Nd, d.ok ∧ ∃ aa o acap asp, NdAtC [base w] b (off + i * 3) d aa o acap asp := by
      intro i hil
      have hs := hsp (by omega)
      subst hs
      obtain ⟨cs', hcs, ht⟩ := hi i (by omega)
      rw [hC3, addr_add] at hcs
      exact (open_nodeC hN hone hC3 e0 e1 e2 hIs hI hC hcs ht).2
    obtain ⟨f, hf⟩ := choose_lt (p := fun i (d : Nd) => d.ok ∧ ∃ aa o acap asp, NdAtC [base w] b (off + i * 3) d aa o acap asp) each
    have hlen : ((List.range len).map f).length = len := by simp
    refine ⟨⟨vars, (List.range len).map f, top⟩, ⟨wf_I64 w0, wf_I64 w2, ?_, by rw [hlen]; omega⟩, some b, off, cap, sp, by rw [hlen]; rfl, ?_⟩
    · intro d hd
      obtain ⟨i, hi', rfl⟩ := List.mem_map.1 hd
      exact (hf i (List.mem_range.1 hi')).1
    · rcases Nat.eq_zero_or_pos len with h0 | hp
      · subst h0
        exact .inl rfl
      · refine .inr ⟨b, rfl, hsp (by omega), fun i d hd => ?_⟩
        have hil : i < len := by
          have := (List.getElem?_eq_some_iff.1 hd).1
          rwa [hlen] at this
        have : d = f i := by simp [hil] at hd; exact hd.symm
        subst this
        exact (hf i hil).2
end
end Go.GL
namespace Go.GL
set_option linter.unusedVariables false
theorem rfZero {H : List Ent} : RF H (.agg (List.toArray [.int .i64 0, slV none 0 0 0, .int .i64 0])) Fm.zero := ⟨none, 0, 0, none, rfl, .inl rfl⟩
theorem zero_ok : Fm.zero.ok := ⟨⟨by decide, by decide⟩, ⟨by decide, by decide⟩, by simp [Fm.zero], by simp [Fm.zero]⟩
theorem sizedF_ok {X : Fm} (h : X.Fit) : (sizedF X).ok := by
  unfold sizedF
  split
  · exact zero_ok
  · exact (h.good (by omega)).ok
theorem pushF_ok (F : Fm) : F.pushF.ok := by
  unfold Fm.pushF
  cases h : F.err with
  | some e => exact zero_ok
  | none => exact sizedF_ok (Fit.Fm.trim_good (pushB_fit ((Fm.good_iff F).1 h)))
theorem err_getD {F : Fm} (h : F.err.getD 0 = 0) : F.err = none := by
  cases he : F.err with
  | none => rfl
  | some e =>
    rw [he] at h
    obtain rfl : e = 0 := h
    have := Fm.err_of (F := F) (by rw [he]; rfl)
    rw [he] at this
    cases this
theorem err_getD' {F : Fm} (h : F.err.getD 0 ≠ 0) : ∃ e, F.err = some e := by
  cases he : F.err with
  | none => rw [he] at h; exact absurd rfl h
  | some e => exact ⟨e, rfl⟩
end Go.GL
