import Derived.Test.YtlgjmebebhpolaaGL26
namespace Go.GL
set_option linter.unusedVariables false
set_option linter.unusedSimpArgs false
section
variable {P : Program} {n : Nat} {S : List (Nat × Value)} {H : List Ent} {A : Array Oper} {Q : Exit → Act → World → Prop}
theorem Nrm.le {H' : List Ent} (hl : Le H H') (h : Nrm n S H' Q) : Nrm n S H Q := fun a w hS hM => h a w hS (hl w hM)
end
theorem RNodes.cells {H : List Ent} {a sp : Option Nat} {off : Nat} {ns : List Nd} (h : RNodes H a off ns sp) : ∃ qs : List SA, ArgsIn H ns qs ∧ RdS H a off (nsCells ns qs) sp := by
  rcases h with rfl | ⟨b, rfl, rfl, h⟩
  · exact ⟨[], ArgsIn.nil, .inl rfl⟩
  · suffices ∀ (ns : List Nd) (off : Nat), (∀ (i : Nat) (d : Nd), ns[i]? = some d → ∃ aa o cap asp, NdAt H b (off + i * 3) d aa o cap asp) → ∃ qs : List SA, ArgsIn H ns qs ∧ Rd H b off (nsCells ns qs) by
      obtain ⟨qs, h1, h2⟩ := this ns off h
      exact ⟨qs, h1, .inr ⟨b, rfl, rfl, h2⟩⟩
    intro ns
    induction ns with
    | nil => intro off _; exact ⟨[], ArgsIn.nil, fun w _ j v hj => by simp [nsCells] at hj⟩
    | cons d r ih =>
      intro off hh
      obtain ⟨aa, o, cap, asp, h0⟩ := hh 0 d rfl
      rw [Nat.zero_mul, Nat.add_zero] at h0
      obtain ⟨qs, h1, h2⟩ := ih (off + 3) (fun i d' hd => by
        obtain ⟨aa, o, cap, asp, h⟩ := hh (i + 1) d' (by simpa using hd)
        exact ⟨aa, o, cap, asp, by rwa [show off + (i + 1) * 3 = off + 3 + i * 3 by omega] at h⟩)
      refine ⟨(aa, o, cap, asp) :: qs, ⟨by simp [h1.1], fun i d' q hd hq => ?_⟩, ?_⟩
      · cases i with
        | zero => simp at hd hq; subst hd hq; exact h0.args
        | succ i => exact h1.2 i d' q (by simpa using hd) (by simpa using hq)
      · intro w hM j v hj
        rcases Nat.lt_or_ge j 3 with h3 | h3
        · refine h0.cells w hM j v ?_
          rw [nsCells, List.getElem?_append_left (by simpa [ndCells] using h3)] at hj
          exact hj
        · have := h2 w hM (j - 3) v (by
            rw [nsCells, List.getElem?_append_right (by simpa [ndCells] using h3)] at hj
            simpa [ndCells] using hj)
          rwa [show off + 3 + (j - 3) = off + j by omega] at this
theorem nsCells_append (ns ms : List Nd) (qs rs : List SA) (h : qs.length = ns.length) : nsCells (ns ++ ms) (qs ++ rs) = nsCells ns qs ++ nsCells ms rs := by
  induction ns generalizing qs with
  | nil => have : qs = [] := List.eq_nil_of_length_eq_zero (by simpa using h)
           subst this; rfl
  | cons d r ih =>
    cases qs with
    | nil => simp at h
    | cons q s => simp [nsCells, ih s (by simpa using h)]
theorem nsCells_one' (ns : List Nd) (qs : List SA) : ∀ u ∈ nsCells ns qs, u.oneCell' = true := by
  induction ns generalizing qs with
  | nil => intro u hu; simp [nsCells] at hu
  | cons d r ih =>
    cases qs with
    | nil => intro u hu; simp [nsCells] at hu
    | cons q s =>
      intro u hu
      simp only [nsCells, List.mem_append, ndCells, List.mem_cons, List.not_mem_nil, or_false] at hu
      rcases hu with (rfl | rfl | rfl) | hu
      · rfl
      · rfl
      · rfl
      · exact ih s u hu
def Fm.plus (F : Fm) (ns : List Nd) (top : Int) : Fm := ⟨F.vars, F.nodes ++ ns, top⟩
theorem Fm.Good.plus {F : Fm} (hg : F.Good) {ns : List Nd} {top : Int} (hl : F.nodes.length + ns.length ≤ 128)
    (hn : ∀ i (h : i < ns.length), nodeErr F.vars ((F.nodes.length + i : Nat) : Int) ns[i] = none) (h0 : 0 ≤ top) (h1 : top < F.vars + F.nodes.length + ns.length) : (F.plus ns top).Good := by
  have g0 := hg.v0
  refine ⟨hg.v0, hg.v1, by simpa [Fm.plus] using hl, fun i hi => ?_, ?_⟩
  · unfold Fm.plus at hi ⊢
    simp only [List.length_append] at hi
    rcases Nat.lt_or_ge i F.nodes.length with h | h
    · have := hg.node i h
      simp only [List.getElem_append_left h]
      exact this
    · have := hn (i - F.nodes.length) (by omega)
      simp only [List.getElem_append_right h]
      rwa [show F.nodes.length + (i - F.nodes.length) = i by omega] at this
  · unfold Fm.valid Fm.plus
    simp
    omega
theorem Fm.plus_tval {F : Fm} (ns : List Nd) (top : Int) (y n : Int) {j : Nat} (hj : j < F.vars.toNat + F.nodes.length) : (F.plus ns top).tval y n j = F.tval y n j := by
  unfold Fm.tval Fm.tvals Fm.plus
  simp only
  rw [genFrom_append, genFrom_getD_lt _ _ _ _ _ (by rw [genFrom_length, tevents_length]; exact hj)]
def negT (t : Nat) : Nat := if t = 0 then 1 else if t = 1 then 0 else 2
theorem tval_not {F : Fm} (hg : F.Good) (y n : Int) {i : Nat} (hi : i < F.nodes.length) {a : Int} (hd : F.nodes[i] = ⟨1, 0, [a]⟩) : F.tval y n (F.vars.toNat + i) = negT (F.tval y n a.toNat) := by
  rw [F.tval_node hg y n hi, hd]
  have h2 := F.tval_le hg y n a.toNat
  unfold tnode tcOf negT
  rcases (show F.tval y n a.toNat = 0 ∨ F.tval y n a.toNat = 1 ∨ F.tval y n a.toNat = 2 by omega) with e | e | e <;> simp [e, lev]
theorem law_dual {F : Fm} (hg : F.Good) (hl : F.nodes.length + 2 ≤ 128) (y n : Int) (G : Int → Fm) (hG : ∀ t, G t = F.plus [⟨1, 0, [F.top]⟩, ⟨1, 0, [F.vars + F.nodes.length]⟩] t) :
    (G (F.vars + F.nodes.length)).Good ∧ (G (F.vars + F.nodes.length + 1)).Good ∧
    (G (F.vars + F.nodes.length)).tval y n (F.vars + F.nodes.length).toNat = negT (F.tval y n F.top.toNat) ∧ (G (F.vars + F.nodes.length + 1)).tval y n (F.vars + F.nodes.length + 1).toNat = F.tval y n F.top.toNat := by
  have g0 := hg.v0; have g1 := hg.v1; have gt := hg.topLt
  have good : ∀ t, 0 ≤ t → t < F.vars + F.nodes.length + 2 → (G t).Good := by
    intro t h0 h1
    rw [hG]
    refine hg.plus (by simpa using hl) (fun i hi => ?_) h0 (by simpa using h1)
    simp only [List.length_cons, List.length_nil] at hi
    rcases (show i = 0 ∨ i = 1 by omega) with rfl | rfl
    · refine nodeErr_none.2 ⟨by simp, by simp, rfl, ?_, by simp⟩
      intro a ha
      simp at ha; subst ha; omega
    · refine nodeErr_none.2 ⟨by simp, by simp, rfl, ?_, by simp⟩
      intro a ha
      simp at ha; subst ha; omega
  have h1 := good (F.vars + F.nodes.length) (by omega) (by omega)
  have h2 := good (F.vars + F.nodes.length + 1) (by omega) (by omega)
  refine ⟨h1, h2, ?_, ?_⟩
  · have := tval_not h1 y n (i := F.nodes.length) (a := F.top) (by rw [hG]; simp [Fm.plus]) (by simp [hG, Fm.plus])
    rw [hG] at this ⊢
    rw [show (F.vars + F.nodes.length : Int).toNat = (F.plus [⟨1, 0, [F.top]⟩, ⟨1, 0, [F.vars + F.nodes.length]⟩] (F.vars + F.nodes.length)).vars.toNat + F.nodes.length from by simp [Fm.plus]; omega, this]
    rw [Fm.plus_tval _ _ _ _ (by omega)]
  · have e1 := tval_not h2 y n (i := F.nodes.length) (a := F.top) (by rw [hG]; simp [Fm.plus]) (by simp [hG, Fm.plus])
    have e2 := tval_not h2 y n (i := F.nodes.length + 1) (a := F.vars + F.nodes.length) (by rw [hG]; simp [Fm.plus]) (by simp [hG, Fm.plus])
    rw [hG] at e1 e2 ⊢
    rw [show (F.vars + F.nodes.length + 1 : Int).toNat = (F.plus [⟨1, 0, [F.top]⟩, ⟨1, 0, [F.vars + F.nodes.length]⟩] (F.vars + F.nodes.length + 1)).vars.toNat + (F.nodes.length + 1) from by simp [Fm.plus]; omega, e2]
    rw [show (F.vars + F.nodes.length : Int).toNat = (F.plus [⟨1, 0, [F.top]⟩, ⟨1, 0, [F.vars + F.nodes.length]⟩] (F.vars + F.nodes.length + 1)).vars.toNat + F.nodes.length from by simp [Fm.plus]; omega, e1]
    rw [Fm.plus_tval _ _ _ _ (by omega)]
    have hle := F.tval_le hg y n F.top.toNat
    unfold negT
    rcases (show F.tval y n F.top.toNat = 0 ∨ F.tval y n F.top.toNat = 1 ∨ F.tval y n F.top.toNat = 2 by omega) with e | e | e <;> rw [e] <;> rfl
def rangeI (k : Nat) : List Int := (List.range k).map (fun (i : Nat) => (i : Int))
theorem rangeI_length (k : Nat) : (rangeI k).length = k := by simp [rangeI]
theorem rangeI_succ (k : Nat) : rangeI (k + 1) = rangeI k ++ [(k : Int)] := by simp [rangeI, List.range_succ]
def oneF (kind k : Int) (m : Nat) : Fm := ⟨m, [⟨kind, k, rangeI m⟩], m⟩
theorem oneF_good {kind k : Int} {m : Nat} (h0 : 1 ≤ m) (h1 : m ≤ 8) (hk : 2 ≤ kind ∧ kind ≤ 5) (hk4 : kind = 4 → 1 ≤ k ∧ k ≤ m) (hk0 : kind ≠ 4 → k = 0) : (oneF kind k m).Good := by
  refine ⟨by simp [oneF], by simp [oneF]; omega, by simp [oneF], fun i hi => ?_, by simp [Fm.valid, oneF]⟩
  simp only [oneF, List.length_singleton] at hi
  obtain rfl : i = 0 := by omega
  refine nodeErr_none.2 ⟨by simp only [oneF, List.getElem_cons_zero]; omega, by simp only [oneF, List.getElem_cons_zero]; omega, ?_, ?_, ?_⟩
  · simp only [oneF, List.getElem_cons_zero, rangeI_length]
    unfold argsB
    rw [if_neg (by omega), if_neg (by omega)]
    simp
    omega
  · intro a ha
    simp only [oneF, List.getElem_cons_zero, rangeI, List.mem_map, List.mem_range] at ha
    obtain ⟨i, hi, rfl⟩ := ha
    first | (simp [oneF]; done) | (simp [oneF]; omega)
  · simp only [oneF, List.getElem_cons_zero, rangeI_length]
    exact ⟨by omega, hk4, fun _ h => hk0 h⟩
theorem oneF_tval {kind k : Int} {m : Nat} (hg : (oneF kind k m).Good) (y n : Int) : ∃ a b c, a + b + c = m ∧ (oneF kind k m).tval y n m = tnode ⟨kind, k, rangeI m⟩ a b c ∧ a = ((List.range m).map (fun i => lev (bitB y i) (bitB n i))).countP (· == 0) ∧ b = ((List.range m).map (fun i => lev (bitB y i) (bitB n i))).countP (· == 1) ∧ c = ((List.range m).map (fun i => lev (bitB y i) (bitB n i))).countP (· == 2) := by
  have h := (oneF kind k m).tval_node hg y n (i := 0) (by simp [oneF])
  have hc : ∀ b, tcOf ((oneF kind k m).tval y n) b (rangeI m) = ((List.range m).map (fun i => lev (bitB y i) (bitB n i))).countP (· == b) := by
    intro b
    unfold tcOf rangeI
    rw [List.countP_map, List.countP_map]
    refine List.countP_congr fun i hi => ?_
    simp only [Function.comp, Int.toNat_natCast]
    rw [Fm.tval_event _ y n (by simpa [oneF] using hi)]
  have e0 : (oneF kind k m).vars.toNat + 0 = m := by simp [oneF]
  rw [e0] at h
  have hn : (oneF kind k m).nodes[0]'(by simp [oneF]) = ⟨kind, k, rangeI m⟩ := rfl
  rw [hn] at h
  simp only at h
  refine ⟨_, _, _, ?_, h, hc 0, hc 1, hc 2⟩
  rw [tcOf_sum (fun a _ => Fm.tval_le hg y n a.toNat), rangeI_length]
theorem law_votes {m : Nat} (h0 : 1 ≤ m) (h1 : m ≤ 8) (y n : Int) : (oneF 2 0 m).tval y n m = (oneF 4 m m).tval y n m ∧ (oneF 3 0 m).tval y n m = (oneF 4 1 m).tval y n m := by
  obtain ⟨a1, b1, c1, s1, e1, p1, q1, r1⟩ := oneF_tval (kind := 2) (k := 0) (m := m) (oneF_good h0 h1 (by decide) (by simp) (by simp)) y n
  obtain ⟨a2, b2, c2, s2, e2, p2, q2, r2⟩ := oneF_tval (kind := 4) (k := m) (m := m) (oneF_good h0 h1 (by decide) (fun _ => by omega) (by simp)) y n
  obtain ⟨a3, b3, c3, s3, e3, p3, q3, r3⟩ := oneF_tval (kind := 3) (k := 0) (m := m) (oneF_good h0 h1 (by decide) (by simp) (by simp)) y n
  obtain ⟨a4, b4, c4, s4, e4, p4, q4, r4⟩ := oneF_tval (kind := 4) (k := 1) (m := m) (oneF_good h0 h1 (by decide) (fun _ => by omega) (by simp)) y n
  rw [← p1] at p2 p3 p4; rw [← q1] at q2 q3 q4; rw [← r1] at r2 r3 r4
  subst p2 p3 p4 q2 q3 q4 r2 r3 r4
  rw [e1, e2, e3, e4]
  unfold tnode
  simp only [rangeI_length, if_true, (by decide : ((2 : Int) = 0) = False), (by decide : ((2 : Int) = 1) = False), (by decide : ((4 : Int) = 0) = False), (by decide : ((4 : Int) = 1) = False), (by decide : ((4 : Int) = 2) = False), (by decide : ((4 : Int) = 3) = False), (by decide : ((3 : Int) = 0) = False), (by decide : ((3 : Int) = 1) = False), (by decide : ((3 : Int) = 2) = False), if_false]
  constructor
  · congr 1 <;> exact decide_eq_decide.2 (by omega)
  · congr 1 <;> exact decide_eq_decide.2 (by omega)
end Go.GL
namespace Go.GL
structure DX where
  b2 : Nat
  a5 : Option Nat
  c5 : Nat
  b8 : Nat
  b11 : Nat
  b13 : Nat
  a14 : Nat
  c14 : Nat
  b17 : Nat
abbrev DX.six (x : DX) : List Value := [.int .i64 1, .int .i64 0, slV (some x.b8) 0 1 1, .int .i64 1, .int .i64 0, slV (some x.b11) 0 1 1]
theorem sub_on {H H' l : List Ent} (h : H.Sublist H') : H.Sublist (l ++ H') := h.trans (List.sublist_append_right _ _)
end Go.GL
