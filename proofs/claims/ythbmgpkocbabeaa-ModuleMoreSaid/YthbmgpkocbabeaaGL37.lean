import Derived.Test.YthbmgpkocbabeaaGL36
namespace Go.GL
set_option linter.unusedVariables false
set_option linter.unusedSimpArgs false
structure MX where
  b0 : Nat
  a3 : Option Nat
  c3 : Nat
  b7 : Nat
  b9 : Nat
  a10 : Nat
  c10 : Nat
abbrev MX.three (x : MX) : List Value := [.int .i64 3, .int .i64 0, slV (some x.b7) 0 2 2]
theorem iand_pred0 {b : Nat} (hb : b < 2 ^ 24) : decide (iand (b : Int) ((b : Int) - 1) = 0) = decide (pp 24 b < 2) := by
  have := iand_pred hb
  rw [decide_eq_decide] at this
  refine decide_eq_decide.2 ?_
  omega
theorem bit_zero {b x : Nat} (hb : b < 2 ^ 24) (hx : x ≤ 64) : decide (iand (ishr (b : Int) x) 1 = 0) = !b.testBit x := by
  have h1 := bitB_nat (a := b) (i := x) (by have : (2 : Nat) ^ 24 = 16777216 := by decide
                                            omega) hx
  unfold bitB at h1
  rw [ishr_nat hx] at h1 ⊢
  have h2 := iand_one (c := b >>> x) (by have := Nat.shiftRight_le b x; have : (2 : Nat) ^ 24 = 16777216 := by decide
                                         omega)
  rw [h2] at h1 ⊢
  rw [← h1, ← decide_not]
  refine decide_eq_decide.2 ?_
  omega
theorem bits_zero {b : Nat} (hb : b < 2 ^ 24) (h : ∀ i, i < 24 → b.testBit i = false) : b = 0 := by
  refine Nat.eq_of_testBit_eq fun i => ?_
  rw [Nat.zero_testBit]
  rcases Nat.lt_or_ge i 24 with hi | hi
  · exact h i hi
  · exact Nat.testBit_lt_two_pow (Nat.lt_of_lt_of_le hb (Nat.pow_le_pow_right (by decide) hi))
theorem pp_pos {b : Nat} (h : 2 ≤ pp 24 b) : b ≠ 0 := by
  rintro rfl
  exact absurd h (by decide)
theorem Fm.proper_split (F : Fm) {j : Nat} (h : j < F.find.length) (hp : F.proper1 F.find[j] = true) : ∃ r, F.proper = F.properTo j ++ F.find[j] :: r := by
  refine ⟨(F.find.drop (j + 1)).filter F.proper1, ?_⟩
  unfold Fm.proper Fm.properTo
  have e : F.find = F.find.take j ++ (F.find[j] :: F.find.drop (j + 1)) := by
    rw [← List.drop_eq_getElem_cons h, List.take_append_drop]
  conv => lhs; rw [e]
  rw [List.filter_append, List.filter_cons_of_pos hp]
theorem Fm.below_ind' {F : Fm} (hg : F.Good) (p : Nat → Prop) (h0 : p F.top.toNat)
    (h1 : ∀ k (hk : k < F.nodes.length), p (F.vars.toNat + k) → ∀ a ∈ F.nodes[k].args, p a.toNat) : ∀ j, F.below.getD j false = true → p j := by
  have gt := hg.topLt; have g0 := hg.v0
  intro j hj
  have hn := Fm.needed_eq hg
  by_cases ht : j = F.top.toNat
  · rw [ht]; exact h0
  rw [← hn, List.getD_eq_getElem?_getD, List.getElem?_set_ne (by omega), ← List.getD_eq_getElem?_getD] at hj
  rcases Nat.lt_or_ge F.top.toNat F.vars.toNat with hlt | hge
  · unfold Fm.under at hj
    rw [if_pos hlt] at hj
    rw [List.getD_eq_getElem?_getD] at hj
    by_cases hb : j < F.vars.toNat + F.nodes.length
    · rw [List.getElem?_replicate, if_pos hb] at hj; cases hj
    · rw [List.getElem?_replicate, if_neg hb] at hj; cases hj
  · obtain ⟨t, ht2⟩ : ∃ t, F.top.toNat = F.vars.toNat + t := ⟨F.top.toNat - F.vars.toNat, by omega⟩
    have htn : t < F.nodes.length := by omega
    rw [ht2] at hj h0
    exact Fm.under_ind hg htn p (h1 t htn h0) (fun k hk _ h2 => h1 k hk h2) j hj
theorem law_more {F : Fm} (hg : F.Good) {i e : Nat} (hi : i < F.nodes.length) (hb : F.below.getD (F.vars.toNat + i) false = true) (he : (F.under (F.vars.toNat + i)).getD e false = true) (hev : e < F.vars.toNat) (hl : F.nodes.length + 1 ≤ 128)
    {G : Fm} (hG : G = F.plus [⟨3, 0, [F.top, (e : Int)]⟩] (F.vars + F.nodes.length)) : G.Good ∧ G.below.getD (F.vars.toNat + i) false = true ∧ G.isMod (F.vars.toNat + i) = false := by
  have g0 := hg.v0; have gt := hg.topLt
  have hgG : G.Good := by
    rw [hG]
    refine hg.plus (by simpa using hl) (fun i hi => ?_) (by omega) (by simp; omega)
    simp only [List.length_cons, List.length_nil] at hi
    obtain rfl : i = 0 := by omega
    refine nodeErr_none.2 ⟨by simp, by simp, rfl, ?_, by simp⟩
    intro a ha
    simp at ha
    rcases ha with rfl | rfl <;> omega
  have hv : G.vars = F.vars := by rw [hG]; rfl
  have hn : G.nodes = F.nodes ++ [⟨3, 0, [F.top, (e : Int)]⟩] := by rw [hG]; rfl
  have ht : G.top.toNat = F.vars.toNat + F.nodes.length := by rw [hG]; simp [Fm.plus]; omega
  have hlen : G.nodes.length = F.nodes.length + 1 := by rw [hn]; simp
  have hold : ∀ k (hk : k < F.nodes.length) (hk' : k < G.nodes.length), G.nodes[k] = F.nodes[k] := by
    intro k hk hk'
    simp [hn, List.getElem_append_left hk]
  have hlast : ∀ (hk' : F.nodes.length < G.nodes.length), G.nodes[F.nodes.length].args = [F.top, (e : Int)] := by
    intro hk'
    simp [hn]
  have hbt := Fm.below_top hgG
  rw [ht] at hbt
  have hcl := Fm.below_closed hgG (i := F.nodes.length) (by omega) (by rw [hv]; exact hbt)
  rw [hlast (by omega)] at hcl
  have hsub : ∀ j, F.below.getD j false = true → G.below.getD j false = true := by
    refine Fm.below_ind' hg (fun j => G.below.getD j false = true) (hcl _ (by simp)) (fun k hk hk2 a ha => ?_)
    have := Fm.below_closed hgG (i := k) (by omega) (by rw [hv]; exact hk2)
    rw [hold k hk (by omega)] at this
    exact this a ha
  have hund : ∀ j, (F.under (F.vars.toNat + i)).getD j false = true → (G.under (F.vars.toNat + i)).getD j false = true := by
    refine Fm.under_ind hg hi (fun j => (G.under (F.vars.toNat + i)).getD j false = true) ?_ (fun k hk _ hk2 a ha => ?_)
    · have := Fm.under_args hgG (i := i) (by omega)
      rw [hold i hi (by omega), hv] at this
      exact this
    · have := Fm.under_closed hgG (i := i) (k := k) (by omega) (by omega) (by rw [hv]; exact hk2)
      rw [hold k hk (by omega), hv] at this
      exact this a ha
  refine ⟨hgG, hsub _ hb, ?_⟩
  cases hm : G.isMod (F.vars.toNat + i) with
  | false => rfl
  | true =>
    exfalso
    unfold Fm.isMod at hm
    simp only [Bool.and_eq_true] at hm
    have h1 := List.all_eq_true.1 hm.2 F.nodes.length (List.mem_range.2 (by omega))
    unfold Fm.modAt at h1
    rw [hv, hbt] at h1
    have h2 : (G.under (F.vars.toNat + i)).getD (F.vars.toNat + F.nodes.length) false = false := by
      cases hu : (G.under (F.vars.toNat + i)).getD (F.vars.toNat + F.nodes.length) false with
      | false => rfl
      | true => exact absurd (Fm.under_lt hgG hu) (by omega)
    have h3 : Nat.beq (F.vars.toNat + F.nodes.length) (F.vars.toNat + i) = false := by
      cases hq : Nat.beq (F.vars.toNat + F.nodes.length) (F.vars.toNat + i) with
      | false => rfl
      | true => have := Nat.eq_of_beq_eq_true hq; omega
    rw [h2, h3, show G.nodes.getD F.nodes.length ⟨0, 0, []⟩ = G.nodes[F.nodes.length]'(by omega) from by simp [hlen], hlast (by omega)] at h1
    have h4 := hund e he
    simp only [Bool.not_true, Bool.false_or] at h1
    have h5 := List.all_eq_true.1 h1 (e : Int) (by simp)
    rw [Int.toNat_natCast, h4] at h5
    cases h5
end Go.GL
