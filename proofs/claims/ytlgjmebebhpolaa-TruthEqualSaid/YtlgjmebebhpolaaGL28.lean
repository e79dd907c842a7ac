import Derived.Test.YtlgjmebebhpolaaGL27
namespace Go.GL
set_option linter.unusedVariables false
set_option linter.unusedSimpArgs false
def Fm.under (F : Fm) (arg : Nat) : List Bool :=
  if arg < F.vars.toNat then List.replicate (F.vars.toNat + F.nodes.length) false
  else belowL F.vars.toNat F.nodes (arg - F.vars.toNat) (markArgs (List.replicate (F.vars.toNat + F.nodes.length) false) (F.nodes.getD (arg - F.vars.toNat) ⟨0, 0, []⟩).args)
theorem Fm.under_length (F : Fm) (arg : Nat) : (F.under arg).length = F.vars.toNat + F.nodes.length := by
  unfold Fm.under
  split
  · simp
  · rw [belowL_length, markArgs_length]; simp
theorem markArgs_set (args : List Int) : ∀ (m : List Bool) (j : Nat), markArgs (m.set j true) args = (markArgs m args).set j true := by
  induction args with
  | nil => intro m j; rfl
  | cons a r ih =>
    intro m j
    show markArgs ((m.set j true).set a.toNat true) r = (markArgs (m.set a.toNat true) r).set j true
    rw [← ih]
    congr 1
    by_cases h : a.toNat = j
    · subst h; rfl
    · exact List.set_comm _ _ (fun e => h e.symm)
theorem belowL_set (v : Nat) (nodes : List Nd) : ∀ (i : Nat) (m : List Bool) (j : Nat), v + i ≤ j → belowL v nodes i (m.set j true) = (belowL v nodes i m).set j true := by
  intro i
  induction i with
  | zero => intro m j _; rfl
  | succ i ih =>
    intro m j hj
    unfold belowL
    have hg : (m.set j true).getD (v + i) false = m.getD (v + i) false := by
      rw [List.getD_eq_getElem?_getD, List.getElem?_set_ne (by omega), ← List.getD_eq_getElem?_getD]
    rw [hg, ← ih _ j (by omega)]
    cases m.getD (v + i) false with
    | false => rfl
    | true => simp only [cond_true, markArgs_set]
theorem belowL_none (v : Nat) (nodes : List Nd) : ∀ (i : Nat) (m : List Bool), (∀ j, v ≤ j → m.getD j false = false) → belowL v nodes i m = m
  | 0, _, _ => rfl
  | i + 1, m, h => by
    unfold belowL
    rw [h (v + i) (by omega)]
    exact belowL_none v nodes i m h
theorem belowL_down (v : Nat) (nodes : List Nd) (t : Nat) (m : List Bool) (h : ∀ i, t < i → m.getD (v + i) false = false) : ∀ i, t < i → belowL v nodes i m = belowL v nodes (t + 1) m := by
  intro i
  induction i with
  | zero => intro hi; omega
  | succ i ih =>
    intro hi
    rcases Nat.lt_or_ge t i with hlt | hge
    · conv => lhs; unfold belowL
      rw [h i hlt]
      exact ih hlt
    · obtain rfl : i = t := by omega
      rfl
theorem Fm.needed_eq {F : Fm} (hg : F.Good) : (F.under F.top.toNat).set F.top.toNat true = F.below := by
  have gt := hg.topLt; have g0 := hg.v0
  unfold Fm.under Fm.below
  split
  · rename_i h
    rw [belowL_none]
    intro j hj
    rw [List.getD_eq_getElem?_getD, List.getElem?_set_ne (by omega), List.getElem?_replicate]
    split <;> rfl
  · rename_i h
    obtain ⟨t, ht⟩ : ∃ t, F.top.toNat = F.vars.toNat + t := ⟨F.top.toNat - F.vars.toNat, by omega⟩
    have htn : t < F.nodes.length := by omega
    rw [ht, Nat.add_sub_cancel_left, ← belowL_set _ _ _ _ _ (Nat.le_refl _), ← markArgs_set]
    rw [belowL_down F.vars.toNat F.nodes t _ (fun i hi => by
      rw [List.getD_eq_getElem?_getD, List.getElem?_set_ne (by omega), List.getElem?_replicate]
      split <;> rfl) F.nodes.length htn]
    conv => rhs; unfold belowL
    rw [show ((List.replicate (F.vars.toNat + F.nodes.length) false).set (F.vars.toNat + t) true).getD (F.vars.toNat + t) false = true by
      rw [List.getD_eq_getElem?_getD, List.getElem?_set_self (by simp; omega)]; rfl]
    rfl
section
variable {F : Fm}
theorem Fm.under_args (hg : F.Good) {i : Nat} (hi : i < F.nodes.length) : ∀ a ∈ F.nodes[i].args, (F.under (F.vars.toNat + i)).getD a.toNat false = true := by
  intro a ha
  unfold Fm.under
  rw [if_neg (by omega), Nat.add_sub_cancel_left]
  refine belowL_mono _ _ _ _ _ ?_
  rw [markArgs_getD]
  have hlt := hg.argLt hi a ha
  rw [show F.nodes.getD i ⟨0, 0, []⟩ = F.nodes[i] from by simp [hi]]
  have : (F.nodes[i].args.any fun b => b.toNat == a.toNat) = true := by
    rw [List.any_eq_true]; exact ⟨a, ha, by simp⟩
  rw [this]
  simp
  right; omega
theorem Fm.under_lt (hg : F.Good) {arg j : Nat} (h : (F.under arg).getD j false = true) : j < arg := by
  unfold Fm.under at h
  split at h
  · rw [List.getD_eq_getElem?_getD, List.getElem?_replicate] at h
    split at h <;> simp at h
  · rename_i hv
    rcases Nat.lt_or_ge j arg with hlt | hge
    · exact hlt
    · rcases Nat.lt_or_ge (arg - F.vars.toNat) F.nodes.length with hn | hn
      · rw [belowL_same F.vars.toNat F.nodes (fun i h => hg.argLt h) (arg - F.vars.toNat) (by omega) _ j (by omega), markArgs_getD] at h
        rw [List.getD_eq_getElem?_getD, List.getElem?_replicate] at h
        rw [show F.nodes.getD (arg - F.vars.toNat) ⟨0, 0, []⟩ = F.nodes[arg - F.vars.toNat] from by simp [hn]] at h
        simp only [Bool.or_eq_true, Bool.and_eq_true, List.any_eq_true] at h
        rcases h with h | ⟨_, a, ha, hae⟩
        · split at h <;> simp at h
        · have := hg.argLt hn a ha
          simp at hae
          omega
      · have hl := belowL_length F.vars.toNat F.nodes (arg - F.vars.toNat) (markArgs (List.replicate (F.vars.toNat + F.nodes.length) false) (F.nodes.getD (arg - F.vars.toNat) ⟨0, 0, []⟩).args)
        rw [markArgs_length, List.length_replicate] at hl
        rw [List.getD_eq_getElem?_getD, List.getElem?_eq_none (by rw [hl]; omega)] at h
        simp at h
theorem Fm.under_bound {arg j : Nat} (h : (F.under arg).getD j false = true) : j < F.vars.toNat + F.nodes.length := by
  rcases Nat.lt_or_ge j (F.vars.toNat + F.nodes.length) with hl | hl
  · exact hl
  · rw [List.getD_eq_getElem?_getD, List.getElem?_eq_none (by rw [F.under_length]; exact hl)] at h
    simp at h
theorem Fm.under_closed (hg : F.Good) {i k : Nat} (hi : i < F.nodes.length) (hk : k < F.nodes.length) (h : (F.under (F.vars.toNat + i)).getD (F.vars.toNat + k) false = true) :
    ∀ a ∈ F.nodes[k].args, (F.under (F.vars.toNat + i)).getD a.toNat false = true := by
  have hlt := Fm.under_lt hg h
  unfold Fm.under at h ⊢
  rw [if_neg (by omega), Nat.add_sub_cancel_left] at h ⊢
  exact belowL_closed F.vars.toNat F.nodes (fun i h => hg.argLt h) i (by omega) _ (by rw [markArgs_length]; simp) k hk (by omega) h
theorem Fm.under_inv (hg : F.Good) {i j : Nat} (hi : i < F.nodes.length) (h : (F.under (F.vars.toNat + i)).getD j false = true) :
    (∃ a ∈ F.nodes[i].args, a.toNat = j) ∨ ∃ k, ∃ hk : k < F.nodes.length, (F.under (F.vars.toNat + i)).getD (F.vars.toNat + k) false = true ∧ ∃ a ∈ F.nodes[k].args, a.toNat = j := by
  unfold Fm.under at h ⊢
  rw [if_neg (by omega), Nat.add_sub_cancel_left] at h ⊢
  rcases belowL_inv F.vars.toNat F.nodes (fun i h => hg.argLt h) i (by omega) _ j (by rw [markArgs_length]; simp) h with h1 | h1
  · left
    rw [markArgs_getD, List.getD_eq_getElem?_getD, List.getElem?_replicate, show F.nodes.getD i ⟨0, 0, []⟩ = F.nodes[i] from by simp [hi]] at h1
    simp only [Bool.or_eq_true, Bool.and_eq_true, List.any_eq_true] at h1
    rcases h1 with h1 | ⟨_, a, ha, hae⟩
    · split at h1 <;> simp at h1
    · exact ⟨a, ha, by simpa using hae⟩
  · exact .inr h1
theorem Fm.under_ind (hg : F.Good) {i : Nat} (hi : i < F.nodes.length) (p : Nat → Prop) (h0 : ∀ a ∈ F.nodes[i].args, p a.toNat)
    (h1 : ∀ k (hk : k < F.nodes.length), (F.under (F.vars.toNat + i)).getD (F.vars.toNat + k) false = true → p (F.vars.toNat + k) → ∀ a ∈ F.nodes[k].args, p a.toNat) : ∀ j, (F.under (F.vars.toNat + i)).getD j false = true → p j := by
  suffices ∀ (c j : Nat), j + c = F.vars.toNat + F.nodes.length → (F.under (F.vars.toNat + i)).getD j false = true → p j by
    intro j hj
    have hb := Fm.under_bound hj
    exact this (F.vars.toNat + F.nodes.length - j) j (by omega) hj
  intro c
  induction c using Nat.strongRecOn with
  | _ c ih =>
    intro j hjc hj
    rcases Fm.under_inv hg hi hj with ⟨a, ha, rfl⟩ | ⟨k, hk, hm, a, ha, rfl⟩
    · exact h0 a ha
    · have hlt := hg.argLt hk a ha
      exact h1 k hk hm (ih (F.nodes.length - k) (by omega) (F.vars.toNat + k) (by omega) hm) a ha
theorem Fm.under_trans (hg : F.Good) {i k : Nat} (hi : i < F.nodes.length) (hk : k < F.nodes.length) (h : (F.under (F.vars.toNat + i)).getD (F.vars.toNat + k) false = true) :
    ∀ j, (F.under (F.vars.toNat + k)).getD j false = true → (F.under (F.vars.toNat + i)).getD j false = true :=
  Fm.under_ind hg hk (fun j => (F.under (F.vars.toNat + i)).getD j false = true) (Fm.under_closed hg hi hk h) (fun q hq _ h2 => Fm.under_closed hg hi hq h2)
theorem Fm.need_under (hg : F.Good) {i : Nat} (hi : i < F.nodes.length) (h : F.below.getD (F.vars.toNat + i) false = true) : ∀ j, (F.under (F.vars.toNat + i)).getD j false = true → F.below.getD j false = true :=
  Fm.under_ind hg hi (fun j => F.below.getD j false = true) (Fm.below_closed hg hi h) (fun q hq _ h2 => Fm.below_closed hg hq h2)
end
def Fm.modAt (F : Fm) (arg i : Nat) : Bool := !F.below.getD (F.vars.toNat + i) false || Nat.beq (F.vars.toNat + i) arg || (F.under arg).getD (F.vars.toNat + i) false || (F.nodes.getD i ⟨0, 0, []⟩).args.all (fun a => !(F.under arg).getD a.toNat false)
def Fm.isMod (F : Fm) (arg : Nat) : Bool := (F.under arg).any id && !(F.under arg).getD F.top.toNat false && (List.range F.nodes.length).all (F.modAt arg)
def Fm.findTo (F : Fm) (k : Nat) : List Nat := ((List.range k).filter (fun i => F.below.getD (F.vars.toNat + i) false && F.isMod (F.vars.toNat + i))).map (fun i => F.vars.toNat + i)
def Fm.find (F : Fm) : List Nat := F.findTo F.nodes.length
theorem Fm.findTo_succ (F : Fm) (k : Nat) : F.findTo (k + 1) = bif F.below.getD (F.vars.toNat + k) false && F.isMod (F.vars.toNat + k) then F.findTo k ++ [F.vars.toNat + k] else F.findTo k := by
  unfold Fm.findTo
  rw [List.range_succ, List.filter_append, List.map_append]
  cases h : (F.below.getD (F.vars.toNat + k) false && F.isMod (F.vars.toNat + k)) <;> simp only [List.filter_cons, List.filter_nil, h, if_true, Bool.false_eq_true, if_false, cond_true, cond_false, List.map_nil, List.append_nil, List.map_cons]
theorem Fm.findTo_le (F : Fm) (k : Nat) : (F.findTo k).length ≤ k := by
  unfold Fm.findTo
  rw [List.length_map]
  exact Nat.le_trans (List.length_filter_le _ _) (by simp)
theorem Fm.mem_find {F : Fm} {m : Nat} : m ∈ F.find ↔ ∃ i, i < F.nodes.length ∧ F.below.getD (F.vars.toNat + i) false = true ∧ F.isMod (F.vars.toNat + i) = true ∧ m = F.vars.toNat + i := by
  unfold Fm.find Fm.findTo
  simp only [List.mem_map, List.mem_filter, List.mem_range, Bool.and_eq_true]
  constructor
  · rintro ⟨i, ⟨h1, h2, h3⟩, rfl⟩; exact ⟨i, h1, h2, h3, rfl⟩
  · rintro ⟨i, h1, h2, h3, rfl⟩; exact ⟨i, ⟨h1, h2, h3⟩, rfl⟩
theorem Fm.find_sorted (F : Fm) : F.find.Pairwise (· < ·) := by
  unfold Fm.find Fm.findTo
  rw [List.pairwise_map]
  refine List.Pairwise.imp (R := (· < ·)) (fun h => by omega) (List.Pairwise.filter _ List.pairwise_lt_range)
def Fm.evs (F : Fm) (arg : Nat) : Nat := if arg < F.vars.toNat then 2 ^ arg else setOf (F.under arg) F.vars.toNat
theorem Fm.evs_lt {F : Fm} (arg : Nat) : F.evs arg < 2 ^ F.vars.toNat := by
  unfold Fm.evs
  split
  · exact Nat.pow_lt_pow_right (by decide) ‹_›
  · exact setOf_lt _ _
theorem any_take_succ {l : List Bool} {k : Nat} (hk : k < l.length) : (l.take (k + 1)).any id = ((l.take k).any id || l.getD k false) := by
  rw [List.take_succ_eq_append_getElem hk, List.any_append]
  simp [hk]
section
variable {F : Fm}
theorem law_nests (hg : F.Good) {m n : Nat} (hm : m ∈ F.find) (hn : n ∈ F.find) (hlt : n < m) : F.evs m &&& F.evs n = 0 ∨ F.evs m &&& F.evs n = F.evs n := by
  obtain ⟨i, hi, bi, mi, rfl⟩ := Fm.mem_find.1 hm
  obtain ⟨k, hk, bk, mk, rfl⟩ := Fm.mem_find.1 hn
  have evi : F.evs (F.vars.toNat + i) = setOf (F.under (F.vars.toNat + i)) F.vars.toNat := by unfold Fm.evs; rw [if_neg (by omega)]
  have evk : F.evs (F.vars.toNat + k) = setOf (F.under (F.vars.toNat + k)) F.vars.toNat := by unfold Fm.evs; rw [if_neg (by omega)]
  rw [evi, evk]
  cases hu : (F.under (F.vars.toNat + i)).getD (F.vars.toNat + k) false with
  | true =>
    right
    refine Nat.eq_of_testBit_eq fun j => ?_
    rw [Nat.testBit_and, setOf_testBit, setOf_testBit]
    cases hj : (F.under (F.vars.toNat + k)).getD j false with
    | false => simp
    | true => rw [Fm.under_trans hg hi hk hu j hj]; simp
  | false =>
    left
    have hall : ∀ q, q < F.nodes.length → F.modAt (F.vars.toNat + i) q = true := by
      intro q hq
      unfold Fm.isMod at mi
      simp only [Bool.and_eq_true] at mi
      exact List.all_eq_true.1 mi.2 q (List.mem_range.2 hq)
    have out : ∀ q (hq : q < F.nodes.length), F.below.getD (F.vars.toNat + q) false = true → q ≠ i → (F.under (F.vars.toNat + i)).getD (F.vars.toNat + q) false = false → ∀ a ∈ F.nodes[q].args, (F.under (F.vars.toNat + i)).getD a.toNat false = false := by
      intro q hq hb hne hf a ha
      have := hall q hq
      unfold Fm.modAt at this
      rw [hb, hf, show F.nodes.getD q ⟨0, 0, []⟩ = F.nodes[q] from by simp [hq]] at this
      have hbq : Nat.beq (F.vars.toNat + q) (F.vars.toNat + i) = false := by
        cases h : Nat.beq (F.vars.toNat + q) (F.vars.toNat + i) with
        | false => rfl
        | true => exact absurd (Nat.eq_of_beq_eq_true h) (by omega)
      rw [hbq] at this
      simp only [Bool.not_true, Bool.false_or, Bool.or_false] at this
      have := List.all_eq_true.1 this a ha
      simpa using this
    have key : ∀ j, (F.under (F.vars.toNat + k)).getD j false = true → (F.under (F.vars.toNat + i)).getD j false = false ∧ F.below.getD j false = true := by
      refine Fm.under_ind hg hk (fun j => (F.under (F.vars.toNat + i)).getD j false = false ∧ F.below.getD j false = true) (fun a ha => ⟨out k hk bk (by omega) hu a ha, Fm.below_closed hg hk bk a ha⟩) ?_
      intro q hq hm hp a ha
      have := Fm.under_lt hg hm
      exact ⟨out q hq hp.2 (by omega) hp.1 a ha, Fm.below_closed hg hq hp.2 a ha⟩
    refine Nat.eq_of_testBit_eq fun j => ?_
    rw [Nat.testBit_and, setOf_testBit, setOf_testBit, Nat.zero_testBit]
    cases hj : (F.under (F.vars.toNat + k)).getD j false with
    | false => simp
    | true => rw [(key j hj).1]; simp
theorem law_topmod (hg : F.Good) (h : F.vars ≤ F.top) (ha : (F.nodes.getD (F.top - F.vars).toNat ⟨0, 0, []⟩).args ≠ []) : F.top.toNat ∈ F.find := by
  have gt := hg.topLt; have g0 := hg.v0
  obtain ⟨t, ht⟩ : ∃ t, F.top.toNat = F.vars.toNat + t := ⟨F.top.toNat - F.vars.toNat, by omega⟩
  have htn : t < F.nodes.length := by omega
  rw [show (F.top - F.vars).toNat = t by omega, show F.nodes.getD t ⟨0, 0, []⟩ = F.nodes[t] from by simp [htn]] at ha
  refine Fm.mem_find.2 ⟨t, htn, by rw [← ht]; exact Fm.below_top hg, ?_, ht⟩
  unfold Fm.isMod
  simp only [Bool.and_eq_true]
  refine ⟨⟨?_, ?_⟩, ?_⟩
  · rw [List.any_eq_true]
    obtain ⟨a, r, hr⟩ := List.exists_cons_of_ne_nil ha
    have h1 := Fm.under_args hg htn a (by rw [hr]; simp)
    rw [List.getD_eq_getElem?_getD] at h1
    cases h2 : (F.under (F.vars.toNat + t))[a.toNat]? with
    | none => rw [h2] at h1; simp at h1
    | some b => rw [h2] at h1; simp at h1; subst h1; exact ⟨true, List.mem_of_getElem? h2, rfl⟩
  · cases hu : (F.under (F.vars.toNat + t)).getD F.top.toNat false with
    | false => rfl
    | true => exact absurd (Fm.under_lt hg hu) (by omega)
  · rw [List.all_eq_true]
    intro q hq
    unfold Fm.modAt
    cases hb : F.below.getD (F.vars.toNat + q) false with
    | false => simp
    | true =>
      by_cases e : q = t
      · subst e; simp
      · have : (F.under (F.vars.toNat + t)).getD (F.vars.toNat + q) false = true := by
          have h2 := hb
          rw [← Fm.needed_eq hg, ht, List.getD_eq_getElem?_getD, List.getElem?_set_ne (by omega), ← List.getD_eq_getElem?_getD] at h2
          exact h2
        rw [this]; simp
end
end Go.GL
