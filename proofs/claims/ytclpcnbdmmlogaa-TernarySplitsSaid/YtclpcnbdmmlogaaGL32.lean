import Derived.Test.YtclpcnbdmmlogaaGL31
namespace Go.GL
set_option linter.unusedVariables false
set_option linter.unusedSimpArgs false
section
variable {F : Fm}
theorem Fm.below_ind (hg : F.Good) (p : Nat → Prop) (h0 : p F.top.toNat)
    (h1 : ∀ k (hk : k < F.nodes.length), F.below.getD (F.vars.toNat + k) false = true → p (F.vars.toNat + k) → ∀ a ∈ F.nodes[k].args, p a.toNat) : ∀ j, F.below.getD j false = true → p j := by
  suffices ∀ (c j : Nat), j + c = F.vars.toNat + F.nodes.length → F.below.getD j false = true → p j by
    intro j hj
    have hb := Fm.below_lt hj
    exact this (F.vars.toNat + F.nodes.length - j) j (by omega) hj
  intro c
  induction c using Nat.strongRecOn with
  | _ c ih =>
    intro j hjc hj
    rcases Fm.below_inv hg hj with rfl | ⟨k, hk, hm, a, ha, rfl⟩
    · exact h0
    · have hlt := hg.argLt hk a ha
      exact h1 k hk hm (ih (F.nodes.length - k) (by omega) (F.vars.toNat + k) (by omega) hm) a ha
def Fm.cutAt (F : Fm) (i : Nat) : Fm := ⟨F.vars, F.nodes.set i ⟨0, 0, []⟩, F.top⟩
theorem Fm.cutAt_good (hg : F.Good) (i : Nat) : (F.cutAt i).Good := by
  refine ⟨hg.v0, hg.v1, by simpa [Fm.cutAt] using hg.n1, fun k hk => ?_, ?_⟩
  · simp only [Fm.cutAt, List.length_set] at hk ⊢
    rw [List.getElem_set]
    split
    · have := hg.v0
      exact nodeErr_none.2 ⟨by decide, by decide, rfl, by simp, by simp⟩
    · exact hg.node k hk
  · have := hg.top
    unfold Fm.valid Fm.cutAt at *
    simpa using this
theorem Fm.isMod_all (hg : F.Good) {i : Nat} (hm : F.isMod (F.vars.toNat + i) = true) (q : Nat) (hq : q < F.nodes.length) (hb : F.below.getD (F.vars.toNat + q) false = true) (hne : q ≠ i)
    (hf : (F.under (F.vars.toNat + i)).getD (F.vars.toNat + q) false = false) : ∀ a ∈ F.nodes[q].args, (F.under (F.vars.toNat + i)).getD a.toNat false = false := by
  intro a ha
  unfold Fm.isMod at hm
  simp only [Bool.and_eq_true] at hm
  have := List.all_eq_true.1 hm.2 q (List.mem_range.2 hq)
  unfold Fm.modAt at this
  rw [hb, hf, show F.nodes.getD q ⟨0, 0, []⟩ = F.nodes[q] from by simp [hq]] at this
  have hbq : Nat.beq (F.vars.toNat + q) (F.vars.toNat + i) = false := by
    cases h : Nat.beq (F.vars.toNat + q) (F.vars.toNat + i) with
    | false => rfl
    | true => exact absurd (Nat.eq_of_beq_eq_true h) (by omega)
  rw [hbq] at this
  simp only [Bool.not_true, Bool.false_or, Bool.or_false] at this
  have := List.all_eq_true.1 this a ha
  simpa using this
theorem Fm.isMod_top {m : Nat} (hm : F.isMod m = true) : (F.under m).getD F.top.toNat false = false := by
  unfold Fm.isMod at hm
  simp only [Bool.and_eq_true] at hm
  simpa using hm.1.2
theorem law_apart (hg : F.Good) {i : Nat} (hi : i < F.nodes.length) (hm : F.vars.toNat + i ∈ F.find) : (F.cutAt i).support &&& F.evs (F.vars.toNat + i) = 0 := by
  have hgc := Fm.cutAt_good hg i
  obtain ⟨i', _, bi, mi, he⟩ := Fm.mem_find.1 hm
  obtain rfl : i = i' := by omega
  have evi : F.evs (F.vars.toNat + i) = setOf (F.under (F.vars.toNat + i)) F.vars.toNat := by unfold Fm.evs; rw [if_neg (by omega)]
  have key : ∀ j, (F.cutAt i).below.getD j false = true → (F.under (F.vars.toNat + i)).getD j false = false ∧ F.below.getD j false = true := by
    refine Fm.below_ind hgc (fun j => (F.under (F.vars.toNat + i)).getD j false = false ∧ F.below.getD j false = true) ⟨Fm.isMod_top mi, Fm.below_top hg⟩ ?_
    intro k hk hb hp a ha
    have hk' : k < F.nodes.length := by simpa [Fm.cutAt] using hk
    simp only [Fm.cutAt, List.getElem_set] at ha
    split at ha
    · simp at ha
    · rename_i hne
      exact ⟨Fm.isMod_all hg mi k hk' hp.2 (fun e => hne e.symm) hp.1 a ha, Fm.below_closed hg hk' hp.2 a ha⟩
  rw [evi]
  refine Nat.eq_of_testBit_eq fun j => ?_
  unfold Fm.support
  rw [Nat.testBit_and, setOf_testBit, setOf_testBit, Nat.zero_testBit]
  cases hj : (F.cutAt i).below.getD j false with
  | false => simp
  | true => rw [(key j hj).1]; simp
end
theorem setL_at : ∀ (cs ds es fs : List Value), ds.length = fs.length → setL (cs ++ (ds ++ es)) cs.length fs = cs ++ (fs ++ es)
  | cs, ds, es, [], h => by
    have : ds = [] := List.eq_nil_of_length_eq_zero (by simpa using h)
    subst this; rfl
  | cs, d :: ds, es, f :: fs, h => by
    have := setL_at (cs ++ [f]) ds es fs (by simpa using h)
    simp only [setL]
    rw [show (cs ++ (d :: ds ++ es)).set cs.length f = (cs ++ [f]) ++ (ds ++ es) by simp, show cs.length + 1 = (cs ++ [f]).length by simp, this]
    simp
  | cs, [], es, f :: fs, h => by simp at h
theorem nsCells_set : ∀ (ns : List Nd) (qs : List SA) (i : Nat) (d : Nd) (q : SA), qs.length = ns.length → i < ns.length → nsCells (ns.set i d) (qs.set i q) = setL (nsCells ns qs) (i * 3) (ndCells d q)
  | [], _, i, d, q, _, hi => by simp at hi
  | d' :: r, [], i, d, q, h, _ => by simp at h
  | d' :: r, q' :: s, 0, d, q, _, _ => by
    have := setL_at [] (ndCells d' q') (nsCells r s) (ndCells d q) (by simp [ndCells])
    simpa [nsCells] using this.symm
  | d' :: r, q' :: s, i + 1, d, q, h, hi => by
    have ih := nsCells_set r s i d q (by simpa using h) (by simpa using hi)
    have hsplit : ∀ (cs xs fs : List Value) (j : Nat), setL (cs ++ xs) (cs.length + j) fs = cs ++ setL xs j fs := by
      intro cs xs fs
      induction fs generalizing xs with
      | nil => intro j; rfl
      | cons f fs ihf =>
        intro j
        simp only [setL]
        rw [List.set_append_right _ _ (by omega), Nat.add_sub_cancel_left, Nat.add_assoc, ihf]
    simp only [List.set_cons_succ, nsCells]
    rw [ih, show (i + 1) * 3 = (ndCells d' q').length + i * 3 by simp [ndCells]; omega, hsplit]
theorem ArgsIn.set {H : List Ent} {ns : List Nd} {qs : List SA} {i : Nat} {d : Nd} {q : SA} (h : ArgsIn H ns qs) (hd : RInts H q.1 q.2.1 d.args q.2.2.2) : ArgsIn H (ns.set i d) (qs.set i q) := by
  refine ⟨by simp [h.1], fun k d' q' h1 h2 => ?_⟩
  rw [List.getElem?_set] at h1 h2
  by_cases e : i = k
  · subst e
    rw [if_pos rfl] at h1 h2
    split at h1
    · split at h2
      · simp at h1 h2; subst h1 h2; exact hd
      · simp at h2
    · simp at h1
  · rw [if_neg e] at h1 h2
    exact h.2 k d' q' h1 h2
end Go.GL
