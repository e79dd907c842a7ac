import Derived.Test.YtbpjjepiblomaaaGL54
namespace Go.GL
set_option linter.unusedVariables false
set_option linter.unusedSimpArgs false
section
variable {F : Fm}
theorem cutK_in (hg : F.Good) (t : Nat) : ∀ k, k ≤ F.nodes.length → (F.cutK t k).1.1 = ((F.at t).trS k).1 ∧ (F.cutK t k).2.1 = ((F.at t).trS k).2
  | 0, _ => ⟨rfl, rfl⟩
  | k + 1, hk => by
    obtain ⟨h1, h2⟩ := cutK_in hg t k (by omega)
    have hkn : k < F.nodes.length := by omega
    have hgd : F.nodes.getD k ⟨0, 0, []⟩ = F.nodes[k] := by simp [hkn]
    have hst : F.cutK t (k + 1) = (bif (F.part t).getD (F.vars.toNat + k) false then cutIn F.vars.toNat F.nodes[k] k (F.cutK t k) else bif F.below.getD (F.vars.toNat + k) false then cutOut F.vars.toNat F.nodes[k] k (F.cutK t k) else F.cutK t k) := by
      unfold Fm.cutK; rw [cutS, hgd]
    have htr : (F.at t).trS (k + 1) = (bif (F.part t).getD (F.vars.toNat + k) false then (((F.at t).trS k).1.set (F.vars.toNat + k) (F.vars.toNat + ((F.at t).trS k).2.length), ((F.at t).trS k).2 ++ [trN ((F.at t).trS k).1 F.nodes[k]]) else (F.at t).trS k) := (F.at t).trS_succ hkn
    rw [hst, htr]
    cases hp : (F.part t).getD (F.vars.toNat + k) false with
    | true =>
      simp only [cond_true, cutIn]
      rw [h1, h2]
      refine ⟨rfl, congrArg (fun z => _ ++ [z]) ?_⟩
      unfold trN
      refine congrArg _ (trA_congr fun a ha => ?_)
      have := hg.argLt hkn a ha
      rw [getD_setNe (by omega)]
    | false =>
      simp only [cond_false]
      cases F.below.getD (F.vars.toNat + k) false <;> simp only [cond_true, cond_false, cutOut] <;> exact ⟨h1, h2⟩
theorem inner_trim (hg : F.Good) (t : Nat) : F.inner t = (F.at t).trim := by
  obtain ⟨h1, h2⟩ := cutK_in hg t F.nodes.length (Nat.le_refl _)
  unfold Fm.inner Fm.trim
  rw [h1, h2]
  rfl
def shT (v n t : Nat) : List Nat := (List.range (v + n)).map (fun j => if j < v then j else if j = t then v else j + 1)
theorem shT_getD {v n t j : Nat} (h : j < v + n) : (shT v n t).getD j 0 = if j < v then j else if j = t then v else j + 1 := by
  unfold shT
  simp [h]
def Fm.shift (F : Fm) (t : Nat) : Fm := ⟨F.vars + 1, F.nodes.map (trN (shT F.vars.toNat F.nodes.length t)), (((shT F.vars.toNat F.nodes.length t).getD F.top.toNat 0 : Nat) : Int)⟩
theorem shift_good (hg : F.Good) (h24 : F.vars < 24) (t : Nat) : (F.shift t).Good := by
  have g0 := hg.v0; have gt := hg.topLt
  refine ⟨by unfold Fm.shift; simp only; omega, by unfold Fm.shift; simp only; omega, by unfold Fm.shift; simpa using hg.n1, fun k hk => ?_, ?_⟩
  · unfold Fm.shift at hk ⊢
    simp only [List.length_map] at hk
    simp only [List.getElem_map]
    have f := hg.fits k hk
    refine nodeErr_none.2 ⟨f.k0, f.k1, by simpa [trN, trA_length] using f.ar, ?_, by simpa [trN, trA_length] using f.kk⟩
    intro a ha
    simp only [trN, trA, List.mem_map] at ha
    obtain ⟨b, hb, rfl⟩ := ha
    have hb' := f.args b hb
    rw [shT_getD (by omega)]
    split
    · omega
    · split <;> omega
  · unfold Fm.valid Fm.shift
    simp only [List.length_map]
    rw [shT_getD (by omega)]
    simp
    split
    · omega
    · split <;> omega
theorem shift_vars (t : Nat) (hg : F.Good) : (F.shift t).vars.toNat = F.vars.toNat + 1 := by
  have := hg.v0
  unfold Fm.shift
  simp only
  omega
theorem shift_len (t : Nat) : (F.shift t).nodes.length = F.nodes.length := by simp [Fm.shift]
theorem shift_node (t : Nat) {k : Nat} (hk : k < F.nodes.length) (hk' : k < (F.shift t).nodes.length) : (F.shift t).nodes[k] = trN (shT F.vars.toNat F.nodes.length t) F.nodes[k] := by
  simp only [Fm.shift, List.getElem_map]
theorem shift_sub (hg : F.Good) (h24 : F.vars < 24) {q : Nat} (hq : q < F.nodes.length) (hm : F.isMod (F.vars.toNat + q) = true) :
    ∀ j, (F.shift (F.vars.toNat + q)).below.getD j false = true → j = F.vars.toNat ∨ ∃ i, i < F.vars.toNat + F.nodes.length ∧ F.below.getD i false = true ∧ (F.under (F.vars.toNat + q)).getD i false = false ∧ i ≠ F.vars.toNat + q ∧ j = if i < F.vars.toNat then i else i + 1 := by
  have g0 := hg.v0; have gt := hg.topLt
  have hvs := shift_vars (F.vars.toNat + q) hg
  have step : ∀ i, i < F.vars.toNat + F.nodes.length → F.below.getD i false = true → (F.under (F.vars.toNat + q)).getD i false = false →
      (shT F.vars.toNat F.nodes.length (F.vars.toNat + q)).getD i 0 = F.vars.toNat ∨ ∃ i', i' < F.vars.toNat + F.nodes.length ∧ F.below.getD i' false = true ∧ (F.under (F.vars.toNat + q)).getD i' false = false ∧ i' ≠ F.vars.toNat + q ∧ (shT F.vars.toNat F.nodes.length (F.vars.toNat + q)).getD i 0 = if i' < F.vars.toNat then i' else i' + 1 := by
    intro i hi hb hu
    rw [shT_getD hi]
    by_cases e : i = F.vars.toNat + q
    · subst e
      rw [if_neg (by omega), if_pos rfl]; exact .inl rfl
    · refine .inr ⟨i, hi, hb, hu, e, ?_⟩
      by_cases hv : i < F.vars.toNat
      · rw [if_pos hv, if_pos hv]
      · rw [if_neg hv, if_neg e, if_neg hv]
  refine Fm.below_ind' (shift_good hg h24 _) _ ?_ ?_
  · have := step F.top.toNat (by omega) (Fm.below_top hg) (Fm.isMod_top hm)
    unfold Fm.shift
    simp only [Int.toNat_natCast]
    exact this
  · intro k hk' hp a ha
    have hk : k < F.nodes.length := by have h := hk'; rw [shift_len] at h; exact h
    rw [hvs] at hp
    have hpp : ∃ i, i < F.vars.toNat + F.nodes.length ∧ F.below.getD i false = true ∧ (F.under (F.vars.toNat + q)).getD i false = false ∧ i ≠ F.vars.toNat + q ∧ F.vars.toNat + 1 + k = if i < F.vars.toNat then i else i + 1 := by
      rcases hp with h | h
      · omega
      · exact h
    obtain ⟨i, hi, hb, hu, hne, he⟩ := hpp
    have hik : i = F.vars.toNat + k := by
      split at he <;> omega
    subst hik
    rw [shift_node _ hk hk'] at ha
    obtain ⟨b, hb', rfl⟩ := List.mem_map.1 ha
    rw [Int.toNat_natCast]
    have hlt := hg.argLt hk b hb'
    exact step b.toNat (by omega) (Fm.below_closed hg hk hb b hb') (Fm.isMod_all hg hm k hk hb (by omega) hu b hb')
theorem shift_sup (hg : F.Good) (h24 : F.vars < 24) {q : Nat} (hq : q < F.nodes.length) : ∀ (c j : Nat), j + c = F.vars.toNat + F.nodes.length → F.below.getD j false = true → (F.part (F.vars.toNat + q)).getD j false = false → (F.shift (F.vars.toNat + q)).below.getD (if j < F.vars.toNat then j else j + 1) false = true := by
  have g0 := hg.v0; have gt := hg.topLt
  have hvs := shift_vars (F.vars.toNat + q) hg
  have hsh : ∀ i, i < F.vars.toNat + F.nodes.length → (F.part (F.vars.toNat + q)).getD i false = false → (shT F.vars.toNat F.nodes.length (F.vars.toNat + q)).getD i 0 = if i < F.vars.toNat then i else i + 1 := by
    intro i hi hp
    rw [shT_getD hi]
    split
    · rfl
    · rw [if_neg]
      rintro rfl
      rw [Fm.part_getD hg (by omega)] at hp
      simp at hp
  intro c
  induction c using Nat.strongRecOn with
  | _ c ih =>
    intro j hjc hj hp
    rcases Fm.below_inv hg hj with rfl | ⟨k, hk, hm, a, ha, rfl⟩
    · have e : (F.shift (F.vars.toNat + q)).top.toNat = if F.top.toNat < F.vars.toNat then F.top.toNat else F.top.toNat + 1 := by
        rw [← hsh _ (by omega) hp]
        rfl
      rw [← e]
      exact Fm.below_top (shift_good hg h24 (F.vars.toNat + q))
    · have hlt := hg.argLt hk a ha
      have hpk : (F.part (F.vars.toNat + q)).getD (F.vars.toNat + k) false = false := by
        cases h : (F.part (F.vars.toNat + q)).getD (F.vars.toNat + k) false with
        | false => rfl
        | true => rw [Fm.part_closed hg hq hk h a ha] at hp; cases hp
      have h1 := ih (F.nodes.length - k) (by omega) (F.vars.toNat + k) (by omega) hm hpk
      rw [if_neg (by omega)] at h1
      have hk' : k < (F.shift (F.vars.toNat + q)).nodes.length := by rw [shift_len]; exact hk
      have h2 := Fm.below_closed (shift_good hg h24 (F.vars.toNat + q)) hk' (by rw [hvs, show F.vars.toNat + 1 + k = F.vars.toNat + k + 1 by omega]; exact h1) (((shT F.vars.toNat F.nodes.length (F.vars.toNat + q)).getD a.toNat 0 : Nat) : Int) (by
        rw [shift_node _ hk hk']
        exact List.mem_map.2 ⟨a, ha, rfl⟩)
      rw [Int.toNat_natCast, hsh _ (by omega) hp] at h2
      exact h2
theorem shift_keep (hg : F.Good) (h24 : F.vars < 24) {q : Nat} (hq : q < F.nodes.length) (hm : F.isMod (F.vars.toNat + q) = true) {k : Nat} (hk : k < F.nodes.length) :
    (F.shift (F.vars.toNat + q)).below.getD (F.vars.toNat + 1 + k) false = (F.below.getD (F.vars.toNat + k) false && !(F.part (F.vars.toNat + q)).getD (F.vars.toNat + k) false) := by
  rw [Bool.eq_iff_iff]
  constructor
  · intro h
    rcases shift_sub hg h24 hq hm _ h with e | ⟨i, hi, hb, hu, hne, he⟩
    · omega
    · have : i = F.vars.toNat + k := by split at he <;> omega
      subst this
      rw [hb, Fm.part_getD hg (by omega), hu, decide_eq_false hne]; rfl
  · intro h
    simp only [Bool.and_eq_true, Bool.not_eq_true'] at h
    have := shift_sup hg h24 hq (F.nodes.length - k) (F.vars.toNat + k) (by omega) h.1 h.2
    rw [if_neg (by omega)] at this
    rwa [show F.vars.toNat + 1 + k = F.vars.toNat + k + 1 by omega]
theorem cutK_out (hg : F.Good) (h24 : F.vars < 24) {q : Nat} (hq : q < F.nodes.length) (hm : F.isMod (F.vars.toNat + q) = true) : ∀ k, k ≤ F.nodes.length →
    (F.cutK (F.vars.toNat + q) k).2.2 = ((F.shift (F.vars.toNat + q)).trS k).2 ∧
    (∀ j, j < F.vars.toNat + k → F.below.getD j false = true → (F.under (F.vars.toNat + q)).getD j false = false →
      (F.cutK (F.vars.toNat + q) k).1.2.getD j 0 = ((F.shift (F.vars.toNat + q)).trS k).1.getD ((shT F.vars.toNat F.nodes.length (F.vars.toNat + q)).getD j 0) 0)
  | 0, _ => by
    have g0 := hg.v0
    have hvs := shift_vars (F.vars.toNat + q) hg
    refine ⟨rfl, fun j hj _ _ => ?_⟩
    rw [shT_getD (by omega), if_pos (by omega)]
    have e1 : (F.cutK (F.vars.toNat + q) 0).1.2 = tab0 F.vars.toNat F.nodes.length := rfl
    have e2 : ((F.shift (F.vars.toNat + q)).trS 0).1 = tab0 (F.vars.toNat + 1) F.nodes.length := by unfold Fm.trS trS tab0; rw [hvs, shift_len]
    rw [e1, e2, tab0_event (by omega), tab0_event (by omega)]
  | k + 1, hk => by
    obtain ⟨h1, h2⟩ := cutK_out hg h24 hq hm k (by omega)
    have g0 := hg.v0
    have hvs := shift_vars (F.vars.toNat + q) hg
    have hkn : k < F.nodes.length := by omega
    have hl := cutS_len (P := F.part (F.vars.toNat + q)) (B := F.below) (v := F.vars.toNat) (nodes := F.nodes) k
    have hsl := (F.shift (F.vars.toNat + q)).trS_len k
    rw [hvs, shift_len] at hsl
    have hgd : F.nodes.getD k ⟨0, 0, []⟩ = F.nodes[k] := by simp [hkn]
    have hst : F.cutK (F.vars.toNat + q) (k + 1) = (bif (F.part (F.vars.toNat + q)).getD (F.vars.toNat + k) false then cutIn F.vars.toNat F.nodes[k] k (F.cutK (F.vars.toNat + q) k) else bif F.below.getD (F.vars.toNat + k) false then cutOut F.vars.toNat F.nodes[k] k (F.cutK (F.vars.toNat + q) k) else F.cutK (F.vars.toNat + q) k) := by
      unfold Fm.cutK; rw [cutS, hgd]
    have hk' : k < (F.shift (F.vars.toNat + q)).nodes.length := by rw [shift_len]; exact hkn
    have htr := (F.shift (F.vars.toNat + q)).trS_succ hk'
    have hnd : (F.shift (F.vars.toNat + q)).nodes[k] = trN (shT F.vars.toNat F.nodes.length (F.vars.toNat + q)) F.nodes[k] := shift_node _ hkn hk'
    rw [hvs, shift_keep hg h24 hq hm hkn, hnd] at htr
    have hpg := Fm.part_getD hg (t := F.vars.toNat + q) (by omega) (F.vars.toNat + k)
    rw [hst, htr]
    have hshne : ∀ j, j < F.vars.toNat + k → (shT F.vars.toNat F.nodes.length (F.vars.toNat + q)).getD j 0 ≠ F.vars.toNat + 1 + k := fun j hj => by
      rw [shT_getD (by omega)]
      split
      · omega
      · split <;> omega
    cases hp : (F.part (F.vars.toNat + q)).getD (F.vars.toNat + k) false with
    | true =>
      simp only [Bool.not_true, Bool.and_false, cond_true, cond_false, cutIn]
      refine ⟨h1, fun j hj hb hu => ?_⟩
      by_cases e : j = F.vars.toNat + k
      · subst e
        rw [hp, hu, Bool.or_false] at hpg
        have hkq : k = q := by have := of_decide_eq_true hpg.symm; omega
        subst hkq
        rw [getD_setEq (by unfold Fm.cutK; omega), shT_getD (by omega), if_neg (by omega), if_pos rfl]
        have := (F.shift (F.vars.toNat + k)).trS_stab (k := 0) (K := k) (Nat.zero_le _) (by rw [shift_len]; omega) (j := F.vars.toNat) (by rw [hvs]; omega)
        rw [this]
        have e2 : ((F.shift (F.vars.toNat + k)).trS 0).1 = tab0 (F.vars.toNat + 1) F.nodes.length := by unfold Fm.trS trS tab0; rw [hvs, shift_len]
        rw [e2, tab0_event (by omega)]
      · rw [getD_setNe e]
        exact h2 j (by omega) hb hu
    | false =>
      rw [hp] at hpg
      have hne : k ≠ q := by
        rintro rfl
        simp at hpg
      have huk : (F.under (F.vars.toNat + q)).getD (F.vars.toNat + k) false = false := by
        cases h : (F.under (F.vars.toNat + q)).getD (F.vars.toNat + k) false with
        | false => rfl
        | true => rw [h, Bool.or_true] at hpg; cases hpg
      cases hb : F.below.getD (F.vars.toNat + k) false with
      | true =>
        simp only [Bool.not_false, Bool.and_true, cond_true, cond_false, cutOut]
        have hall := Fm.isMod_all hg hm k hkn hb hne huk
        have hbc := Fm.below_closed hg hkn hb
        refine ⟨?_, fun j hj hbj hu => ?_⟩
        · rw [h1]
          refine congrArg (fun z => _ ++ [z]) ?_
          unfold trN
          refine congrArg _ ?_
          unfold trA
          rw [List.map_map]
          refine List.map_congr_left fun a ha => ?_
          have hlt := hg.argLt hkn a ha
          simp only [Function.comp, Int.toNat_natCast]
          rw [getD_setNe (by omega), h2 _ hlt (hbc a ha) (hall a ha)]
        · by_cases e : j = F.vars.toNat + k
          · subst e
            rw [getD_setEq (by unfold Fm.cutK; omega), shT_getD (by omega), if_neg (by omega), if_neg (by omega), h1]
            rw [show F.vars.toNat + k + 1 = F.vars.toNat + 1 + k by omega, getD_setEq (by omega)]
          · rw [getD_setNe e, getD_setNe (hshne j (by omega))]
            exact h2 j (by omega) hbj hu
      | false =>
        simp only [Bool.false_and, cond_false]
        refine ⟨h1, fun j hj hbj hu => ?_⟩
        have e : j ≠ F.vars.toNat + k := by
          rintro rfl
          rw [hb] at hbj; cases hbj
        exact h2 j (by omega) hbj hu
theorem outer_trim (hg : F.Good) (h24 : F.vars < 24) {q : Nat} (hq : q < F.nodes.length) (hm : F.isMod (F.vars.toNat + q) = true) : F.outer (F.vars.toNat + q) = (F.shift (F.vars.toNat + q)).trim := by
  obtain ⟨h1, h2⟩ := cutK_out hg h24 hq hm F.nodes.length (Nat.le_refl _)
  have g0 := hg.v0; have gt := hg.topLt
  unfold Fm.outer Fm.trim
  rw [h1, h2 F.top.toNat (by omega) (Fm.below_top hg) (Fm.isMod_top hm), shift_len]
  unfold Fm.shift
  simp only [Int.toNat_natCast]
theorem shift_val (hg : F.Good) (h24 : F.vars < 24) {q : Nat} (hq : q < F.nodes.length) (hm : F.isMod (F.vars.toNat + q) = true) {x y : Int} (h : ∀ e, e < F.vars.toNat → bitB y e = bitB x e) (hv : bitB y F.vars.toNat = F.val x (F.vars.toNat + q)) :
    ∀ j, F.below.getD j false = true → (F.under (F.vars.toNat + q)).getD j false = false → (F.shift (F.vars.toNat + q)).val y ((shT F.vars.toNat F.nodes.length (F.vars.toNat + q)).getD j 0) = F.val x j := by
  have hvs := shift_vars (F.vars.toNat + q) hg
  have hgs := shift_good hg h24 (F.vars.toNat + q)
  intro j
  induction j using Nat.strongRecOn with
  | _ j ih =>
    intro hb hu
    have hlt := Fm.below_lt hb
    rw [shT_getD hlt]
    rcases Nat.lt_or_ge j F.vars.toNat with hj | hj
    · rw [if_pos hj, F.val_event x hj, Fm.val_event _ y (by rw [hvs]; omega), h j hj]
    · rw [if_neg (by omega)]
      by_cases e : j = F.vars.toNat + q
      · subst e
        rw [if_pos rfl, Fm.val_event _ y (by rw [hvs]; omega), hv]
      · rw [if_neg e]
        obtain ⟨k, rfl⟩ : ∃ k, j = F.vars.toNat + k := ⟨j - F.vars.toNat, by omega⟩
        have hk : k < F.nodes.length := by omega
        have hk' : k < (F.shift (F.vars.toNat + q)).nodes.length := by rw [shift_len]; exact hk
        have hn := Fm.val_node hgs y hk'
        rw [hvs] at hn
        rw [show F.vars.toNat + k + 1 = F.vars.toNat + 1 + k by omega, hn, Fm.val_node hg x hk]
        have hnd : (F.shift (F.vars.toNat + q)).nodes[k] = trN (shT F.vars.toNat F.nodes.length (F.vars.toNat + q)) F.nodes[k] := shift_node _ hk hk'
        rw [hnd]
        have hall := Fm.isMod_all hg hm k hk hb (by omega) hu
        have hbc := Fm.below_closed hg hk hb
        have hc : cntOf ((F.shift (F.vars.toNat + q)).val y) (trN (shT F.vars.toNat F.nodes.length (F.vars.toNat + q)) F.nodes[k]).args = cntOf (F.val x) F.nodes[k].args := by
          unfold cntOf trN trA
          simp only [List.countP_map]
          refine List.countP_congr fun a ha => ?_
          simp only [Function.comp, Int.toNat_natCast]
          rw [ih a.toNat (hg.argLt hk a ha) (hbc a ha) (hall a ha)]
        rw [hc]
        unfold nodeVal trN
        simp [trA_length]
end
section
variable {F : Fm}
theorem outer_good (hg : F.Good) (h24 : F.vars < 24) {q : Nat} (hq : q < F.nodes.length) (hm : F.isMod (F.vars.toNat + q) = true) : (F.outer (F.vars.toNat + q)).Good := by
  rw [outer_trim hg h24 hq hm]; exact Fm.trim_good (shift_good hg h24 _)
theorem inner_good (hg : F.Good) {q : Nat} (hq : q < F.nodes.length) : (F.inner (F.vars.toNat + q)).Good := by
  rw [inner_trim hg]; exact Fm.trim_good (Fm.at_good hg (by omega))
theorem inner_value (hg : F.Good) {q : Nat} (hq : q < F.nodes.length) (x : Int) : (F.inner (F.vars.toNat + q)).value x = F.val x (F.vars.toNat + q) := by
  rw [inner_trim hg, Fm.trim_value (Fm.at_good hg (by omega))]
  rfl
theorem outer_value (hg : F.Good) (h24 : F.vars < 24) {q : Nat} (hq : q < F.nodes.length) (hm : F.isMod (F.vars.toNat + q) = true) {x y : Int} (h : ∀ e, e < F.vars.toNat → bitB y e = bitB x e) (hv : bitB y F.vars.toNat = F.val x (F.vars.toNat + q)) :
    (F.outer (F.vars.toNat + q)).value y = F.value x := by
  rw [outer_trim hg h24 hq hm, Fm.trim_value (shift_good hg h24 _), Fm.value_eq, Fm.value_eq]
  have := shift_val hg h24 hq hm h hv F.top.toNat (Fm.below_top hg) (Fm.isMod_top hm)
  rw [← this]
  unfold Fm.shift
  simp only [Int.toNat_natCast]
theorem inner_support (hg : F.Good) {q : Nat} (hq : q < F.nodes.length) : (F.inner (F.vars.toNat + q)).support = F.evs (F.vars.toNat + q) := by
  rw [inner_trim hg, Fm.trim_support (Fm.at_good hg (by omega))]
  unfold Fm.evs
  rw [if_neg (by omega)]
  unfold Fm.support
  refine setOf_congr _ fun i hi => ?_
  have := Fm.part_getD hg (t := F.vars.toNat + q) (by omega) i
  rw [decide_eq_false (by have : i < F.vars.toNat := hi
                          omega), Bool.false_or] at this
  exact this
theorem outer_support (hg : F.Good) (h24 : F.vars < 24) {q : Nat} (hq : q < F.nodes.length) (hm : F.isMod (F.vars.toNat + q) = true) : F.evs (F.vars.toNat + q) &&& (F.outer (F.vars.toNat + q)).support = 0 := by
  rw [outer_trim hg h24 hq hm, Fm.trim_support (shift_good hg h24 _)]
  unfold Fm.evs
  rw [if_neg (by omega)]
  refine Nat.eq_of_testBit_eq fun i => ?_
  unfold Fm.support
  rw [Nat.testBit_and, setOf_testBit, setOf_testBit, Nat.zero_testBit]
  cases hb : (F.shift (F.vars.toNat + q)).below.getD i false with
  | false => simp
  | true =>
    rcases shift_sub hg h24 hq hm i hb with e | ⟨j, hj, h1, h2, h3, h4⟩
    · rw [decide_eq_false (by omega)]; rfl
    · by_cases hv : i < F.vars.toNat
      · have : i = j := by split at h4 <;> omega
        subst this
        rw [h2]; simp
      · rw [decide_eq_false hv]; rfl
end
end Go.GL
