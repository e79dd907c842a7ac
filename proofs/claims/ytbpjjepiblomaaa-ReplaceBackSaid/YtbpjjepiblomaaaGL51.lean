import Derived.Test.YtbpjjepiblomaaaGL50
import Derived.Test.YtbpjjepiblomaaaGL37
namespace Go.GL
set_option linter.unusedVariables false
set_option linter.unusedSimpArgs false
def Fm.at (F : Fm) (t : Nat) : Fm := ⟨F.vars, F.nodes, (t : Int)⟩
theorem Fm.at_good {F : Fm} (hg : F.Good) {t : Nat} (ht : t < F.vars.toNat + F.nodes.length) : (F.at t).Good := by
  have g0 := hg.v0
  refine ⟨hg.v0, hg.v1, hg.n1, hg.node, ?_⟩
  unfold Fm.valid Fm.at
  simp
  omega
theorem Fm.at_top {F : Fm} (hg : F.Good) : F.at F.top.toNat = F := by
  have := hg.topLt
  unfold Fm.at
  rw [Int.toNat_of_nonneg this.1]
def Fm.part (F : Fm) (t : Nat) : List Bool := (F.at t).below
theorem Fm.part_length (F : Fm) (t : Nat) : (F.part t).length = F.vars.toNat + F.nodes.length := Fm.below_length _
theorem Fm.part_eq {F : Fm} (hg : F.Good) {t : Nat} (ht : t < F.vars.toNat + F.nodes.length) : F.part t = (F.under t).set t true := by
  have h := Fm.needed_eq (Fm.at_good hg ht)
  unfold Fm.part
  rw [← h]
  rfl
theorem Fm.part_getD {F : Fm} (hg : F.Good) {t : Nat} (ht : t < F.vars.toNat + F.nodes.length) (j : Nat) : (F.part t).getD j false = (decide (j = t) || (F.under t).getD j false) := by
  rw [Fm.part_eq hg ht, List.getD_eq_getElem?_getD, List.getElem?_set]
  by_cases e : t = j
  · subst e
    rw [if_pos rfl, if_pos (by rw [F.under_length]; exact ht)]
    simp
  · rw [if_neg e, decide_eq_false (fun h => e h.symm), Bool.false_or, List.getD_eq_getElem?_getD]
def tab0 (v n : Nat) : List Nat := List.range v ++ List.replicate n 0
theorem tab0_length (v n : Nat) : (tab0 v n).length = v + n := by simp [tab0]
theorem tab0_event {v n j : Nat} (h : j < v) : (tab0 v n).getD j 0 = j := by
  unfold tab0
  rw [List.getD_eq_getElem?_getD, List.getElem?_append_left (by simpa using h), List.getElem?_range h]
  rfl
abbrev CutSt := (List Nat × List Nat) × (List Nd × List Nd)
def cutIn (v : Nat) (d : Nd) (k : Nat) (s : CutSt) : CutSt := ((s.1.1.set (v + k) (v + s.2.1.length), s.1.2.set (v + k) v), (s.2.1 ++ [trN (s.1.1.set (v + k) (v + s.2.1.length)) d], s.2.2))
def cutOut (v : Nat) (d : Nd) (k : Nat) (s : CutSt) : CutSt := ((s.1.1, s.1.2.set (v + k) (v + 1 + s.2.2.length)), (s.2.1, s.2.2 ++ [trN (s.1.2.set (v + k) (v + 1 + s.2.2.length)) d]))
def cutS (P B : List Bool) (v : Nat) (nodes : List Nd) : Nat → CutSt
  | 0 => ((tab0 v nodes.length, tab0 v nodes.length), ([], []))
  | k + 1 => bif P.getD (v + k) false then cutIn v (nodes.getD k ⟨0, 0, []⟩) k (cutS P B v nodes k)
    else bif B.getD (v + k) false then cutOut v (nodes.getD k ⟨0, 0, []⟩) k (cutS P B v nodes k)
    else cutS P B v nodes k
section
variable {P B : List Bool} {v : Nat} {nodes : List Nd}
theorem cutS_len (k : Nat) : (cutS P B v nodes k).1.1.length = v + nodes.length ∧ (cutS P B v nodes k).1.2.length = v + nodes.length ∧ (cutS P B v nodes k).2.1.length ≤ k ∧ (cutS P B v nodes k).2.2.length ≤ k := by
  induction k with
  | zero => simp [cutS, tab0_length]
  | succ k ih =>
    obtain ⟨h1, h2, h3, h4⟩ := ih
    unfold cutS
    cases P.getD (v + k) false <;> cases B.getD (v + k) false <;> simp [cutIn, cutOut, h1, h2] <;> omega
theorem cutS_args (h : ∀ i (hi : i < nodes.length), nodes[i].args.length ≤ 16) (k : Nat) (hk : k ≤ nodes.length) : (∀ d ∈ (cutS P B v nodes k).2.1, d.args.length ≤ 16) ∧ (∀ d ∈ (cutS P B v nodes k).2.2, d.args.length ≤ 16) := by
  induction k with
  | zero => simp [cutS]
  | succ k ih =>
    obtain ⟨i1, i2⟩ := ih (by omega)
    have hd := h k (by omega)
    rw [show nodes[k] = nodes.getD k ⟨0, 0, []⟩ from by simp [show k < nodes.length by omega]] at hd
    unfold cutS
    cases P.getD (v + k) false <;> cases B.getD (v + k) false <;> simp only [cutIn, cutOut, cond_true, cond_false, List.mem_append, List.mem_singleton] <;> refine ⟨fun d hd' => ?_, fun d hd' => ?_⟩ <;>
      first
      | exact i1 d hd'
      | exact i2 d hd'
      | (rcases hd' with hd' | rfl
         · first | exact i1 d hd' | exact i2 d hd'
         · simpa [trN, trA_length] using hd)
end
def Fm.cutK (F : Fm) (t k : Nat) : CutSt := cutS (F.part t) F.below F.vars.toNat F.nodes k
def Fm.outer (F : Fm) (t : Nat) : Fm := ⟨F.vars + 1, (F.cutK t F.nodes.length).2.2, (((F.cutK t F.nodes.length).1.2.getD F.top.toNat 0 : Nat) : Int)⟩
def Fm.inner (F : Fm) (t : Nat) : Fm := ⟨F.vars, (F.cutK t F.nodes.length).2.1, (((F.cutK t F.nodes.length).1.1.getD t 0 : Nat) : Int)⟩
def chS (keep : List Bool) (v vars : Nat) (sp : Int) (nodes : List Nd) : Nat → List Nat × List Nd
  | 0 => (List.replicate (v + nodes.length) 0, [])
  | a + 1 =>
    let s := chS keep v vars sp nodes a
    let t := bif (decide (v ≤ a) && keep.getD (a - v) false) then ((s.1.set a a).set a (vars + s.2.length), s.2 ++ [trN (s.1.set a a) (nodes.getD (a - v) ⟨0, 0, []⟩)]) else (s.1.set a a, s.2)
    (bif decide ((a : Int) = sp) then t.1.set a (vars - 1) else t.1, t.2)
section
variable {keep : List Bool} {v vars : Nat} {sp : Int} {nodes : List Nd}
theorem chS_len (a : Nat) : (chS keep v vars sp nodes a).1.length = v + nodes.length ∧ (chS keep v vars sp nodes a).2.length ≤ a - v := by
  induction a with
  | zero => simp [chS]
  | succ a ih =>
    obtain ⟨h1, h2⟩ := ih
    unfold chS
    by_cases hv : v ≤ a
    · rw [decide_eq_true hv]
      cases keep.getD (a - v) false <;> cases decide ((a : Int) = sp) <;> simp [h1] <;> omega
    · rw [decide_eq_false hv]
      cases decide ((a : Int) = sp) <;> simp [h1] <;> omega
theorem chS_old {a j : Nat} (hj : j ≠ a) : (chS keep v vars sp nodes (a + 1)).1.getD j 0 = (chS keep v vars sp nodes a).1.getD j 0 := by
  have hs : ∀ (l : List Nat) (x : Nat), (l.set a x).getD j 0 = l.getD j 0 := fun l x => by
    rw [List.getD_eq_getElem?_getD, List.getElem?_set_ne (fun h => hj h.symm), ← List.getD_eq_getElem?_getD]
  rw [chS]
  dsimp only
  cases (decide (v ≤ a) && keep.getD (a - v) false) <;> cases decide ((a : Int) = sp) <;> simp only [cond_true, cond_false, hs]
theorem chS_new {a : Nat} (ha : a < v + nodes.length) : (chS keep v vars sp nodes (a + 1)).1.getD a 0 = bif decide ((a : Int) = sp) then vars - 1 else bif (decide (v ≤ a) && keep.getD (a - v) false) then vars + (chS keep v vars sp nodes a).2.length else a := by
  have hl := (chS_len (keep := keep) (v := v) (vars := vars) (sp := sp) (nodes := nodes) a).1
  have hs : ∀ (l : List Nat) (x : Nat), l.length = v + nodes.length → (l.set a x).getD a 0 = x := fun l x hl => by
    rw [List.getD_eq_getElem?_getD, List.getElem?_set_self (by omega)]; rfl
  rw [chS]
  dsimp only
  cases (decide (v ≤ a) && keep.getD (a - v) false) <;> cases decide ((a : Int) = sp) <;> simp only [cond_true, cond_false] <;> exact hs _ _ (by simp [hl])
theorem chS_two {a : Nat} : (chS keep v vars sp nodes (a + 1)).2 = bif (decide (v ≤ a) && keep.getD (a - v) false) then (chS keep v vars sp nodes a).2 ++ [trN ((chS keep v vars sp nodes a).1.set a a) (nodes.getD (a - v) ⟨0, 0, []⟩)] else (chS keep v vars sp nodes a).2 := by
  rw [chS]
  dsimp only
  cases (decide (v ≤ a) && keep.getD (a - v) false) <;> rfl
theorem chS_event (hsp : sp < 0 ∨ (v : Int) ≤ sp) : ∀ a, a ≤ v → (chS keep v vars sp nodes a).2 = [] ∧ ∀ j, j < a → (chS keep v vars sp nodes a).1.getD j 0 = j
  | 0, _ => ⟨rfl, fun j h => absurd h (by omega)⟩
  | a + 1, ha => by
    obtain ⟨h1, h2⟩ := chS_event hsp a (by omega)
    refine ⟨?_, fun j hj => ?_⟩
    · rw [chS_two, decide_eq_false (by omega)]; exact h1
    · by_cases e : j = a
      · subst e
        rw [chS_new (by omega), decide_eq_false (by omega), decide_eq_false (by omega)]; rfl
      · rw [chS_old e]; exact h2 j (by omega)
end
theorem trA_congr {x y : List Nat} {l : List Int} (h : ∀ a ∈ l, x.getD a.toNat 0 = y.getD a.toNat 0) : trA x l = trA y l := by
  unfold trA
  exact List.map_congr_left fun a ha => by rw [h a ha]
theorem getD_setNe {l : List Nat} {i j x : Nat} (h : j ≠ i) : (l.set i x).getD j 0 = l.getD j 0 := by
  rw [List.getD_eq_getElem?_getD, List.getElem?_set_ne (fun e => h e.symm), ← List.getD_eq_getElem?_getD]
theorem getD_setEq {l : List Nat} {i x : Nat} (h : i < l.length) : (l.set i x).getD i 0 = x := by
  rw [List.getD_eq_getElem?_getD, List.getElem?_set_self h]; rfl
def Fm.keepIn (F : Fm) (t : Nat) : List Bool := (List.range F.nodes.length).map (fun i => (F.part t).getD (F.vars.toNat + i) false)
def Fm.keepOut (F : Fm) (t : Nat) : List Bool := (List.range F.nodes.length).map (fun i => F.below.getD (F.vars.toNat + i) false && !(F.part t).getD (F.vars.toNat + i) false)
section
variable {F : Fm}
theorem Fm.keepIn_getD {t i : Nat} (hi : i < F.nodes.length) : (F.keepIn t).getD i false = (F.part t).getD (F.vars.toNat + i) false := by
  unfold Fm.keepIn; simp [hi]
theorem Fm.keepOut_getD {t i : Nat} (hi : i < F.nodes.length) : (F.keepOut t).getD i false = (F.below.getD (F.vars.toNat + i) false && !(F.part t).getD (F.vars.toNat + i) false) := by
  unfold Fm.keepOut; simp [hi]
theorem Fm.part_closed (hg : F.Good) {q k : Nat} (hq : q < F.nodes.length) (hk : k < F.nodes.length) (h : (F.part (F.vars.toNat + q)).getD (F.vars.toNat + k) false = true) :
    ∀ a ∈ F.nodes[k].args, (F.part (F.vars.toNat + q)).getD a.toNat false = true := by
  exact Fm.below_closed (Fm.at_good hg (t := F.vars.toNat + q) (by omega)) (i := k) hk h
theorem cut_inner (hg : F.Good) {q : Nat} (hq : q < F.nodes.length) : ∀ k, k ≤ F.nodes.length →
    (chS (F.keepIn (F.vars.toNat + q)) F.vars.toNat F.vars.toNat (-1) F.nodes (F.vars.toNat + k)).2 = (F.cutK (F.vars.toNat + q) k).2.1 ∧
    ∀ j, j < F.vars.toNat + k → (j < F.vars.toNat ∨ (F.part (F.vars.toNat + q)).getD j false = true) →
      (chS (F.keepIn (F.vars.toNat + q)) F.vars.toNat F.vars.toNat (-1) F.nodes (F.vars.toNat + k)).1.getD j 0 = (F.cutK (F.vars.toNat + q) k).1.1.getD j 0
  | 0, _ => by
    obtain ⟨h1, h2⟩ := chS_event (keep := F.keepIn (F.vars.toNat + q)) (vars := F.vars.toNat) (nodes := F.nodes) (sp := -1) (v := F.vars.toNat) (.inl (by omega)) F.vars.toNat (Nat.le_refl _)
    refine ⟨h1, fun j hj _ => ?_⟩
    rw [show F.vars.toNat + 0 = F.vars.toNat from rfl] at hj ⊢
    rw [h2 j hj]
    exact (tab0_event hj).symm
  | k + 1, hk => by
    obtain ⟨h1, h2⟩ := cut_inner hg hq k (by omega)
    have hkn : k < F.nodes.length := by omega
    have hl := cutS_len (P := F.part (F.vars.toNat + q)) (B := F.below) (v := F.vars.toNat) (nodes := F.nodes) k
    have hkp := Fm.keepIn_getD (F := F) (t := F.vars.toNat + q) hkn
    have hcl := Fm.part_closed hg hq hkn
    have hat := hg.argLt hkn
    have hgd : F.nodes.getD k ⟨0, 0, []⟩ = F.nodes[k] := by simp [hkn]
    have hdec : (decide (F.vars.toNat ≤ F.vars.toNat + k) && (F.keepIn (F.vars.toNat + q)).getD (F.vars.toNat + k - F.vars.toNat) false) = (F.part (F.vars.toNat + q)).getD (F.vars.toNat + k) false := by
      rw [decide_eq_true (by omega), Bool.true_and, Nat.add_sub_cancel_left, hkp]
    have hnew := chS_new (keep := F.keepIn (F.vars.toNat + q)) (v := F.vars.toNat) (vars := F.vars.toNat) (sp := -1) (nodes := F.nodes) (a := F.vars.toNat + k) (by omega)
    have hold := fun (j : Nat) (h : j ≠ F.vars.toNat + k) => chS_old (keep := F.keepIn (F.vars.toNat + q)) (v := F.vars.toNat) (vars := F.vars.toNat) (sp := -1) (nodes := F.nodes) h
    have htwo := chS_two (keep := F.keepIn (F.vars.toNat + q)) (v := F.vars.toNat) (vars := F.vars.toNat) (sp := -1) (nodes := F.nodes) (a := F.vars.toNat + k)
    rw [hdec, decide_eq_false (by omega)] at hnew
    rw [hdec, Nat.add_sub_cancel_left, hgd] at htwo
    simp only [cond_false] at hnew
    rw [← Nat.add_assoc, htwo]
    have hst : F.cutK (F.vars.toNat + q) (k + 1) = (bif (F.part (F.vars.toNat + q)).getD (F.vars.toNat + k) false then cutIn F.vars.toNat F.nodes[k] k (F.cutK (F.vars.toNat + q) k) else bif F.below.getD (F.vars.toNat + k) false then cutOut F.vars.toNat F.nodes[k] k (F.cutK (F.vars.toNat + q) k) else F.cutK (F.vars.toNat + q) k) := by
      unfold Fm.cutK; rw [cutS, hgd]
    rw [hst]
    cases hp : (F.part (F.vars.toNat + q)).getD (F.vars.toNat + k) false with
    | true =>
      rw [hp] at hnew
      simp only [cond_true] at hnew ⊢
      refine ⟨?_, fun j hj hc => ?_⟩
      · simp only [cutIn]
        rw [h1]
        refine congrArg (fun z => _ ++ [z]) ?_
        unfold trN
        refine congrArg _ (trA_congr fun a ha => ?_)
        have hlt := hat a ha
        rw [getD_setNe (by omega), getD_setNe (by omega)]
        exact h2 _ hlt (.inr (hcl hp a ha))
      · simp only [cutIn]
        by_cases e : j = F.vars.toNat + k
        · subst e
          rw [hnew, getD_setEq (by unfold Fm.cutK; omega), h1]
        · rw [hold j e, getD_setNe e]
          exact h2 j (by omega) hc
    | false =>
      simp only [cond_false]
      refine ⟨?_, fun j hj hc => ?_⟩
      · cases F.below.getD (F.vars.toNat + k) false <;> simp only [cutOut, cond_true, cond_false] <;> exact h1
      · have e : j ≠ F.vars.toNat + k := by
          rintro rfl
          rcases hc with hc | hc
          · omega
          · rw [hp] at hc; cases hc
        rw [hold j e]
        cases F.below.getD (F.vars.toNat + k) false <;> simp only [cutOut, cond_true, cond_false] <;> exact h2 j (by omega) hc
theorem cut_outer (hg : F.Good) {q : Nat} (hq : q < F.nodes.length) (hm : F.isMod (F.vars.toNat + q) = true) : ∀ k, k ≤ F.nodes.length →
    (chS (F.keepOut (F.vars.toNat + q)) F.vars.toNat (F.vars.toNat + 1) ((F.vars.toNat + q : Nat) : Int) F.nodes (F.vars.toNat + k)).2 = (F.cutK (F.vars.toNat + q) k).2.2 ∧
    ∀ j, j < F.vars.toNat + k → F.below.getD j false = true → (F.under (F.vars.toNat + q)).getD j false = false →
      (chS (F.keepOut (F.vars.toNat + q)) F.vars.toNat (F.vars.toNat + 1) ((F.vars.toNat + q : Nat) : Int) F.nodes (F.vars.toNat + k)).1.getD j 0 = (F.cutK (F.vars.toNat + q) k).1.2.getD j 0
  | 0, _ => by
    obtain ⟨h1, h2⟩ := chS_event (keep := F.keepOut (F.vars.toNat + q)) (vars := F.vars.toNat + 1) (nodes := F.nodes) (sp := ((F.vars.toNat + q : Nat) : Int)) (v := F.vars.toNat) (.inr (by omega)) F.vars.toNat (Nat.le_refl _)
    refine ⟨h1, fun j hj _ _ => ?_⟩
    rw [show F.vars.toNat + 0 = F.vars.toNat from rfl] at hj ⊢
    rw [h2 j hj]
    exact (tab0_event hj).symm
  | k + 1, hk => by
    obtain ⟨h1, h2⟩ := cut_outer hg hq hm k (by omega)
    have hkn : k < F.nodes.length := by omega
    have hl := cutS_len (P := F.part (F.vars.toNat + q)) (B := F.below) (v := F.vars.toNat) (nodes := F.nodes) k
    have hkp := Fm.keepOut_getD (F := F) (t := F.vars.toNat + q) hkn
    have hpg := Fm.part_getD hg (t := F.vars.toNat + q) (by omega) (F.vars.toNat + k)
    have hat := hg.argLt hkn
    have hgd : F.nodes.getD k ⟨0, 0, []⟩ = F.nodes[k] := by simp [hkn]
    have hdec : (decide (F.vars.toNat ≤ F.vars.toNat + k) && (F.keepOut (F.vars.toNat + q)).getD (F.vars.toNat + k - F.vars.toNat) false) = (F.below.getD (F.vars.toNat + k) false && !(F.part (F.vars.toNat + q)).getD (F.vars.toNat + k) false) := by
      rw [decide_eq_true (by omega), Bool.true_and, Nat.add_sub_cancel_left, hkp]
    have hnew := chS_new (keep := F.keepOut (F.vars.toNat + q)) (v := F.vars.toNat) (vars := F.vars.toNat + 1) (sp := ((F.vars.toNat + q : Nat) : Int)) (nodes := F.nodes) (a := F.vars.toNat + k) (by omega)
    have hold := fun (j : Nat) (h : j ≠ F.vars.toNat + k) => chS_old (keep := F.keepOut (F.vars.toNat + q)) (v := F.vars.toNat) (vars := F.vars.toNat + 1) (sp := ((F.vars.toNat + q : Nat) : Int)) (nodes := F.nodes) h
    have htwo := chS_two (keep := F.keepOut (F.vars.toNat + q)) (v := F.vars.toNat) (vars := F.vars.toNat + 1) (sp := ((F.vars.toNat + q : Nat) : Int)) (nodes := F.nodes) (a := F.vars.toNat + k)
    rw [hdec] at hnew
    rw [hdec, Nat.add_sub_cancel_left, hgd] at htwo
    rw [← Nat.add_assoc, htwo]
    have hst : F.cutK (F.vars.toNat + q) (k + 1) = (bif (F.part (F.vars.toNat + q)).getD (F.vars.toNat + k) false then cutIn F.vars.toNat F.nodes[k] k (F.cutK (F.vars.toNat + q) k) else bif F.below.getD (F.vars.toNat + k) false then cutOut F.vars.toNat F.nodes[k] k (F.cutK (F.vars.toNat + q) k) else F.cutK (F.vars.toNat + q) k) := by
      unfold Fm.cutK; rw [cutS, hgd]
    rw [hst]
    cases hp : (F.part (F.vars.toNat + q)).getD (F.vars.toNat + k) false with
    | true =>
      rw [hp] at hnew hpg
      simp only [Bool.not_true, Bool.and_false, cond_true, cond_false] at hnew ⊢
      refine ⟨h1, fun j hj hb hu => ?_⟩
      simp only [cutIn]
      by_cases e : j = F.vars.toNat + k
      · subst e
        rw [hu, Bool.or_false] at hpg
        have hkq : k = q := by have := of_decide_eq_true hpg.symm; omega
        subst hkq
        rw [hnew, getD_setEq (by unfold Fm.cutK; omega), decide_eq_true rfl]
        rfl
      · rw [hold j e, getD_setNe e]
        exact h2 j (by omega) hb hu
    | false =>
      rw [hp] at hnew hpg
      have hne : k ≠ q := by
        rintro rfl
        simp at hpg
      have huk : (F.under (F.vars.toNat + q)).getD (F.vars.toNat + k) false = false := by
        cases h : (F.under (F.vars.toNat + q)).getD (F.vars.toNat + k) false with
        | false => rfl
        | true => rw [h, Bool.or_true] at hpg; cases hpg
      rw [decide_eq_false (by omega)] at hnew
      cases hb : F.below.getD (F.vars.toNat + k) false with
      | true =>
        rw [hb] at hnew
        simp only [Bool.not_false, Bool.and_true, cond_true, cond_false] at hnew ⊢
        have hall := Fm.isMod_all hg hm k hkn hb hne huk
        have hbc := Fm.below_closed hg hkn hb
        refine ⟨?_, fun j hj hbj hu => ?_⟩
        · simp only [cutOut]
          rw [h1]
          refine congrArg (fun z => _ ++ [z]) ?_
          unfold trN
          refine congrArg _ (trA_congr fun a ha => ?_)
          have hlt := hat a ha
          rw [getD_setNe (by omega), getD_setNe (by omega)]
          exact h2 _ hlt (hbc a ha) (hall a ha)
        · simp only [cutOut]
          by_cases e : j = F.vars.toNat + k
          · subst e
            rw [hnew, getD_setEq (by unfold Fm.cutK; omega), h1]
          · rw [hold j e, getD_setNe e]
            exact h2 j (by omega) hbj hu
      | false =>
        simp only [Bool.false_and, cond_false]
        refine ⟨h1, fun j hj hbj hu => ?_⟩
        have e : j ≠ F.vars.toNat + k := by
          rintro rfl
          rw [hb] at hbj; cases hbj
        rw [hold j e]
        exact h2 j (by omega) hbj hu
end
def chF (keep : List Bool) (v vars : Nat) (sp : Int) (nodes : List Nd) (top : Nat) : Fm := ⟨vars, (chS keep v vars sp nodes (v + nodes.length)).2, (((chS keep v vars sp nodes (v + nodes.length)).1.getD top 0 : Nat) : Int)⟩
section
variable {F : Fm}
theorem inner_chosen (hg : F.Good) {q : Nat} (hq : q < F.nodes.length) : chF (F.keepIn (F.vars.toNat + q)) F.vars.toNat F.vars.toNat (-1) F.nodes (F.vars.toNat + q) = F.inner (F.vars.toNat + q) := by
  obtain ⟨h1, h2⟩ := cut_inner hg hq F.nodes.length (Nat.le_refl _)
  have g0 := hg.v0
  unfold chF Fm.inner
  rw [h1, h2 (F.vars.toNat + q) (by omega) (.inr (by rw [Fm.part_getD hg (by omega)]; simp)), Int.toNat_of_nonneg g0]
theorem outer_chosen (hg : F.Good) {q : Nat} (hq : q < F.nodes.length) (hm : F.isMod (F.vars.toNat + q) = true) : chF (F.keepOut (F.vars.toNat + q)) F.vars.toNat (F.vars.toNat + 1) ((F.vars.toNat + q : Nat) : Int) F.nodes F.top.toNat = F.outer (F.vars.toNat + q) := by
  obtain ⟨h1, h2⟩ := cut_outer hg hq hm F.nodes.length (Nat.le_refl _)
  have g0 := hg.v0; have gt := hg.topLt
  unfold chF Fm.outer
  rw [h1, h2 F.top.toNat (by omega) (Fm.below_top hg) (Fm.isMod_top hm), show ((F.vars.toNat + 1 : Nat) : Int) = F.vars + 1 by omega]
end
def putTab (O I : Fm) : List Nat := (List.range (O.vars.toNat + O.nodes.length)).map (fun a => if a < I.vars.toNat then a else if a = I.vars.toNat then I.top.toNat else a - 1 + I.nodes.length)
theorem putTab_length (O I : Fm) : (putTab O I).length = O.vars.toNat + O.nodes.length := by simp [putTab]
def Fm.put (O I : Fm) : Fm := ⟨I.vars, I.nodes ++ O.nodes.map (trN (putTab O I)), (((putTab O I).getD O.top.toNat 0 : Nat) : Int)⟩
def Fm.putErr (O I : Fm) : Option Int := match O.err with
  | some e => some e
  | none => match I.err with
    | some e => some e
    | none => if O.vars ≠ I.vars + 1 then some 11 else if 128 < O.nodes.length + I.nodes.length then some 4 else none
theorem take_fill {l : List Nat} {k x n : Nat} (hn : l.length = n) (hk : k < n) (hx : l.getD k 0 = x) : (l.take k ++ List.replicate (n - k) 0).set k x = l.take (k + 1) ++ List.replicate (n - (k + 1)) 0 := by
  have hl : (l.take k).length = k := by rw [List.length_take]; omega
  have hk' : k < l.length := by omega
  rw [List.set_append_right _ _ (by omega), hl, Nat.sub_self, show n - k = (n - (k + 1)) + 1 by omega, List.replicate_succ, List.take_succ_eq_append_getElem hk']
  rw [List.getD_eq_getElem?_getD, List.getElem?_eq_getElem hk'] at hx
  simp at hx
  simp [hx]
theorem putTab_getD {O I : Fm} {a : Nat} (h : a < O.vars.toNat + O.nodes.length) : (putTab O I).getD a 0 = if a < I.vars.toNat then a else if a = I.vars.toNat then I.top.toNat else a - 1 + I.nodes.length := by
  unfold putTab
  simp [h]
theorem range_getD {n k : Nat} (h : k < n) : (List.range n).getD k 0 = k := by
  rw [List.getD_eq_getElem?_getD, List.getElem?_range h]; rfl
def Fm.needAt (F : Fm) (arg : Int) : Bool := decide (F.vars ≤ arg) && decide (arg < F.vars + F.nodes.length) && F.below.getD arg.toNat false
def Fm.isB (F : Fm) (arg : Int) : Bool := F.err.isNone && F.needAt arg && F.isMod arg.toNat
def Fm.isErr (F : Fm) (arg : Int) : Option Int := match F.err with | some e => some e | none => bif F.needAt arg then none else some 10
def Fm.cutErr (F : Fm) (arg : Int) : Option Int := match F.isErr arg with
  | some e => some e
  | none => if F.isB arg = false ∨ arg = F.top then some 7 else if F.vars = 24 then some 4 else none
def Fm.outF (F : Fm) (arg : Int) : Fm := bif (F.cutErr arg).isNone then F.outer arg.toNat else Fm.zero
def Fm.inF (F : Fm) (arg : Int) : Fm := bif (F.cutErr arg).isNone then F.inner arg.toNat else Fm.zero
theorem Fm.isErr_none {F : Fm} {arg : Int} (h : F.isErr arg = none) : F.err = none ∧ F.needAt arg = true := by
  unfold Fm.isErr at h
  cases he : F.err with
  | some e => rw [he] at h; cases h
  | none =>
    rw [he] at h
    cases hn : F.needAt arg with
    | true => exact ⟨rfl, rfl⟩
    | false => rw [hn] at h; cases h
theorem Fm.needAt_iff {F : Fm} {arg : Int} (h : F.needAt arg = true) (h0 : 0 ≤ F.vars) : ∃ q, q < F.nodes.length ∧ arg = ((F.vars.toNat + q : Nat) : Int) ∧ F.below.getD (F.vars.toNat + q) false = true := by
  unfold Fm.needAt at h
  simp only [Bool.and_eq_true, decide_eq_true_eq] at h
  obtain ⟨⟨h1, h2⟩, h3⟩ := h
  have e : arg.toNat = F.vars.toNat + (arg - F.vars).toNat := by omega
  exact ⟨(arg - F.vars).toNat, by omega, by omega, by rw [← e]; exact h3⟩
def Fm.putF (O I : Fm) : Fm := bif (O.putErr I).isNone then O.put I else Fm.zero
theorem trN_id {n : Nat} {d : Nd} (h : ∀ a ∈ d.args, 0 ≤ a ∧ a.toNat < n) : trN (List.range n) d = d := by
  obtain ⟨k, kk, args⟩ := d
  unfold trN trA
  refine congrArg _ ?_
  have : args.map (fun a => (((List.range n).getD a.toNat 0 : Nat) : Int)) = args.map id := List.map_congr_left fun a ha => by
    have ⟨h0, h1⟩ := h a ha
    rw [List.getD_eq_getElem?_getD, List.getElem?_range h1]
    simp; omega
  simpa using this
end Go.GL
