import Derived.Test.YtffghipagnjggaaGL47
namespace Go.GL
set_option linter.unusedVariables false
set_option linter.unusedSimpArgs false
def bP : Option Nat → Nat
  | none => 0
  | some s => pp 24 s
def bI : Option Nat → Int
  | none => -1
  | some s => (s : Nat)
theorem bI_neg (b : Option Nat) : decide (bI b < 0) = b.isNone := by
  cases b with
  | none => rfl
  | some s => exact decide_eq_false (show ¬ ((s : Nat) : Int) < 0 by omega)
def Fm.cand (F : Fm) (f k : Nat) : Bool := decide (k &&& f = 0) && F.value ((k ||| f : Nat) : Int)
def Fm.nearTo (F : Fm) (f : Nat) : Nat → Option Nat
  | 0 => none
  | k + 1 => bif F.cand f k && ((F.nearTo f k).isNone || decide (pp 24 k < bP (F.nearTo f k))) then some k else F.nearTo f k
theorem Fm.nearTo_lt (F : Fm) (f : Nat) : ∀ k s, F.nearTo f k = some s → s < k
  | 0, s, h => by cases h
  | k + 1, s, h => by
    unfold Fm.nearTo at h
    cases hc : (F.cand f k && ((F.nearTo f k).isNone || decide (pp 24 k < bP (F.nearTo f k)))) with
    | true => rw [hc] at h; cases h; omega
    | false => rw [hc] at h; have := F.nearTo_lt f k s h; omega
structure NearAt (F : Fm) (f k s : Nat) : Prop where
  lt : s < k
  cand : F.cand f s = true
  le : ∀ t, t < k → F.cand f t = true → pp 24 s < pp 24 t ∨ (pp 24 s = pp 24 t ∧ s ≤ t)
theorem Fm.nearTo_none (F : Fm) (f : Nat) : ∀ k, F.nearTo f k = none → ∀ t, t < k → F.cand f t = false
  | 0, _, t, h => by omega
  | k + 1, h, t, ht => by
    unfold Fm.nearTo at h
    cases hc : (F.cand f k && ((F.nearTo f k).isNone || decide (pp 24 k < bP (F.nearTo f k)))) with
    | true => rw [hc] at h; cases h
    | false =>
      rw [hc] at h
      have h' : F.nearTo f k = none := h
      rw [h'] at hc
      rcases Nat.lt_succ_iff_lt_or_eq.1 ht with g | rfl
      · exact F.nearTo_none f k h' t g
      · simpa using hc
theorem Fm.nearTo_some (F : Fm) (f : Nat) : ∀ k s, F.nearTo f k = some s → NearAt F f k s
  | 0, s, h => by cases h
  | k + 1, s, h => by
    unfold Fm.nearTo at h
    cases hc : (F.cand f k && ((F.nearTo f k).isNone || decide (pp 24 k < bP (F.nearTo f k)))) with
    | true =>
      rw [hc] at h
      have h' : some k = some s := h
      obtain rfl : k = s := Option.some.inj h'
      simp only [Bool.and_eq_true] at hc
      refine ⟨Nat.lt_succ_self _, hc.1, fun t ht hct => ?_⟩
      rcases Nat.lt_succ_iff_lt_or_eq.1 ht with g | rfl
      · cases hn : F.nearTo f k with
        | none => rw [F.nearTo_none f k hn t g] at hct; cases hct
        | some s' =>
          have ih := F.nearTo_some f k s' hn
          have h2 := hc.2
          rw [hn] at h2
          have h4 : (false || decide (pp 24 k < bP (some s'))) = true := h2
          rw [Bool.false_or] at h4
          have h3 : pp 24 k < pp 24 s' := of_decide_eq_true h4
          rcases ih.le t g hct with q | q <;> exact .inl (by omega)
      · exact .inr ⟨rfl, Nat.le_refl _⟩
    | false =>
      rw [hc] at h
      have h' : F.nearTo f k = some s := h
      have ih := F.nearTo_some f k s h'
      refine ⟨Nat.lt_succ_of_lt ih.lt, ih.cand, fun t ht hct => ?_⟩
      rcases Nat.lt_succ_iff_lt_or_eq.1 ht with g | rfl
      · exact ih.le t g hct
      · rw [h', hct] at hc
        have h4 : (true && (false || decide (pp 24 t < bP (some s)))) = false := hc
        rw [Bool.true_and, Bool.false_or] at h4
        have h5 : ¬ pp 24 t < pp 24 s := of_decide_eq_false h4
        have h3 : pp 24 s ≤ pp 24 t := by omega
        have := ih.lt
        rcases Nat.lt_or_ge (pp 24 s) (pp 24 t) with q | q
        · exact .inl q
        · exact .inr ⟨by omega, by omega⟩
def Fm.near (F : Fm) (f : Nat) : Option Nat := F.nearTo f (2 ^ F.vars.toNat)
def Fm.nearErr (F : Fm) (f : Nat) : Option Int := if 12 < F.vars then some 4 else if (F.near f).isNone then some 17 else none
def Fm.nearSet (F : Fm) (f : Nat) : Nat := if 12 < F.vars then 0 else (F.near f).getD 0
def Fm.nextErr (F : Fm) (f : Nat) : Option Int := match F.nearErr f with | some e => some e | none => if F.nearSet f = 0 then some 12 else none
theorem Fm.nearErr_1 {F : Fm} {f : Nat} (h : 12 < F.vars) : F.nearErr f = some 4 := if_pos h
theorem Fm.nearErr_2 {F : Fm} {f : Nat} (h : ¬ 12 < F.vars) (h2 : F.near f = none) : F.nearErr f = some 17 := by unfold Fm.nearErr; rw [if_neg h, h2]; rfl
theorem Fm.nearErr_3 {F : Fm} {f s : Nat} (h : ¬ 12 < F.vars) (h2 : F.near f = some s) : F.nearErr f = none := by unfold Fm.nearErr; rw [if_neg h, h2]; rfl
theorem Fm.nearSet_1 {F : Fm} {f : Nat} (h : 12 < F.vars) : F.nearSet f = 0 := if_pos h
theorem Fm.nearSet_2 {F : Fm} {f : Nat} (h2 : F.near f = none) : F.nearSet f = 0 := by unfold Fm.nearSet; rw [h2]; split <;> rfl
theorem Fm.nearSet_3 {F : Fm} {f s : Nat} (h : ¬ 12 < F.vars) (h2 : F.near f = some s) : F.nearSet f = s := by unfold Fm.nearSet; rw [if_neg h, h2]; rfl
theorem Fm.nearSet_lt {F : Fm} (f : Nat) : F.nearSet f < 2 ^ F.vars.toNat := by
  unfold Fm.nearSet
  split
  · exact Nat.two_pow_pos _
  · cases h : F.near f with
    | none => exact Nat.two_pow_pos _
    | some s => exact F.nearTo_lt f _ s h
def exF55 : Fm := ⟨3, [⟨2, 0, [1, 2]⟩, ⟨3, 0, [0, 3]⟩], 4⟩
theorem exF55_good : exF55.Good := (Fm.good_iff _).1 (by decide)
def exM1 : Mo := ⟨2, [⟨1, true, false⟩]⟩
def exM2 : Mo := ⟨6, [⟨1, true, false⟩, ⟨2, true, true⟩]⟩
theorem exM1_eq : exF55.play Mo.zero 1 true = exM1 := by decide +kernel
theorem exM2_eq : exF55.play exM1 2 true = exM2 := by decide +kernel
theorem exM1_err : exF55.playErr Mo.zero 1 true = none := by decide +kernel
theorem exM2_err : exF55.playErr exM1 2 true = none := by decide +kernel
theorem exM1_top : exF55.playTop Mo.zero 1 true = false := by decide +kernel
theorem exM2_top : exF55.playTop exM1 2 true = true := by decide +kernel
theorem exM0_crit : exF55.crit 0 = 1 := by decide +kernel
theorem exM1_crit : exF55.crit 2 = 5 := by decide +kernel
theorem exM2_heal : exF55.heal 6 = 6 := by decide +kernel
def actCells (l : List (Int × Int)) : List Value := l.flatMap (fun a => [.int .u8 a.1, .int .i64 a.2])
theorem actCells_length (l : List (Int × Int)) : (actCells l).length = l.length * 2 := by
  induction l with
  | nil => rfl
  | cons p l ih => simp only [actCells, List.flatMap_cons, List.length_append, List.length_cons] at ih ⊢; rw [ih]; simp; omega
theorem actCells_get {l : List (Int × Int)} : ∀ {i : Nat} (hi : i < l.length), ∀ j v, ([.int .u8 l[i].1, .int .i64 l[i].2] : List Value)[j]? = some v → (actCells l)[i * 2 + j]? = some v := by
  induction l with
  | nil => intro i hi; simp at hi
  | cons p l ih =>
    intro i hi j v hv
    have e : actCells (p :: l) = [.int .u8 p.1, .int .i64 p.2] ++ actCells l := rfl
    rw [e]
    cases i with
    | zero =>
      have hj : j < 2 := by have := (List.getElem?_eq_some_iff.1 hv).1; simpa using this
      rw [List.getElem?_append_left (by simpa using hj)]
      simpa using hv
    | succ i =>
      rw [List.getElem?_append_right (by simp; omega)]
      have := ih (i := i) (by simpa using hi) j v (by simpa using hv)
      rw [← this]
      congr 1
      simp; omega
theorem RdS.blk {H : List Ent} {a : Option Nat} {off : Nat} {vs : List Value} {sp : Option Nat} (h : RdS H a off vs sp) {k : Nat} {ws : List Value} (hne : ws ≠ []) (hw : ∀ j v, ws[j]? = some v → vs[k + j]? = some v) : ∃ b, a = some b ∧ sp = Option.none ∧ Rd H b (off + k) ws := by
  rcases h with h | ⟨b, h1, h2, h3⟩
  · cases ws with
    | nil => exact absurd rfl hne
    | cons w ws =>
      have := hw 0 w rfl
      rw [h] at this
      simp at this
  · refine ⟨b, h1, h2, fun W hM j v hj => ?_⟩
    have := h3 W hM (k + j) v (hw j v hj)
    rwa [← Nat.add_assoc] at this
end Go.GL
