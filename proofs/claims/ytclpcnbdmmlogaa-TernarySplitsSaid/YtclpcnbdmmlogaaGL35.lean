import Derived.Test.YtclpcnbdmmlogaaGL34
namespace Go.GL
set_option linter.unusedVariables false
set_option linter.unusedSimpArgs false
theorem next_event {F : Fm} (hg : F.Good) (y n : Int) (h : F.tval y n F.top.toNat = 2) : ∃ e : Nat, F.next y n = (e : Int) ∧ e < F.vars.toNat ∧ F.below.getD e false = true ∧ F.tval y n e = 2 := by
  have key : ∀ f t, t < f → F.below.getD t false = true → F.tval y n t = 2 → nextL F.vars.toNat F.nodes (F.tval y n) f t < F.vars.toNat ∧ F.below.getD (nextL F.vars.toNat F.nodes (F.tval y n) f t) false = true ∧ F.tval y n (nextL F.vars.toNat F.nodes (F.tval y n) f t) = 2 := by
    intro f
    induction f with
    | zero => intro t ht; omega
    | succ f ih =>
      intro t ht hb h2
      unfold nextL
      split
      · exact ⟨‹_›, hb, h2⟩
      · have hlt := Fm.below_lt hb
        obtain ⟨i, rfl⟩ : ∃ i, t = F.vars.toNat + i := ⟨t - F.vars.toNat, by omega⟩
        have hi : i < F.nodes.length := by omega
        obtain ⟨k, hk, hk1, hk2⟩ := Fm.next_arg hg y n hi h2
        simp only [Nat.add_sub_cancel_left]
        rw [show F.nodes.getD i ⟨0, 0, []⟩ = F.nodes[i] from by simp [hi], hk1, Int.toNat_natCast, show F.nodes[i].args.getD k 0 = F.nodes[i].args[k] from by simp [hk]]
        have ha := List.getElem_mem hk
        have := hg.argLt hi _ ha
        exact ih _ (by omega) (Fm.below_closed hg hi hb _ ha) hk2
  have := key (F.top.toNat + 1) F.top.toNat (by omega) (Fm.below_top hg) h
  refine ⟨nextL F.vars.toNat F.nodes (F.tval y n) (F.top.toNat + 1) F.top.toNat, ?_, this.1, this.2.1, this.2.2⟩
  unfold Fm.next
  rw [if_neg (by omega)]
theorem next_decided {F : Fm} (hg : F.Good) (y n : Int) : decide (((F.tval y n F.top.toNat : Nat) : Int) ≠ 2) = decide (F.next y n = -1) := by
  refine decide_eq_decide.2 ?_
  constructor
  · intro h
    unfold Fm.next
    rw [if_pos (by omega)]
  · intro h h2
    obtain ⟨e, he, _⟩ := next_event hg y n (by omega)
    rw [he] at h
    omega
def kn (y n : Nat) : Nat → Nat
  | 0 => 0
  | v + 1 => kn y n v + (if y.testBit v || n.testBit v then 1 else 0)
theorem kn_le (y n : Nat) : ∀ v, kn y n v ≤ v
  | 0 => Nat.le_refl _
  | v + 1 => by have := kn_le y n v; unfold kn; split <;> omega
theorem kn_more {y n y' n' e : Nat} (h : ∀ i, i ≠ e → (y'.testBit i || n'.testBit i) = (y.testBit i || n.testBit i)) (h0 : (y.testBit e || n.testBit e) = false) (h1 : (y'.testBit e || n'.testBit e) = true) :
    ∀ v, kn y' n' v = kn y n v + (if e < v then 1 else 0)
  | 0 => by simp [kn]
  | v + 1 => by
    have ih := kn_more h h0 h1 v
    unfold kn
    rw [ih]
    by_cases he : v = e
    · subst he
      rw [h0, h1]; simp
    · rw [h v he]
      by_cases hlt : e < v
      · rw [if_pos hlt, if_pos (show e < v + 1 by omega)]; omega
      · rw [if_neg hlt, if_neg (show ¬ e < v + 1 by omega)]; simp only [Nat.add_zero]
structure SplitOk (v k y n : Nat) : Prop where
  y1 : y < 2 ^ v
  n1 : n < 2 ^ v
  yn : y &&& n = 0
  kk : k ≤ kn y n v
theorem SplitOk.yes {v k y n e : Nat} (h : SplitOk v k y n) (he : e < v) (hy : y.testBit e = false) (hn : n.testBit e = false) : SplitOk v (k + 1) (y ||| 2 ^ e) n := by
  refine ⟨Nat.or_lt_two_pow h.y1 (Nat.pow_lt_pow_right (by decide) he), h.n1, ?_, ?_⟩
  · refine Nat.eq_of_testBit_eq fun i => ?_
    have := congrArg (fun z => z.testBit i) h.yn
    simp only [Nat.testBit_and, Nat.zero_testBit] at this
    rw [Nat.testBit_and, Nat.testBit_or, Nat.zero_testBit]
    by_cases e1 : e = i
    · subst e1; rw [hn]; simp
    · rw [Nat.testBit_two_pow_of_ne e1, Bool.or_false, this]
  · have := kn_more (y := y) (n := n) (y' := y ||| 2 ^ e) (n' := n) (e := e) (fun i hi => by rw [Nat.testBit_or, Nat.testBit_two_pow_of_ne (fun e1 => hi e1.symm), Bool.or_false]) (by rw [hy, hn]; rfl) (by rw [Nat.testBit_or, Nat.testBit_two_pow_self]; simp) v
    rw [this, if_pos he]
    have := h.kk
    omega
theorem SplitOk.no {v k y n e : Nat} (h : SplitOk v k y n) (he : e < v) (hy : y.testBit e = false) (hn : n.testBit e = false) : SplitOk v (k + 1) y (n ||| 2 ^ e) := by
  refine ⟨h.y1, Nat.or_lt_two_pow h.n1 (Nat.pow_lt_pow_right (by decide) he), ?_, ?_⟩
  · refine Nat.eq_of_testBit_eq fun i => ?_
    have := congrArg (fun z => z.testBit i) h.yn
    simp only [Nat.testBit_and, Nat.zero_testBit] at this
    rw [Nat.testBit_and, Nat.testBit_or, Nat.zero_testBit]
    by_cases e1 : e = i
    · subst e1; rw [hy]; simp
    · rw [Nat.testBit_two_pow_of_ne e1, Bool.or_false, this]
  · have := kn_more (y := y) (n := n) (y' := y) (n' := n ||| 2 ^ e) (e := e) (fun i hi => by rw [Nat.testBit_or, Nat.testBit_two_pow_of_ne (fun e1 => hi e1.symm), Bool.or_false]) (by rw [hy, hn]; rfl) (by rw [Nat.testBit_or, Nat.testBit_two_pow_self]; simp) v
    rw [this, if_pos he]
    have := h.kk
    omega
theorem unknown_bits {F : Fm} (hg : F.Good) {y n e : Nat} (hy : y < 2 ^ F.vars.toNat) (hn : n < 2 ^ F.vars.toNat) (he : e < F.vars.toNat) (h : F.tval y n e = 2) : y.testBit e = false ∧ n.testBit e = false := by
  have hv : F.vars.toNat ≤ 24 := by have := hg.v1; have := hg.v0; omega
  rw [F.tval_event _ _ he] at h
  have := lev_two h
  rw [bitB_nat (pow_lt63 hv hy) (by omega), bitB_nat (pow_lt63 hv hn) (by omega)] at this
  exact this
theorem law_split_end {F : Fm} (hg : F.Good) {y n : Nat} (hy : y < 2 ^ F.vars.toNat) (hn : n < 2 ^ F.vars.toNat) (h : y &&& n = 0) (h2 : F.tval y n F.top.toNat ≠ 2) : decide (((F.tval y n F.top.toNat : Nat) : Int) = 1) = F.value y := by
  have gt := hg.topLt; have g0 := hg.v0
  have := (law_sound hg hy hn hy (fun _ h => h) (fun i hi => by
    have := congrArg (fun z => z.testBit i) h
    simp only [Nat.testBit_and, Nat.zero_testBit, hi, Bool.and_true] at this
    exact this)).1 F.top.toNat (by omega) h2
  rw [Fm.value_eq, ← this]
  exact decide_eq_decide.2 (by omega)
end Go.GL
