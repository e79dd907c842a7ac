import Derived.Test.YtffghipagnjggaaGL38
namespace Go.GL
set_option linter.unusedVariables false
set_option linter.unusedSimpArgs false
def bin : Nat → Nat → Nat
  | _, 0 => 1
  | 0, _ + 1 => 0
  | v + 1, w + 1 => bin v w + bin v (w + 1)
theorem bin_zero (v : Nat) : bin v 0 = 1 := by cases v <;> rfl
theorem bin_gt : ∀ v w, v < w → bin v w = 0
  | 0, w + 1, _ => rfl
  | v + 1, w + 1, h => by
    have h1 := bin_gt v w (by omega)
    have h2 := bin_gt v (w + 1) (by omega)
    simp only [bin]; omega
theorem bin_step : ∀ v i, i ≤ v → bin v (i + 1) * (i + 1) = bin v i * (v - i)
  | 0, i, h => by
    obtain rfl : i = 0 := by omega
    rfl
  | v + 1, 0, _ => by
    have := bin_step v 0 (Nat.zero_le _)
    rw [bin_zero] at this ⊢
    simp only [bin, bin_zero] at this ⊢
    omega
  | v + 1, i + 1, h => by
    rcases Nat.lt_or_ge v (i + 1) with g | g
    · obtain rfl : i = v := by omega
      rw [show i + 1 - (i + 1) = 0 by omega, Nat.mul_zero, bin_gt (i + 1) (i + 1 + 1) (by omega), Nat.zero_mul]
    · have h1 := bin_step v i (by omega)
      have h2 := bin_step v (i + 1) g
      simp only [bin]
      rw [show v + 1 - (i + 1) = v - i by omega, Nat.add_mul, h2, Nat.add_mul, ← h1, ← Nat.mul_add, ← Nat.mul_add]
      congr 1
      omega
theorem bin_div {v i : Nat} (h : i ≤ v) : bin v i * (v - i) / (i + 1) = bin v (i + 1) := by
  rw [← bin_step v i h]
  exact Nat.mul_div_cancel _ (Nat.succ_pos _)
theorem bin_le : ∀ v w, bin v w ≤ 2 ^ v
  | v, 0 => by rw [bin_zero]; exact Nat.two_pow_pos v
  | 0, w + 1 => by simp [bin]
  | v + 1, w + 1 => by
    have h1 := bin_le v w
    have h2 := bin_le v (w + 1)
    simp only [bin]; rw [Nat.pow_succ]; omega
theorem countP_even (p : Nat → Bool) : ∀ n, (List.range (2 * n)).countP p = (List.range n).countP (fun q => p (2 * q)) + (List.range n).countP (fun q => p (2 * q + 1))
  | 0 => rfl
  | n + 1 => by
    rw [show 2 * (n + 1) = 2 * n + 1 + 1 by omega, List.range_succ, List.range_succ, List.range_succ, List.countP_append, List.countP_append, List.countP_append, List.countP_append, countP_even p n]
    simp only [List.countP_singleton]
    omega
theorem pp_count : ∀ v f w, v ≤ f → (List.range (2 ^ v)).countP (fun s => decide (pp f s = w)) = bin v w
  | 0, f, w, _ => by
    have : pp f 0 = 0 := (pp_zero f 0 (Nat.two_pow_pos f)).2 rfl
    cases w with
    | zero => simp [bin, this]
    | succ w => simp [bin, this]
  | v + 1, 0, w, h => by omega
  | v + 1, f + 1, w, h => by
    rw [Nat.pow_succ, Nat.mul_comm, countP_even]
    have e0 : ∀ q, pp (f + 1) (2 * q) = pp f q := fun q => by simp only [pp]; rw [show 2 * q / 2 = q by omega, show 2 * q % 2 = 0 by omega]; omega
    have e1 : ∀ q, pp (f + 1) (2 * q + 1) = pp f q + 1 := fun q => by simp only [pp]; rw [show (2 * q + 1) / 2 = q by omega, show (2 * q + 1) % 2 = 1 by omega]; omega
    simp only [e0, e1]
    cases w with
    | zero =>
      rw [pp_count v f 0 (by omega), bin_zero, bin_zero]
      simp
    | succ w =>
      have : ∀ q, decide (pp f q + 1 = w + 1) = decide (pp f q = w) := fun q => decide_eq_decide.2 (by omega)
      simp only [this]
      rw [pp_count v f (w + 1) (by omega), pp_count v f w (by omega)]
      simp only [bin]
      omega
theorem countP_split (p q : Nat → Bool) : ∀ l : List Nat, l.countP (fun s => p s && q s) + l.countP (fun s => !(p s) && q s) = l.countP q
  | [] => rfl
  | a :: l => by
    have := countP_split p q l
    rw [List.countP_cons, List.countP_cons, List.countP_cons]
    cases p a <;> cases q a <;> simp <;> omega
def Fm.neg (F : Fm) : Fm := F.plus [⟨1, 0, [F.top]⟩] (F.vars + F.nodes.length)
theorem Fm.neg_good {F : Fm} (hg : F.Good) (hl : F.nodes.length + 1 ≤ 128) : F.neg.Good := by
  have g0 := hg.v0; have gt := hg.topLt
  unfold Fm.neg
  refine hg.plus (by simpa using hl) (fun i hi => ?_) (by omega) (by simp; omega)
  simp only [List.length_cons, List.length_nil] at hi
  obtain rfl : i = 0 := by omega
  refine nodeErr_none.2 ⟨by simp, by simp, rfl, ?_, by simp⟩
  intro a ha
  simp at ha; subst ha; omega
theorem Fm.neg_value {F : Fm} (hg : F.Good) (z : Int) : F.neg.value z = !(F.value z) := by
  have g0 := hg.v0; have gt := hg.topLt
  have hvl : (F.values z).length = F.vars.toNat + F.nodes.length := by unfold Fm.values; rw [valsFrom_length, events_length]
  unfold Fm.value
  have e1 : F.neg.values z = F.values z ++ [nodeVal ⟨1, 0, [F.top]⟩ (cnt (F.values z) [F.top])] := by
    unfold Fm.neg Fm.plus Fm.values
    simp only
    rw [valsFrom_append]; rfl
  have e2 : F.neg.top.toNat = (F.values z).length := by rw [hvl]; unfold Fm.neg Fm.plus; simp only; omega
  rw [e1, e2, List.getD_eq_getElem?_getD, List.getElem?_concat_length, Option.getD_some]
  unfold nodeVal cnt
  cases h : (F.values z).getD F.top.toNat false <;> rw [List.getD_eq_getElem?_getD] at h <;> simp [h]
theorem Fm.neg_terr {F : Fm} (h : F.terr = none) (hl : F.nodes.length + 1 ≤ 128) : F.neg.terr = none := by
  obtain ⟨hg, h12⟩ := Fm.terr_none h
  have := (Fm.good_iff _).2 (Fm.neg_good hg hl)
  unfold Fm.terr
  rw [this]
  exact if_neg (by show ¬ (12 < F.vars); omega)
theorem law_sums {F : Fm} (h : F.terr = none) {w : Nat} (hw : w < F.vars.toNat + 1) : F.weights.getD w 0 + F.neg.weights.getD w 0 = bin F.vars.toNat w := by
  obtain ⟨hg, h12⟩ := Fm.terr_none h
  have g0 := hg.v0
  unfold Fm.weights
  have hv : F.neg.vars = F.vars := rfl
  rw [F.wTo_get _ hw, F.neg.wTo_get _ (by rw [hv]; exact hw), hv]
  simp only [Fm.neg_value hg]
  rw [countP_split (fun s => F.value (s : Nat)) (fun s => decide (pp 24 s = w)), pp_count _ _ _ (by omega)]
theorem Fm.weights_length (F : Fm) : F.weights.length = F.vars.toNat + 1 := F.wTo_length _
theorem sum_take_succ {l : List Nat} {k : Nat} (h : k < l.length) : (l.take (k + 1)).sum = (l.take k).sum + l[k] := by
  induction l generalizing k with
  | nil => simp at h
  | cons a l ih =>
    cases k with
    | zero => simp
    | succ k =>
      have := ih (k := k) (by simpa using h)
      rw [List.take_succ_cons, List.take_succ_cons, List.sum_cons, List.sum_cons, this]
      simp only [List.getElem_cons_succ]
      omega
theorem sum_take_le {l : List Nat} {m k : Nat} (h : ∀ x ∈ l, x ≤ m) : (l.take k).sum ≤ k * m := by
  induction l generalizing k with
  | nil => simp
  | cons a l ih =>
    cases k with
    | zero => simp
    | succ k =>
      rw [List.take_succ_cons, List.sum_cons, Nat.succ_mul]
      have := ih (k := k) (fun x hx => h x (List.mem_cons_of_mem _ hx))
      have := h a (by simp)
      omega
theorem Fm.weights_le {F : Fm} (h : F.vars ≤ 12) : ∀ x ∈ F.weights, x ≤ 4096 := by
  intro x hx
  obtain ⟨i, hi, rfl⟩ := List.getElem_of_mem hx
  have h1 := F.wTo_le (2 ^ F.vars.toNat) i
  have h2 := pow12 (v := F.vars.toNat) (by omega)
  have e : F.weights.getD i 0 = F.weights[i] := by simp [List.getD_eq_getElem?_getD, hi]
  rw [← e]
  exact Nat.le_trans h1 h2
def Fm.count (F : Fm) : Nat := F.weights.sum
def ppBits (s : Nat) (k : Nat) : Nat := (List.range k).countP (fun i => s.testBit i)
theorem ppBits_succ (s k : Nat) : ppBits s (k + 1) = ppBits s k + (if s.testBit k then 1 else 0) := by
  unfold ppBits; rw [List.range_succ, List.countP_append]; simp [List.countP_singleton]
theorem ppBits_le (s k : Nat) : ppBits s k ≤ k := by
  unfold ppBits; exact Nat.le_trans List.countP_le_length (by simp)
theorem ppBits_half : ∀ k s, ppBits s (k + 1) = s % 2 + ppBits (s / 2) k
  | 0, s => by
    rw [ppBits_succ]; unfold ppBits
    simp only [List.range_zero, List.countP_nil, Nat.testBit_zero, decide_eq_true_eq]
    split <;> omega
  | k + 1, s => by
    rw [ppBits_succ, ppBits_half k s, ppBits_succ, Nat.testBit_succ]
    omega
theorem ppBits_eq : ∀ k f s, s < 2 ^ k → k ≤ f → ppBits s k = pp f s
  | 0, f, s, h, _ => by
    obtain rfl : s = 0 := by simpa using h
    rw [(pp_zero f 0 (Nat.two_pow_pos f)).2 rfl]; rfl
  | k + 1, 0, s, _, h => by omega
  | k + 1, f + 1, s, h, hf => by
    rw [ppBits_half, ppBits_eq k f (s / 2) (by rw [Nat.pow_succ] at h; omega) (by omega)]
    simp only [pp]
def plainNd (d : Nd) : Bool := decide (d.kind ≠ 1) && decide (d.kind ≠ 5)
theorem all_take_succ {α : Type} {p : α → Bool} {l : List α} {k : Nat} (hk : k < l.length) : (l.take (k + 1)).all p = ((l.take k).all p && p l[k]) := by
  rw [List.take_succ_eq_append_getElem hk, List.all_append]; simp
theorem Fm.law_sums' {F : Fm} (h : F.terr = none) : ∀ w, w < F.vars.toNat + 1 → F.weights.getD w 0 + F.neg.weights.getD w 0 = bin F.vars.toNat w := fun w hw => law_sums h hw
structure NX where
  b2 : Nat
  a5 : Option Nat
  c5 : Nat
  b8 : Nat
  b10 : Nat
  a11 : Nat
  c11 : Nat
  b19 : Nat
abbrev NX.three (x : NX) : List Value := [.int .i64 1, .int .i64 0, slV (some x.b8) 0 1 1]
theorem bit_one {k : Nat} (j : Nat) (hk : k < 9223372036854775808) (hj : j ≤ 64) : iand (ishr (k : Int) j) 1 = if k.testBit j then 1 else 0 := by
  rw [ishr_nat hj, iand_one (Nat.lt_of_le_of_lt (Nat.shiftRight_le _ _) hk), Nat.testBit_eq_decide_div_mod_eq, Nat.shiftRight_eq_div_pow]
  simp only [decide_eq_true_eq]
  split <;> omega
theorem bit_step (k j : Nat) (h : k < 9223372036854775808 ∧ j ≤ 64) : iand (ishr (k : Int) j) 1 = if k.testBit j then 1 else 0 := bit_one j h.1 h.2
end Go.GL
