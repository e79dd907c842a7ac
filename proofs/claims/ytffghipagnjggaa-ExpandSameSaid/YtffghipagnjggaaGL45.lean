import Derived.Test.YtffghipagnjggaaGL44
namespace Go.GL
set_option linter.unusedVariables false
set_option linter.unusedSimpArgs false
def Fm.up1 (F : Fm) (s i : Nat) : Bool := !(s.testBit i) && (F.value ((s ||| 2 ^ i : Nat) : Int) && !(F.value (s : Nat)))
def Fm.dn1 (F : Fm) (s i : Nat) : Bool := !(s.testBit i) && (F.value (s : Nat) && !(F.value ((s ||| 2 ^ i : Nat) : Int)))
def Fm.ups (F : Fm) (k i : Nat) : Bool := (List.range k).any (fun s => F.up1 s i)
def Fm.dns (F : Fm) (k i : Nat) : Bool := (List.range k).any (fun s => F.dn1 s i)
theorem Fm.ups_succ (F : Fm) (k i : Nat) : F.ups (k + 1) i = (F.ups k i || F.up1 k i) := by
  unfold Fm.ups; rw [List.range_succ, List.any_append]; simp
theorem Fm.dns_succ (F : Fm) (k i : Nat) : F.dns (k + 1) i = (F.dns k i || F.dn1 k i) := by
  unfold Fm.dns; rw [List.range_succ, List.any_append]; simp
abbrev Fm.all2 (F : Fm) : Nat := 2 ^ F.vars.toNat
def Fm.up (F : Fm) (i : Nat) : Bool := F.ups F.all2 i
def Fm.dn (F : Fm) (i : Nat) : Bool := F.dns F.all2 i
theorem or_self_bit {s i : Nat} (h : s.testBit i = true) : s ||| 2 ^ i = s := by
  refine Nat.eq_of_testBit_eq fun j => ?_
  rw [Nat.testBit_or]
  by_cases e : i = j
  · subst e; rw [h]; rfl
  · rw [Nat.testBit_two_pow_of_ne e, Bool.or_false]
theorem Fm.dn1_mono (F : Fm) (s i : Nat) : F.dn1 s i = !(F.mono1 s i) := by
  unfold Fm.dn1 Fm.mono1
  cases h : s.testBit i with
  | false => cases F.value (s : Nat) <;> cases F.value ((s ||| 2 ^ i : Nat) : Int) <;> rfl
  | true => rw [or_self_bit h]; cases F.value (s : Nat) <;> rfl
theorem Fm.updn_dif (F : Fm) (s i : Nat) : (F.up1 s i || F.dn1 s i) = F.dif1 s i := by
  unfold Fm.up1 Fm.dn1 Fm.dif1
  cases h : s.testBit i with
  | false => cases F.value (s : Nat) <;> cases F.value ((s ||| 2 ^ i : Nat) : Int) <;> rfl
  | true => rw [or_self_bit h]; cases F.value (s : Nat) <;> rfl
def Fm.noDn (F : Fm) (k : Nat) : Bool := (List.range k).all (fun i => !(F.dn i))
theorem Fm.noDn_mono (F : Fm) : F.noDn F.vars.toNat = F.mono := by
  cases hm : F.mono with
  | true =>
    refine List.all_eq_true.2 fun i hi => ?_
    have : F.dn i = false := by
      unfold Fm.dn Fm.dns
      rw [List.any_eq_false]
      intro s hs
      rw [F.dn1_mono, Fm.mono_get hm (List.mem_range.1 hs) (List.mem_range.1 hi)]; simp
    rw [this]; rfl
  | false =>
    cases hd : F.noDn F.vars.toNat with
    | false => rfl
    | true =>
      rw [← hm]
      symm
      refine Fm.mono_true fun s hs i hi => ?_
      have h1 := List.all_eq_true.1 hd i (List.mem_range.2 hi)
      have h2 : F.dn i = false := by simpa using h1
      unfold Fm.dn Fm.dns at h2
      rw [List.any_eq_false] at h2
      have h3 := h2 s (List.mem_range.2 hs)
      rw [F.dn1_mono] at h3
      simpa using h3
theorem Fm.mono_of_dn {F : Fm} {i : Nat} (hi : i < F.vars.toNat) (h : F.dn i = true) : F.mono = false := by
  rw [← F.noDn_mono]
  cases hd : F.noDn F.vars.toNat with
  | false => rfl
  | true =>
    have h1 := List.all_eq_true.1 hd i (List.mem_range.2 hi)
    rw [h] at h1; simp at h1
theorem Fm.mono_of_all {F : Fm} (h : ∀ i, i < F.vars.toNat → F.dn i = false) : F.mono = true := by
  rw [← F.noDn_mono]
  exact List.all_eq_true.2 fun i hi => by rw [h i (List.mem_range.1 hi)]; rfl
def Fm.relTo (F : Fm) : Nat → Nat
  | 0 => 0
  | k + 1 => bif F.up k || F.dn k then F.relTo k ||| 2 ^ k else F.relTo k
def Fm.rel (F : Fm) : Nat := F.relTo F.vars.toNat
theorem Fm.relTo_lt (F : Fm) : ∀ k, F.relTo k < 2 ^ k
  | 0 => by simp [Fm.relTo]
  | k + 1 => by
    have := F.relTo_lt k
    have h2 : 2 ^ k < 2 ^ (k + 1) := Nat.pow_lt_pow_right (by decide) (by omega)
    unfold Fm.relTo
    cases F.up k || F.dn k with
    | false => simp only [cond_false]; omega
    | true => exact Nat.or_lt_two_pow (by omega) h2
theorem Fm.relTo_bit (F : Fm) (i : Nat) : ∀ k, (F.relTo k).testBit i = (decide (i < k) && (F.up i || F.dn i))
  | 0 => by simp [Fm.relTo]
  | k + 1 => by
    have ih := F.relTo_bit i k
    unfold Fm.relTo
    by_cases e : i = k
    · subst e
      have h0 := Nat.testBit_lt_two_pow (F.relTo_lt i)
      cases h : F.up i || F.dn i with
      | false => simp [h0]
      | true => simp [Nat.testBit_or, Nat.testBit_two_pow_self]
    · have hd : decide (i < k + 1) = decide (i < k) := decide_eq_decide.2 (by omega)
      rw [hd, ← ih]
      cases F.up k || F.dn k with
      | false => rfl
      | true => simp only [cond_true, Nat.testBit_or, Nat.testBit_two_pow_of_ne (fun h => e h.symm), Bool.or_false]
def WitAt (F : Fm) (o : Option (Nat × Nat)) : Prop :=
  match o with
  | none => ∀ s, s < F.all2 → ∀ i, i < F.vars.toNat → F.dn1 s i = false
  | some (s, i) => s < F.all2 ∧ i < F.vars.toNat ∧ F.dn1 s i = true ∧ (∀ t, t < s → ∀ j, j < F.vars.toNat → F.dn1 t j = false) ∧ (∀ j, j < i → F.dn1 s j = false)
theorem WitAt.uniq {F : Fm} {o o' : Option (Nat × Nat)} (h : WitAt F o) (h' : WitAt F o') : o = o' := by
  rcases o with _ | ⟨s, i⟩ <;> rcases o' with _ | ⟨t, j⟩
  · rfl
  · obtain ⟨h1, h2, h3, _⟩ := h'
    rw [h t h1 j h2] at h3; cases h3
  · obtain ⟨h1, h2, h3, _⟩ := h
    rw [h' s h1 i h2] at h3; cases h3
  · obtain ⟨h1, h2, h3, h4, h5⟩ := h
    obtain ⟨g1, g2, g3, g4, g5⟩ := h'
    rcases Nat.lt_trichotomy s t with q | q | q
    · rw [g4 s q i h2] at h3; cases h3
    · subst q
      rcases Nat.lt_trichotomy i j with r | r | r
      · rw [g5 i r] at h3; cases h3
      · rw [r]
      · rw [h5 j r] at g3; cases g3
    · rw [h4 t q j g2] at g3; cases g3
theorem WitAt.mono {F : Fm} {o : Option (Nat × Nat)} (h : WitAt F o) : F.mono = o.isNone := by
  rcases o with _ | ⟨s, i⟩
  · exact Fm.mono_true fun s hs i hi => by have := h s hs i hi; rw [F.dn1_mono] at this; simpa using this
  · obtain ⟨h1, h2, h3, _⟩ := h
    rw [F.dn1_mono] at h3
    exact Fm.mono_false h1 h2 (by simpa using h3)
def Fm.dirErr (F : Fm) (i : Int) : Option Int := match F.terr with | some e => some e | none => if i < 0 ∨ F.vars ≤ i then some 10 else none
theorem Fm.dirErr_1 {F : Fm} {i e : Int} (h : F.terr = some e) : F.dirErr i = some e := by unfold Fm.dirErr; rw [h]
theorem Fm.dirErr_2 {F : Fm} {i : Int} (h : F.terr = none) (h2 : i < 0 ∨ F.vars ≤ i) : F.dirErr i = some 10 := by unfold Fm.dirErr; rw [h]; exact if_pos h2
theorem Fm.dirErr_3 {F : Fm} {i : Int} (h : F.terr = none) (h2 : ¬ (i < 0 ∨ F.vars ≤ i)) : F.dirErr i = none := by unfold Fm.dirErr; rw [h]; exact if_neg h2
def Fm.chg (F : Fm) (s i : Nat) : Int := bif F.up1 s i then 1 else bif F.dn1 s i then -1 else 0
theorem Fm.chg_up (F : Fm) (s i : Nat) : decide (0 < F.chg s i) = F.up1 s i := by
  unfold Fm.chg
  cases F.up1 s i with
  | true => rfl
  | false => cases F.dn1 s i <;> rfl
theorem Fm.chg_dn (F : Fm) (s i : Nat) : decide (F.chg s i < 0) = F.dn1 s i := by
  unfold Fm.chg
  cases hu : F.up1 s i with
  | true =>
    have : F.dn1 s i = false := by
      unfold Fm.up1 at hu; unfold Fm.dn1
      cases h1 : s.testBit i <;> cases h2 : F.value (s : Nat) <;> cases h3 : F.value ((s ||| 2 ^ i : Nat) : Int) <;> simp_all
    rw [this]; rfl
  | false => cases F.dn1 s i <;> rfl
theorem Fm.neg_up1 {F : Fm} (hg : F.Good) (s i : Nat) : F.neg.up1 s i = F.dn1 s i := by
  unfold Fm.up1 Fm.dn1
  rw [Fm.neg_value hg, Fm.neg_value hg]
  cases s.testBit i <;> cases F.value (s : Nat) <;> cases F.value ((s ||| 2 ^ i : Nat) : Int) <;> rfl
theorem Fm.neg_dn1 {F : Fm} (hg : F.Good) (s i : Nat) : F.neg.dn1 s i = F.up1 s i := by
  unfold Fm.up1 Fm.dn1
  rw [Fm.neg_value hg, Fm.neg_value hg]
  cases s.testBit i <;> cases F.value (s : Nat) <;> cases F.value ((s ||| 2 ^ i : Nat) : Int) <;> rfl
theorem Fm.neg_up {F : Fm} (hg : F.Good) (i : Nat) : F.neg.up i = F.dn i := by
  unfold Fm.up Fm.dn Fm.ups Fm.dns
  have e : F.neg.all2 = F.all2 := rfl
  rw [e]; congr 1; exact funext fun s => Fm.neg_up1 hg s i
theorem Fm.neg_dn {F : Fm} (hg : F.Good) (i : Nat) : F.neg.dn i = F.up i := by
  unfold Fm.up Fm.dn Fm.ups Fm.dns
  have e : F.neg.all2 = F.all2 := rfl
  rw [e]; congr 1; exact funext fun s => Fm.neg_dn1 hg s i
theorem Fm.neg_rel {F : Fm} (hg : F.Good) : F.neg.rel = F.rel := by
  have e : F.neg.vars.toNat = F.vars.toNat := rfl
  unfold Fm.rel
  rw [e]
  generalize F.vars.toNat = k
  induction k with
  | zero => rfl
  | succ k ih => unfold Fm.relTo; rw [ih, Fm.neg_up hg, Fm.neg_dn hg, Bool.or_comm]
theorem Fm.neg_dirErr {F : Fm} (h : F.terr = none) (hl : F.nodes.length + 1 ≤ 128) (i : Int) : F.neg.dirErr i = F.dirErr i := by
  unfold Fm.dirErr; rw [h, Fm.neg_terr h hl]; rfl
def Fm.syn (F : Fm) : Bool := F.trim.nodes.all plainNd
def Fm.synRef (F : Fm) (k : Nat) : Bool := (List.range k).all (fun i => !(F.below.getD (F.vars.toNat + i) false) || plainNd (F.nodes.getD i ⟨0, 0, []⟩))
theorem Fm.synRef_succ (F : Fm) (k : Nat) : F.synRef (k + 1) = (F.synRef k && (!(F.below.getD (F.vars.toNat + k) false) || plainNd (F.nodes.getD k ⟨0, 0, []⟩))) := by
  unfold Fm.synRef; rw [List.range_succ, List.all_append]; simp
theorem Fm.ren_kind (F : Fm) (d : Nd) : (F.ren d).kind = d.kind := rfl
theorem Fm.syn_ref {F : Fm} (hg : F.Good) : F.synRef F.nodes.length = F.syn := by
  have hp : ∀ d, plainNd (F.ren d) = plainNd d := fun d => rfl
  cases hs : F.syn with
  | true =>
    refine List.all_eq_true.2 fun i hi => ?_
    have hi' := List.mem_range.1 hi
    cases hb : F.below.getD (F.vars.toNat + i) false with
    | false => rfl
    | true =>
      have h1 := Fm.trim_at hg hi' hb
      have h2 := List.all_eq_true.1 hs _ (List.mem_of_getElem? h1)
      rw [hp] at h2
      rw [List.getD_eq_getElem?_getD, List.getElem?_eq_getElem hi', Option.getD_some, h2]; rfl
  | false =>
    cases hr : F.synRef F.nodes.length with
    | false => rfl
    | true =>
      rw [← hs]
      symm
      refine List.all_eq_true.2 fun d hd => ?_
      obtain ⟨i, hi, rfl⟩ := List.getElem_of_mem hd
      obtain ⟨k, hk, hb, _, he⟩ := Fm.trim_fits hg hi
      rw [he, hp]
      have h1 := List.all_eq_true.1 hr k (List.mem_range.2 hk)
      rw [hb, List.getD_eq_getElem?_getD, List.getElem?_eq_getElem hk, Option.getD_some] at h1
      simpa using h1
theorem Fm.syn_mono {F : Fm} (hg : F.Good) (h : F.syn = true) : F.mono = true := by
  have h1 : F.trim.mono = true := law_rel_plain (Fm.trim_good hg) (fun d hd => by have := List.all_eq_true.1 h d hd; simpa [plainNd] using this)
  refine Fm.mono_true fun s hs i hi => ?_
  have := Fm.mono_get h1 (s := s) (i := i) (by rw [Fm.trim_vars]; exact hs) (by rw [Fm.trim_vars]; exact hi)
  unfold Fm.mono1 at this ⊢
  rw [Fm.trim_value hg, Fm.trim_value hg] at this
  exact this
def exF28a : Fm := ⟨2, [⟨1, 0, [1]⟩, ⟨1, 0, [2]⟩, ⟨3, 0, [0, 3]⟩], 4⟩
def exF28b : Fm := ⟨2, [⟨5, 0, [0, 1]⟩], 2⟩
theorem exF28a_good : exF28a.Good := (Fm.good_iff _).1 (by decide)
theorem exF28b_good : exF28b.Good := (Fm.good_iff _).1 (by decide)
theorem exF28a_terr : exF28a.terr = none := by decide
theorem exF28b_terr : exF28b.terr = none := by decide
theorem exF28a_err : exF28a.err = none := by decide
theorem exF28a_syn : exF28a.syn = false := by rw [← Fm.syn_ref exF28a_good]; decide +kernel
theorem exF28a_mono : exF28a.mono = true := by decide +kernel
theorem exF28b_wit : WitAt exF28b (some (1, 1)) := by
  refine ⟨by decide, by decide, by decide +kernel, ?_, ?_⟩
  · intro t ht j hj
    have : j < 2 := hj
    obtain rfl : t = 0 := by omega
    rcases j with _ | _ | j
    · decide +kernel
    · decide +kernel
    · omega
  · intro j hj
    obtain rfl : j = 0 := by omega
    decide +kernel
def wS : Option (Nat × Nat) → Nat
  | none => 0
  | some p => p.1
def wI : Option (Nat × Nat) → Nat
  | none => 0
  | some p => p.2
def Fm.witErr (F : Fm) (o : Option (Nat × Nat)) : Option Int := match F.terr with | some e => some e | none => if o.isNone then some 17 else none
theorem Fm.witErr_1 {F : Fm} {o : Option (Nat × Nat)} {e : Int} (h : F.terr = some e) : F.witErr o = some e := by unfold Fm.witErr; rw [h]
theorem Fm.witErr_2 {F : Fm} (h : F.terr = none) : F.witErr none = some 17 := by unfold Fm.witErr; rw [h]; rfl
theorem Fm.witErr_3 {F : Fm} {p : Nat × Nat} (h : F.terr = none) : F.witErr (some p) = none := by unfold Fm.witErr; rw [h]; rfl
def WitOf (F : Fm) (o : Option (Nat × Nat)) : Prop := (F.terr = none → WitAt F o) ∧ (F.terr ≠ none → o = none)
theorem WitOf.uniq {F : Fm} {o o' : Option (Nat × Nat)} (h : WitOf F o) (h' : WitOf F o') : o = o' := by
  cases ht : F.terr with
  | none => exact (h.1 ht).uniq (h'.1 ht)
  | some e => rw [h.2 (by rw [ht]; simp), h'.2 (by rw [ht]; simp)]
theorem up1_eq {F : Fm} {s i : Nat} (h : s.testBit i = false) : F.up1 s i = (F.value ((s ||| 2 ^ i : Nat) : Int) && !(F.value (s : Nat))) := by unfold Fm.up1; rw [h]; rfl
theorem dn1_eq {F : Fm} {s i : Nat} (h : s.testBit i = false) : F.dn1 s i = (F.value (s : Nat) && !(F.value ((s ||| 2 ^ i : Nat) : Int))) := by unfold Fm.dn1; rw [h]; rfl
theorem up1_set {F : Fm} {s i : Nat} (h : s.testBit i = true) : F.up1 s i = false := by unfold Fm.up1; rw [h]; rfl
theorem dn1_set {F : Fm} {s i : Nat} (h : s.testBit i = true) : F.dn1 s i = false := by unfold Fm.dn1; rw [h]; rfl
theorem synRef_mono {F : Fm} {k n : Nat} (h : F.synRef k = false) (hk : k ≤ n) : F.synRef n = false := by
  unfold Fm.synRef at h ⊢
  rw [List.all_eq_false] at h ⊢
  obtain ⟨x, hx, hp⟩ := h
  exact ⟨x, List.mem_range.2 (by have := List.mem_range.1 hx; omega), hp⟩
theorem Fm.noDn_succ (F : Fm) (k : Nat) : F.noDn (k + 1) = (F.noDn k && !(F.dn k)) := by
  unfold Fm.noDn; rw [List.range_succ, List.all_append]; simp
theorem Fm.err_terr {F : Fm} (h : F.terr = none) : F.err = none := (Fm.good_iff F).2 (Fm.terr_none h).1
end Go.GL
