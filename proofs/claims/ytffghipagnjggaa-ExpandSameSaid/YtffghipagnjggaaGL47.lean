import Derived.Test.YtffghipagnjggaaGL46
namespace Go.GL
set_option linter.unusedVariables false
set_option linter.unusedSimpArgs false
structure Pl where
  ev : Int
  fl : Bool
  top : Bool
deriving DecidableEq
structure Mo where
  f : Nat
  log : List Pl
deriving DecidableEq
abbrev Mo.zero : Mo := ⟨0, []⟩
def plCells (p : Pl) : List Value := [.int .i64 p.ev, .bool p.fl, .bool p.top]
def logCells (l : List Pl) : List Value := l.flatMap plCells
theorem logCells_length (l : List Pl) : (logCells l).length = l.length * 3 := by
  induction l with
  | nil => rfl
  | cons p l ih => simp only [logCells, List.flatMap_cons, List.length_append, List.length_cons] at ih ⊢; rw [ih]; simp [plCells]; omega
theorem logCells_append (l m : List Pl) : logCells (l ++ m) = logCells l ++ logCells m := by simp [logCells]
theorem logCells_one (l : List Pl) : ∀ u ∈ logCells l, u.oneCell' = true := by
  intro u hu
  simp only [logCells, List.mem_flatMap] at hu
  obtain ⟨p, _, hp⟩ := hu
  simp only [plCells, List.mem_cons, List.not_mem_nil, or_false] at hp
  rcases hp with rfl | rfl | rfl <;> rfl
theorem logCells_get {l : List Pl} : ∀ {i : Nat} (hi : i < l.length), ∀ j v, (plCells l[i])[j]? = some v → (logCells l)[i * 3 + j]? = some v := by
  induction l with
  | nil => intro i hi; simp at hi
  | cons p l ih =>
    intro i hi j v hv
    have e : logCells (p :: l) = plCells p ++ logCells l := rfl
    rw [e]
    cases i with
    | zero =>
      have hj : j < 3 := by have := (List.getElem?_eq_some_iff.1 hv).1; simpa [plCells] using this
      rw [List.getElem?_append_left (by simp [plCells]; omega)]
      simpa using hv
    | succ i =>
      rw [List.getElem?_append_right (by simp [plCells]; omega)]
      have := ih (i := i) (by simpa using hi) j v (by simpa using hv)
      rw [← this]
      congr 1
      simp [plCells]; omega
def Fm.playErr (F : Fm) (S : Mo) (i : Int) (fl : Bool) : Option Int :=
  if i < 0 ∨ F.vars ≤ i then some 10 else if S.f.testBit i.toNat = fl then some 12 else if S.log.length = 4096 then some 4 else none
def Mo.flip (S : Mo) (i : Int) : Nat := S.f ^^^ 2 ^ i.toNat
def Fm.play (F : Fm) (S : Mo) (i : Int) (fl : Bool) : Mo :=
  match F.playErr S i fl with
  | some _ => S
  | none => ⟨S.flip i, S.log ++ [⟨i, fl, F.value (S.flip i : Nat)⟩]⟩
def Fm.playTop (F : Fm) (S : Mo) (i : Int) (fl : Bool) : Bool := (F.playErr S i fl).isNone && F.value (S.flip i : Nat)
def Mo.undoErr (S : Mo) : Option Int := if S.log = [] then some 12 else none
def Mo.undo (S : Mo) : Mo := match S.log.getLast? with
  | none => S
  | some p => ⟨S.f ^^^ 2 ^ p.ev.toNat, S.log.dropLast⟩
structure MoOk (F : Fm) (S : Mo) : Prop where
  lt : S.f < 2 ^ F.vars.toNat
  len : S.log.length ≤ 4096
  ev : ∀ p ∈ S.log, 0 ≤ p.ev ∧ p.ev < F.vars
theorem MoOk.nil (F : Fm) : MoOk F ⟨0, []⟩ := ⟨Nat.two_pow_pos _, by simp, by simp⟩
theorem Fm.playErr_1 {F : Fm} {S : Mo} {i : Int} {fl : Bool} (h : i < 0 ∨ F.vars ≤ i) : F.playErr S i fl = some 10 := if_pos h
theorem Fm.playErr_2 {F : Fm} {S : Mo} {i : Int} {fl : Bool} (h : ¬ (i < 0 ∨ F.vars ≤ i)) (h2 : S.f.testBit i.toNat = fl) : F.playErr S i fl = some 12 := by
  unfold Fm.playErr; rw [if_neg h, if_pos h2]
theorem Fm.playErr_3 {F : Fm} {S : Mo} {i : Int} {fl : Bool} (h : ¬ (i < 0 ∨ F.vars ≤ i)) (h2 : ¬ S.f.testBit i.toNat = fl) (h3 : S.log.length = 4096) : F.playErr S i fl = some 4 := by
  unfold Fm.playErr; rw [if_neg h, if_neg h2, if_pos h3]
theorem Fm.playErr_4 {F : Fm} {S : Mo} {i : Int} {fl : Bool} (h : ¬ (i < 0 ∨ F.vars ≤ i)) (h2 : ¬ S.f.testBit i.toNat = fl) (h3 : ¬ S.log.length = 4096) : F.playErr S i fl = none := by
  unfold Fm.playErr; rw [if_neg h, if_neg h2, if_neg h3]
theorem Fm.playErr_none {F : Fm} {S : Mo} {i : Int} {fl : Bool} (h : F.playErr S i fl = none) : (0 ≤ i ∧ i < F.vars) ∧ S.f.testBit i.toNat = !fl ∧ S.log.length ≠ 4096 := by
  unfold Fm.playErr at h
  by_cases h1 : i < 0 ∨ F.vars ≤ i
  · rw [if_pos h1] at h; cases h
  · rw [if_neg h1] at h
    by_cases h2 : S.f.testBit i.toNat = fl
    · rw [if_pos h2] at h; cases h
    · rw [if_neg h2] at h
      by_cases h3 : S.log.length = 4096
      · rw [if_pos h3] at h; cases h
      · exact ⟨by omega, by cases hb : S.f.testBit i.toNat <;> cases fl <;> simp_all, h3⟩
theorem Fm.play_err {F : Fm} {S : Mo} {i e : Int} {fl : Bool} (h : F.playErr S i fl = some e) : F.play S i fl = S := by unfold Fm.play; rw [h]
theorem Fm.play_ok {F : Fm} {S : Mo} {i : Int} {fl : Bool} (h : F.playErr S i fl = none) : F.play S i fl = ⟨S.flip i, S.log ++ [⟨i, fl, F.value (S.flip i : Nat)⟩]⟩ := by unfold Fm.play; rw [h]
abbrev Mo.push (S : Mo) (f : Nat) (p : Pl) : Mo := ⟨f, S.log ++ [p]⟩
theorem logCells_last (l : List Pl) (p : Pl) : ∀ j v, (plCells p)[j]? = some v → (logCells (l ++ [p]))[l.length * 3 + j]? = some v := by
  intro j v hv
  have hj : j < 3 := by have := (List.getElem?_eq_some_iff.1 hv).1; simpa [plCells] using this
  rw [logCells_append, List.getElem?_append_right (by rw [logCells_length]; omega), logCells_length, show l.length * 3 + j - l.length * 3 = j by omega]
  simpa [logCells] using hv
theorem xor_bit_lt {s v i : Nat} (h : s < 2 ^ v) (hi : i < v) : s ^^^ 2 ^ i < 2 ^ v := Nat.xor_lt_two_pow h (Nat.pow_lt_pow_right (by decide) hi)
theorem MoOk.play {F : Fm} {S : Mo} (h : MoOk F S) (i : Int) (fl : Bool) : MoOk F (F.play S i fl) := by
  cases he : F.playErr S i fl with
  | some e => rw [Fm.play_err he]; exact h
  | none =>
    obtain ⟨h1, h2, h3⟩ := Fm.playErr_none he
    rw [Fm.play_ok he]
    refine ⟨xor_bit_lt h.lt (by omega), by have := h.len; simp; omega, ?_⟩
    intro p hp
    rcases List.mem_append.1 hp with hp | hp
    · exact h.ev p hp
    · simp at hp; subst hp; exact h1
theorem Mo.undo_nil {S : Mo} (h : S.log = []) : S.undo = S := by unfold Mo.undo; rw [h]; rfl
theorem Mo.undo_snoc {f : Nat} {l : List Pl} {p : Pl} : (Mo.mk f (l ++ [p])).undo = ⟨f ^^^ 2 ^ p.ev.toNat, l⟩ := by
  unfold Mo.undo
  simp
theorem MoOk.undo {F : Fm} {S : Mo} (h : MoOk F S) : MoOk F S.undo := by
  obtain ⟨f, log⟩ := S
  rcases List.eq_nil_or_concat log with rfl | ⟨l, p, rfl⟩
  · exact h
  · rw [List.concat_eq_append] at h ⊢
    rw [Mo.undo_snoc]
    have hp := h.ev p (by simp)
    refine ⟨xor_bit_lt h.lt (by omega), by have := h.len; simp at this; show l.length ≤ 4096; omega, fun q hq => h.ev q (by simp [show q ∈ l from hq])⟩
def Mo.st (l : List Pl) : Mo := ⟨l.foldl (fun s p => s ^^^ 2 ^ p.ev.toNat) 0, l⟩
theorem Mo.st_snoc (l : List Pl) (p : Pl) : (Mo.st (l ++ [p])).f = (Mo.st l).f ^^^ 2 ^ p.ev.toNat := by unfold Mo.st; simp
structure Hist (F : Fm) (l : List Pl) : Prop where
  ok : ∀ (k : Nat) (p : Pl), l[k]? = some p → F.playErr (Mo.st (l.take k)) p.ev p.fl = none ∧ p.top = F.value ((Mo.st (l.take k)).flip p.ev : Nat)
theorem Hist.nil (F : Fm) : Hist F [] := ⟨fun k p h => by simp at h⟩
theorem Hist.take {F : Fm} {l : List Pl} (h : Hist F l) (n : Nat) : Hist F (l.take n) := ⟨fun k p hk => by
  have hkn : k < n := by
    have := (List.getElem?_eq_some_iff.1 hk).1
    rw [List.length_take] at this; omega
  rw [List.getElem?_take] at hk
  rw [if_pos hkn] at hk
  rw [List.take_take, Nat.min_eq_left (by omega)]
  exact h.ok k p hk⟩
theorem Hist.snoc {F : Fm} {l : List Pl} (h : Hist F l) {i : Int} {fl : Bool} (he : F.playErr (Mo.st l) i fl = none) : Hist F (l ++ [⟨i, fl, F.value ((Mo.st l).flip i : Nat)⟩]) := ⟨fun k p hk => by
  rcases Nat.lt_or_ge k l.length with g | g
  · rw [List.getElem?_append_left g] at hk
    rw [List.take_append_of_le_length (by omega)]
    exact h.ok k p hk
  · rw [List.getElem?_append_right g] at hk
    have hk0 : k - l.length = 0 := by
      have := (List.getElem?_eq_some_iff.1 hk).1
      simp at this; omega
    have hk1 : k = l.length := by omega
    subst hk1
    simp at hk
    subst hk
    rw [List.take_left]
    exact ⟨he, rfl⟩⟩
structure Reach (F : Fm) (S : Mo) : Prop where
  ok : MoOk F S
  st : S.f = (Mo.st S.log).f
  hist : Hist F S.log
theorem Mo.eta (S : Mo) (h : S.f = (Mo.st S.log).f) : S = Mo.st S.log := by
  obtain ⟨f, l⟩ := S
  show Mo.mk f l = _
  rw [show f = (Mo.st l).f from h]; rfl
theorem Reach.nil (F : Fm) : Reach F ⟨0, []⟩ := ⟨MoOk.nil F, rfl, Hist.nil F⟩
theorem Reach.play {F : Fm} {S : Mo} (h : Reach F S) (i : Int) (fl : Bool) : Reach F (F.play S i fl) := by
  refine ⟨h.ok.play i fl, ?_, ?_⟩
  · cases he : F.playErr S i fl with
    | some e => rw [Fm.play_err he]; exact h.st
    | none => rw [Fm.play_ok he, Mo.st_snoc, ← h.st]; rfl
  · cases he : F.playErr S i fl with
    | some e => rw [Fm.play_err he]; exact h.hist
    | none =>
      rw [Fm.play_ok he]
      have hS := Mo.eta S h.st
      have := h.hist.snoc (i := i) (fl := fl) (by rw [← hS]; exact he)
      rw [← hS] at this
      exact this
theorem Reach.undo {F : Fm} {S : Mo} (h : Reach F S) : Reach F S.undo := by
  have hok := h.ok.undo
  obtain ⟨f, log⟩ := S
  rcases List.eq_nil_or_concat log with rfl | ⟨l, p, rfl⟩
  · exact h
  · rw [List.concat_eq_append] at h hok ⊢
    rw [Mo.undo_snoc] at hok ⊢
    refine ⟨hok, ?_, ?_⟩
    · show f ^^^ 2 ^ p.ev.toNat = (Mo.st l).f
      have := h.st
      rw [Mo.st_snoc] at this
      have h2 : f = (Mo.st l).f ^^^ 2 ^ p.ev.toNat := this
      rw [h2, Nat.xor_assoc, Nat.xor_self, Nat.xor_zero]
    · have := h.hist.take l.length
      have h2 : Hist F ((l ++ [p]).take l.length) := this
      rwa [List.take_left] at h2
theorem Reach.take {F : Fm} {S : Mo} (h : Reach F S) (k : Nat) : Reach F (Mo.st (S.log.take k)) := by
  induction k with
  | zero => exact Reach.nil F
  | succ k ih =>
    rcases Nat.lt_or_ge k S.log.length with g | g
    · have hk : S.log[k]? = some S.log[k] := List.getElem?_eq_getElem g
      obtain ⟨h1, h2⟩ := h.hist.ok k _ hk
      have h3 := ih.play S.log[k].ev S.log[k].fl
      rw [Fm.play_ok h1, ← h2] at h3
      have h4 := Mo.eta _ h3.st
      rw [h4] at h3
      rw [List.take_succ_eq_append_getElem g]
      exact h3
    · rw [List.take_of_length_le (by omega)] at ih ⊢
      exact ih
theorem Reach.step {F : Fm} {S : Mo} (h : Reach F S) {k : Nat} (hk : k < S.log.length) : F.playErr (Mo.st (S.log.take k)) S.log[k].ev S.log[k].fl = none ∧ F.playTop (Mo.st (S.log.take k)) S.log[k].ev S.log[k].fl = S.log[k].top ∧ F.play (Mo.st (S.log.take k)) S.log[k].ev S.log[k].fl = Mo.st (S.log.take (k + 1)) := by
  obtain ⟨h1, h2⟩ := h.hist.ok k _ (List.getElem?_eq_getElem hk)
  refine ⟨h1, by unfold Fm.playTop; rw [h1, h2]; rfl, ?_⟩
  rw [Fm.play_ok h1, ← h2]
  have h3 := (h.take k).play S.log[k].ev S.log[k].fl
  rw [Fm.play_ok h1, ← h2] at h3
  rw [Mo.eta _ h3.st, List.take_succ_eq_append_getElem hk]
  rfl
theorem Mo.st_undo (l : List Pl) {k : Nat} (hk : k < l.length) : (Mo.st (l.take (k + 1))).undo = Mo.st (l.take k) := by
  rw [List.take_succ_eq_append_getElem hk]
  have e : Mo.st (l.take k ++ [l[k]]) = ⟨(Mo.st (l.take k)).f ^^^ 2 ^ l[k].ev.toNat, l.take k ++ [l[k]]⟩ := by
    rw [← Mo.st_snoc]; rfl
  rw [e, Mo.undo_snoc, Nat.xor_assoc, Nat.xor_self, Nat.xor_zero]
  rfl
def Fm.act (F : Fm) (S : Mo) (a : Int × Int) : Mo := if a.1.tmod 4 = 3 then S.undo else if a.1.tmod 4 = 2 then F.play S a.2 false else F.play S a.2 true
def Fm.acts (F : Fm) (l : List (Int × Int)) : Mo := l.foldl F.act ⟨0, []⟩
theorem Fm.acts_succ (F : Fm) {l : List (Int × Int)} {k : Nat} (hk : k < l.length) : F.acts (l.take (k + 1)) = F.act (F.acts (l.take k)) l[k] := by
  unfold Fm.acts
  rw [List.take_succ_eq_append_getElem hk, List.foldl_append]
  rfl
theorem Reach.act {F : Fm} {S : Mo} (h : Reach F S) (a : Int × Int) : Reach F (F.act S a) := by
  unfold Fm.act
  split
  · exact h.undo
  · split
    · exact h.play _ _
    · exact h.play _ _
theorem Reach.acts (F : Fm) (l : List (Int × Int)) : Reach F (F.acts l) := by
  have : ∀ k, Reach F (F.acts (l.take k)) := by
    intro k
    induction k with
    | zero => exact Reach.nil F
    | succ k ih =>
      rcases Nat.lt_or_ge k l.length with g | g
      · rw [F.acts_succ g]; exact ih.act _
      · rw [List.take_of_length_le (by omega)] at ih ⊢; exact ih
  have h := this l.length
  rwa [List.take_length] at h
theorem Fm.acts_len (F : Fm) (l : List (Int × Int)) : ∀ k, (F.acts (l.take k)).log.length ≤ k := by
  intro k
  induction k with
  | zero => simp [Fm.acts]
  | succ k ih =>
    rcases Nat.lt_or_ge k l.length with g | g
    · rw [F.acts_succ g]
      have hplay : ∀ i fl, (F.play (F.acts (l.take k)) i fl).log.length ≤ k + 1 := by
        intro i fl
        cases he : F.playErr (F.acts (l.take k)) i fl with
        | some e => rw [Fm.play_err he]; omega
        | none => rw [Fm.play_ok he]; simp; omega
      unfold Fm.act
      split
      · generalize F.acts (l.take k) = S at *
        obtain ⟨f, log⟩ := S
        rcases List.eq_nil_or_concat log with rfl | ⟨m, p, rfl⟩
        · simp [Mo.undo]
        · rw [List.concat_eq_append] at ih ⊢
          rw [Mo.undo_snoc]
          simp at ih
          show m.length ≤ k + 1
          omega
      · split
        · exact hplay _ _
        · exact hplay _ _
    · rw [List.take_of_length_le (by omega)] at ih ⊢; omega
def Fm.decTo (F : Fm) (f set : Nat) : Nat → Nat
  | 0 => 0
  | k + 1 => bif set.testBit k && (F.value ((f ^^^ 2 ^ k : Nat) : Int) != F.value (f : Nat)) then F.decTo f set k ||| 2 ^ k else F.decTo f set k
def Fm.dec (F : Fm) (f set : Nat) : Nat := F.decTo f set F.vars.toNat
theorem Fm.decTo_lt (F : Fm) (f set : Nat) : ∀ k, F.decTo f set k < 2 ^ k
  | 0 => by simp [Fm.decTo]
  | k + 1 => by
    have := F.decTo_lt f set k
    have h2 : 2 ^ k < 2 ^ (k + 1) := Nat.pow_lt_pow_right (by decide) (by omega)
    unfold Fm.decTo
    cases set.testBit k && (F.value ((f ^^^ 2 ^ k : Nat) : Int) != F.value (f : Nat)) with
    | false => simp only [cond_false]; omega
    | true => exact Nat.or_lt_two_pow (by omega) h2
theorem Fm.decTo_bit (F : Fm) (f set i : Nat) : ∀ k, (F.decTo f set k).testBit i = (decide (i < k) && (set.testBit i && (F.value ((f ^^^ 2 ^ i : Nat) : Int) != F.value (f : Nat))))
  | 0 => by simp [Fm.decTo]
  | k + 1 => by
    have ih := F.decTo_bit f set i k
    unfold Fm.decTo
    by_cases e : i = k
    · subst e
      have h0 := Nat.testBit_lt_two_pow (F.decTo_lt f set i)
      cases h : set.testBit i && (F.value ((f ^^^ 2 ^ i : Nat) : Int) != F.value (f : Nat)) with
      | false => simp [h0]
      | true => simp [Nat.testBit_or, Nat.testBit_two_pow_self]
    · have hd : decide (i < k + 1) = decide (i < k) := decide_eq_decide.2 (by omega)
      rw [hd, ← ih]
      cases set.testBit k && (F.value ((f ^^^ 2 ^ k : Nat) : Int) != F.value (f : Nat)) with
      | false => rfl
      | true => simp only [cond_true, Nat.testBit_or, Nat.testBit_two_pow_of_ne (fun h => e h.symm), Bool.or_false]
def Fm.work (F : Fm) (f : Nat) : Nat := 2 ^ F.vars.toNat - 1 - f
theorem Fm.work_bit {F : Fm} {f : Nat} (h : f < 2 ^ F.vars.toNat) (i : Nat) : (F.work f).testBit i = (decide (i < F.vars.toNat) && !(f.testBit i)) := by
  unfold Fm.work
  rw [show 2 ^ F.vars.toNat - 1 - f = 2 ^ F.vars.toNat - (f + 1) by omega, Nat.testBit_two_pow_sub_succ h]
def Fm.crit (F : Fm) (f : Nat) : Nat := F.dec f (F.work f)
def Fm.heal (F : Fm) (f : Nat) : Nat := F.dec f f
theorem Fm.crit_lt (F : Fm) (f : Nat) : F.crit f < 2 ^ F.vars.toNat := F.decTo_lt _ _ _
theorem Fm.heal_lt (F : Fm) (f : Nat) : F.heal f < 2 ^ F.vars.toNat := F.decTo_lt _ _ _
theorem Fm.crit_bit {F : Fm} {f : Nat} (h : f < 2 ^ F.vars.toNat) (i : Nat) : (F.crit f).testBit i = (decide (i < F.vars.toNat) && (!(f.testBit i) && (F.value ((f ^^^ 2 ^ i : Nat) : Int) != F.value (f : Nat)))) := by
  unfold Fm.crit Fm.dec
  rw [F.decTo_bit, Fm.work_bit h]
  cases decide (i < F.vars.toNat) <;> rfl
theorem Fm.heal_bit (F : Fm) (f i : Nat) : (F.heal f).testBit i = (decide (i < F.vars.toNat) && (f.testBit i && (F.value ((f ^^^ 2 ^ i : Nat) : Int) != F.value (f : Nat)))) := F.decTo_bit _ _ _ _
theorem Fm.crit_off {F : Fm} {f : Nat} (h : f < 2 ^ F.vars.toNat) : F.crit f &&& f = 0 := by
  refine Nat.eq_of_testBit_eq fun i => ?_
  rw [Nat.testBit_and, Fm.crit_bit h, Nat.zero_testBit]
  cases f.testBit i <;> cases decide (i < F.vars.toNat) <;> simp
theorem Fm.heal_on (F : Fm) (f : Nat) : F.heal f ^^^ (F.heal f &&& f) = 0 := by
  refine Nat.eq_of_testBit_eq fun i => ?_
  rw [Nat.testBit_xor, Nat.testBit_and, Fm.heal_bit, Nat.zero_testBit]
  cases f.testBit i <;> cases decide (i < F.vars.toNat) <;> simp
theorem Fm.alone_bit {F : Fm} {f : Nat} (h : f < 2 ^ F.vars.toNat) {i : Nat} (hi : i < F.vars.toNat) : (F.crit f ||| F.heal f).testBit i = (F.value ((f ^^^ 2 ^ i : Nat) : Int) != F.value (f : Nat)) := by
  rw [Nat.testBit_or, Fm.crit_bit h, Fm.heal_bit, decide_eq_true hi]
  cases f.testBit i <;> simp
end Go.GL
