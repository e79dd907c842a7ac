import Derived.Test.YtffghipagnjggaaGL48
namespace Go.GL
set_option linter.unusedVariables false
set_option linter.unusedSimpArgs false
section
variable {P : Program} {n : Nat} {S : List (Nat × Value)} {H : List Ent} {A : Array Oper} {Q : Exit → Act → World → Prop}
theorem TOps.andBH {l : List Oper} {H2 : List Ent} (k : Nat) {d tg U p e rest} {ry : Operand} {g q : Bool} (hd : l.drop k = ⟨some d, .pick (.tmp tg) ry (.const (.bool false)), U, p, e, none⟩ :: rest) (hg : get S tg = some (.bool g)) (hn : Nat.blt d n = true)
    (hsk : skipB A n S ((tg, .bool false) :: S) (l.take k) = true) (hf : g = false → Le H H2)
    (h1 : g = true → TOps P n S H (l.take k) A (BlkQ n S H2 ry q (Exit.then (fun a w => wpList P A Q (l.drop k) a w) Q)))
    (h2 : TOps P n ((d, .bool (g && q)) :: S) H2 rest A Q) : TOps P n S H l A Q := by
  intro a w hS hM
  rw [← List.take_append_drop k l]
  refine wpList_append _ _ ?_
  have hn' : d < n := by simpa [Nat.blt_eq] using hn
  have fin : ∀ (a' : Act) (w' : World) (v : Bool), Sl n S a' → Mem H2 w' → a'.eval ry = .bool v ∨ g = false → (g = true → v = q) → wpList P A Q (l.drop k) a' w' := by
    intro a' w' v hS' hM' hv hq
    rw [hd]
    refine wpList_plain rfl fun K hK => ?_
    have hr : (execOp a'.eval ⟨some d, .pick (.tmp tg) ry (.const (.bool false)), U, p, e, none⟩).run P w' = .ok (.value (.bool (g && q))) w' := by
      have hgt : a'.eval (.tmp tg) = .bool g := hS'.eval (x := .tmp tg) hg
      have hf : a'.eval (.const (.bool false)) = .bool false := rfl
      cases hgb : g with
      | false => simp [execOp, hgt, hgb, asBool, hf]
      | true =>
        rcases hv with hv | hv
        · rw [hq hgb] at hv
          simp [execOp, hgt, hgb, asBool, hv]
        · rw [hgb] at hv; cases hv
    unfold Oper.wp
    rw [hr, Oper.upon_value]
    exact hK _ _ (h2 _ _ (hS'.put _ hn') hM')
  cases hgb : g with
  | false =>
    have hS2 : Sl n ((tg, .bool false) :: S) a := by
      refine ⟨hS.sz, hS.df, fun i v hv => ?_⟩
      by_cases e : tg = i
      · subst e
        rw [get_cons_same] at hv
        cases hv
        have := hS.g tg _ hg
        rw [hgb] at this
        exact this
      · rw [get_cons_ne e] at hv
        exact hS.g i v hv
    refine skipB_sound _ _ _ _ hsk hS2 ?_ _ (fun a' hS' => fin a' w false hS' (hf hgb w hM) (.inr hgb) (fun h => by rw [hgb] at h; cases h))
    intro i v hv
    by_cases e : tg = i
    · subst e
      rw [hg, hgb] at hv
      cases hv
      exact get_cons_same _ _ _
    · rw [get_cons_ne e]
      exact hv
  | true =>
    have hb := h1 hgb a w hS hM
    unfold BlkQ at hb
    refine wpList_mono' _ _ _ _ _ (fun a' w' h => ?_) (fun e a' w' h => ?_) _ _ hb
    · obtain ⟨S', he, hx, hS', hM'⟩ := h
      exact fin a' w' q ⟨hS'.sz, hS'.df, fun i v hv => hS'.g i v (he i v hv)⟩ hM' (.inl (hS'.eval hx)) (fun _ => rfl)
    · cases e with
      | normal =>
        obtain ⟨S', he, hx, hS', hM'⟩ := h
        exact fin a' w' q ⟨hS'.sz, hS'.df, fun i v hv => hS'.g i v (he i v hv)⟩ hM' (.inl (hS'.eval hx)) (fun _ => rfl)
      | _ => exact h
end
theorem pp_pow : ∀ i f, i < f → pp f (2 ^ i) = 1
  | i, 0, h => by omega
  | 0, f + 1, _ => by
    simp only [pp]
    have := (pp_zero f 0 (Nat.two_pow_pos f)).2 rfl
    rw [show (2 ^ 0 : Nat) / 2 = 0 by decide, this]
  | i + 1, f + 1, h => by
    simp only [pp]
    rw [Nat.pow_succ, show 2 ^ i * 2 / 2 = 2 ^ i by omega, show 2 ^ i * 2 % 2 = 0 by omega, pp_pow i f (by omega)]
theorem pp_is_one : ∀ f s, s < 2 ^ f → pp f s = 1 → ∃ i, i < f ∧ s = 2 ^ i
  | 0, s, _, h => by simp [pp] at h
  | f + 1, s, hs, h => by
    simp only [pp] at h
    rw [Nat.pow_succ] at hs
    rcases (show s % 2 = 0 ∨ s % 2 = 1 by omega) with e | e
    · obtain ⟨i, hi, hq⟩ := pp_is_one f (s / 2) (by omega) (by omega)
      exact ⟨i + 1, by omega, by rw [Nat.pow_succ]; omega⟩
    · have := (pp_zero f (s / 2) (by omega)).1 (by omega)
      exact ⟨0, by omega, by omega⟩
theorem countP_or (p q : Nat → Bool) : ∀ l : List Nat, l.countP (fun i => p i || q i) ≤ l.countP p + l.countP q
  | [] => by simp
  | a :: l => by
    have := countP_or p q l
    rw [List.countP_cons, List.countP_cons, List.countP_cons]
    cases p a <;> cases q a <;> simp <;> omega
theorem pp_or {a b v : Nat} (ha : a < 2 ^ v) (hb : b < 2 ^ v) (hv : v ≤ 24) : pp 24 (a ||| b) ≤ pp 24 a + pp 24 b := by
  rw [← ppBits_eq v 24 _ (Nat.or_lt_two_pow ha hb) hv, ← ppBits_eq v 24 _ ha hv, ← ppBits_eq v 24 _ hb hv]
  unfold ppBits
  have : ∀ i, (a ||| b).testBit i = (a.testBit i || b.testBit i) := fun i => Nat.testBit_or _ _ _
  simp only [this]
  exact countP_or _ _ _
theorem and_pow_zero {f i : Nat} (h : f.testBit i = false) : 2 ^ i &&& f = 0 := by
  refine Nat.eq_of_testBit_eq fun j => ?_
  rw [Nat.testBit_and, Nat.zero_testBit]
  by_cases e : i = j
  · subst e; rw [h, Bool.and_false]
  · rw [Nat.testBit_two_pow_of_ne e, Bool.false_and]
theorem xor_is_or {f i : Nat} (h : f.testBit i = false) : f ^^^ 2 ^ i = 2 ^ i ||| f := by
  refine Nat.eq_of_testBit_eq fun j => ?_
  rw [Nat.testBit_xor, Nat.testBit_or]
  by_cases e : i = j
  · subst e; rw [h, Nat.testBit_two_pow_self]; rfl
  · rw [Nat.testBit_two_pow_of_ne e, Bool.false_or, Bool.xor_false]
theorem cand_zero (F : Fm) (f : Nat) : F.cand f 0 = F.value (f : Nat) := by
  unfold Fm.cand; rw [Nat.zero_and, Nat.zero_or]; rfl
theorem cand_pow {F : Fm} {f i : Nat} (h : f.testBit i = false) : F.cand f (2 ^ i) = F.value ((f ^^^ 2 ^ i : Nat) : Int) := by
  unfold Fm.cand; rw [and_pow_zero h, xor_is_or h]; rfl
theorem zero_of_bits {c v : Nat} (hc : c < 2 ^ v) (h : ∀ i, i < v → c.testBit i = false) : c = 0 := by
  refine Nat.eq_of_testBit_eq fun i => ?_
  rw [Nat.zero_testBit]
  rcases Nat.lt_or_ge i v with g | g
  · exact h i g
  · exact Nat.testBit_lt_two_pow (Nat.lt_of_lt_of_le hc (Nat.pow_le_pow_right (by decide) g))
theorem margin_none {F : Fm} {f : Nat} (hf : f < 2 ^ F.vars.toNat) (h : F.near f = none) : F.value (f : Nat) = false ∧ F.crit f = 0 := by
  have hn := F.nearTo_none f _ h
  have h0 : F.value (f : Nat) = false := by rw [← cand_zero]; exact hn 0 (Nat.two_pow_pos _)
  refine ⟨h0, zero_of_bits (F.crit_lt f) fun i hi => ?_⟩
  rw [Fm.crit_bit hf, decide_eq_true hi, Bool.true_and]
  cases hb : f.testBit i with
  | true => rfl
  | false =>
    have := hn (2 ^ i) (Nat.pow_lt_pow_right (by decide) hi)
    rw [cand_pow hb] at this
    rw [this, h0]; rfl
theorem margin_zero {F : Fm} (hg : F.Good) {f s : Nat} (h : F.near f = some s) : (pp 24 s = 0 ↔ F.value (f : Nat) = true) ∧ (F.value (f : Nat) = true → s = 0) := by
  have hn := F.nearTo_some f _ s h
  have hv : F.vars.toNat ≤ 24 := by have := hg.v1; have := hg.v0; omega
  have hs : s < 2 ^ 24 := Nat.lt_of_lt_of_le hn.lt (Nat.pow_le_pow_right (by decide) hv)
  have hz := pp_zero 24 s hs
  have h0 : F.value (f : Nat) = true → s = 0 := by
    intro ht
    rw [← cand_zero] at ht
    have hp0 : pp 24 0 = 0 := (pp_zero 24 0 (by decide)).2 rfl
    rcases hn.le 0 (Nat.two_pow_pos _) ht with q | q
    · omega
    · exact hz.1 (by omega)
  refine ⟨⟨fun hp => ?_, fun ht => hz.2 (h0 ht)⟩, h0⟩
  have := hn.cand
  rw [hz.1 hp, cand_zero] at this
  exact this
theorem margin_next {F : Fm} {f s : Nat} (h : F.near f = some s) : F.value ((f ||| s : Nat) : Int) = true ∧ s &&& f = 0 := by
  have hn := (F.nearTo_some f _ s h).cand
  unfold Fm.cand at hn
  simp only [Bool.and_eq_true, decide_eq_true_eq] at hn
  rw [Nat.or_comm]
  exact ⟨hn.2, hn.1⟩
theorem margin_one {F : Fm} (hg : F.Good) {f s : Nat} (hf : f < 2 ^ F.vars.toNat) (h : F.near f = some s) (h0 : F.value (f : Nat) = false) : (pp 24 s = 1 ↔ F.crit f ≠ 0) := by
  have hn := F.nearTo_some f _ s h
  have hv : F.vars.toNat ≤ 24 := by have := hg.v1; have := hg.v0; omega
  have hs : s < 2 ^ 24 := Nat.lt_of_lt_of_le hn.lt (Nat.pow_le_pow_right (by decide) hv)
  obtain ⟨hval, hand⟩ := margin_next h
  constructor
  · intro h1 hc
    obtain ⟨i, hi, rfl⟩ := pp_is_one 24 s hs h1
    have hiv : i < F.vars.toNat := (Nat.pow_lt_pow_iff_right (by decide)).1 hn.lt
    have hb : f.testBit i = false := by
      have : (2 ^ i &&& f).testBit i = false := by rw [hand, Nat.zero_testBit]
      rw [Nat.testBit_and, Nat.testBit_two_pow_self, Bool.true_and] at this
      exact this
    have hcb : (F.crit f).testBit i = true := by
      rw [Fm.crit_bit hf, decide_eq_true hiv, hb, xor_is_or hb, Nat.or_comm, hval, h0]; rfl
    rw [hc, Nat.zero_testBit] at hcb; cases hcb
  · intro hc
    obtain ⟨i, hi, hb⟩ : ∃ i, i < F.vars.toNat ∧ (F.crit f).testBit i = true := by
      apply Classical.byContradiction
      intro hno
      refine hc (zero_of_bits (F.crit_lt f) fun i hi => ?_)
      cases hb : (F.crit f).testBit i with
      | false => rfl
      | true => exact absurd ⟨i, hi, hb⟩ hno
    rw [Fm.crit_bit hf, decide_eq_true hi, Bool.true_and] at hb
    have hbi : f.testBit i = false := by cases q : f.testBit i with | false => rfl | true => rw [q] at hb; cases hb
    have hvi : F.cand f (2 ^ i) = true := by
      rw [cand_pow hbi]
      rw [h0] at hb
      cases q : F.value ((f ^^^ 2 ^ i : Nat) : Int) with
      | true => rfl
      | false => rw [q] at hb; simp at hb
    have hle := hn.le (2 ^ i) (Nat.pow_lt_pow_right (by decide) hi) hvi
    rw [pp_pow i 24 (by omega)] at hle
    have hne : pp 24 s ≠ 0 := by
      intro hz
      have := (margin_zero hg h).1.1 hz
      rw [h0] at this; cases this
    omega
theorem margin_step {F : Fm} (hg : F.Good) {f s s' i : Nat} (hi : i < F.vars.toNat) (h : F.near f = some s) (hb : f.testBit i = false) (h' : F.near (f ^^^ 2 ^ i) = some s') : pp 24 s ≤ pp 24 s' + 1 := by
  have hn := F.nearTo_some f _ s h
  have hn' := F.nearTo_some _ _ s' h'
  have hv : F.vars.toNat ≤ 24 := by have := hg.v1; have := hg.v0; omega
  have h2i : 2 ^ i < 2 ^ F.vars.toNat := Nat.pow_lt_pow_right (by decide) hi
  obtain ⟨hval, hand⟩ := margin_next h'
  have hc : F.cand f (s' ||| 2 ^ i) = true := by
    unfold Fm.cand
    simp only [Bool.and_eq_true, decide_eq_true_eq]
    rw [xor_is_or hb] at hval hand
    refine ⟨?_, ?_⟩
    · refine Nat.eq_of_testBit_eq fun j => ?_
      have hj : (s' &&& (2 ^ i ||| f)).testBit j = false := by rw [hand, Nat.zero_testBit]
      have hz : (2 ^ i &&& f).testBit j = false := by rw [and_pow_zero hb, Nat.zero_testBit]
      rw [Nat.testBit_and, Nat.testBit_or] at hj
      rw [Nat.testBit_and] at hz
      rw [Nat.testBit_and, Nat.testBit_or, Nat.zero_testBit]
      generalize s'.testBit j = x at hj ⊢
      generalize (2 ^ i).testBit j = y at hj hz ⊢
      generalize f.testBit j = z at hj hz ⊢
      cases x <;> cases y <;> cases z <;> first | rfl | (cases hj; done) | (cases hz; done)
    · rw [show (s' ||| 2 ^ i) ||| f = (2 ^ i ||| f) ||| s' from by rw [Nat.or_assoc, Nat.or_comm s']]
      exact hval
  have hle := hn.le _ (Nat.or_lt_two_pow hn'.lt h2i) hc
  have hpo := pp_or hn'.lt h2i hv
  rw [pp_pow i 24 (by omega)] at hpo
  omega
theorem Mo.undo_push (S : Mo) (i : Nat) (p : Pl) (hp : p.ev = (i : Int)) : (S.push (S.f ^^^ 2 ^ i) p).undo = S := by
  obtain ⟨f, l⟩ := S
  show (Mo.mk (f ^^^ 2 ^ i) (l ++ [p])).undo = _
  rw [Mo.undo_snoc, hp, Int.toNat_natCast, Nat.xor_assoc, Nat.xor_self, Nat.xor_zero]
theorem Fm.undo_play {F : Fm} {S : Mo} {i : Nat} {fl : Bool} (h : F.playErr S i fl = none) : (F.play S i fl).undo = S ∧ (F.play S i fl).undoErr = none ∧ (F.play S i fl).f = S.f ^^^ 2 ^ i := by
  rw [Fm.play_ok h]
  refine ⟨Mo.undo_push S i _ rfl, ?_, rfl⟩
  exact if_neg (by simp)
structure OX (cs : List Value) where
  b2 : Nat
  a5 : OA cs
  c5 : Nat
  b9 : Nat
theorem Le.mid2 {x y : Ent} {N H : List Ent} {a b : Ent} : Le (a :: b :: (N ++ x :: y :: H)) (a :: b :: y :: x :: (N ++ H)) := by
  refine Le.perm (List.Perm.cons _ (List.Perm.cons _ ?_))
  exact (List.perm_middle.trans (List.Perm.cons _ List.perm_middle)).trans (List.Perm.swap _ _ _)
theorem setL_len (vs : List Value) (xs : List Value) (i : Nat) : (setL xs i vs).length = xs.length := setL_length vs xs i
theorem Le.pull4 {N T : List Ent} {a b c d : Ent} : Le (N ++ a :: b :: c :: d :: T) (a :: b :: c :: d :: (N ++ T)) := by
  refine Le.perm ?_
  exact List.perm_middle.trans (List.Perm.cons _ (List.perm_middle.trans (List.Perm.cons _ (List.perm_middle.trans (List.Perm.cons _ List.perm_middle)))))
theorem MoOk.setLen {F : Fm} {S : Mo} (h : MoOk F S) : (logCells S.log).length = S.log.length * 3 := logCells_length _
theorem nearErr_dec (F : Fm) (f : Nat) : decide ((F.nearErr f).getD 0 = 0) = (F.nearErr f).isNone := by
  unfold Fm.nearErr
  split
  · rfl
  · split <;> rfl
end Go.GL
