import Derived.Test.YtlgjmebebhpolaaGL6
namespace Go.GL
set_option linter.unusedVariables false
set_option linter.unusedSimpArgs false
def skipB (A : Array Oper) (n : Nat) (S0 : List (Nat × Value)) : List (Nat × Value) → List Oper → Bool
  | _, [] => true
  | S, o :: r =>
    match o.guard, o.dst with
    | some (j, b), some d =>
      (match (A[j]?).bind (·.dst) with
        | some dj => (match get S dj with
          | some (.bool g) => (match g, b with | true, true => false | false, false => false | _, _ => true)
          | some (.tuple _) => true
          | _ => false)
        | none => false) && (Nat.blt d n && ((get S0 d).isNone && skipB A n S0 ((d, undef) :: S) r))
    | _, _ => false
def Ext (S S' : List (Nat × Value)) : Prop := ∀ k v, get S k = some v → get S' k = some v
theorem Ext.refl (S : List (Nat × Value)) : Ext S S := fun _ _ h => h
theorem Ext.cons {S S' : List (Nat × Value)} {d : Nat} {v : Value} (hd : (get S d).isNone = true) (h : Ext S S') : Ext S ((d, v) :: S') := by
  intro k u hk
  have hne : d ≠ k := by
    intro e
    subst e
    rw [hk] at hd
    simp at hd
  rw [get_cons_ne hne]
  exact h k u hk
section
variable {P : Program} {n : Nat} {S : List (Nat × Value)} {H : List Ent} {A : Array Oper} {Q : Exit → Act → World → Prop}
theorem wpList_append (l1 l2 : List Oper) {a : Act} {w : World} (h : wpList P A (Exit.then (fun a w => wpList P A Q l2 a w) Q) l1 a w) : wpList P A Q (l1 ++ l2) a w := by
  induction l1 generalizing a w with
  | nil => exact h
  | cons o l ih =>
    unfold wpList at h
    simp only [List.cons_append]
    unfold wpList
    split
    · rename_i hw
      rw [if_pos hw] at h
      rcases h with h | h
      · refine .inl ?_
        unfold Oper.wp at *
        revert h
        generalize (execOp a.eval o).run P w = r
        intro h
        cases r with
        | ok x w' =>
          cases x <;> simp only [Oper.upon] at h ⊢ <;>
            first
              | exact ih h
              | exact Calls.mono h (fun e w'' he => by cases e <;> first | exact ih he | exact he)
              | exact Rows.mono h (fun _ _ he => ih he)
        | halt x w' => cases x <;> simp only [Oper.upon] at h ⊢ <;> exact h
      · refine .inr ⟨h.1, ?_⟩
        obtain ⟨a', w', h'⟩ := h.2
        exact ⟨a', w', h'⟩
    · rename_i hw
      rw [if_neg hw] at h
      exact ih h
theorem wanted_bool {a : Act} {j dj : Nat} {b g : Bool} {dst op ty p e} (hS : Sl n S a) (hA : (A[j]?).bind (·.dst) = some dj) (hb : get S dj = some (.bool g)) :
    Region.wanted ⟨dst, op, ty, p, e, some (j, b)⟩ (yielded A a.tmps) = (g == b) := by
  simp only [Region.wanted, hS.yielded hA hb]
  cases g <;> cases b <;> rfl
theorem wanted_undef {a : Act} {j dj : Nat} {b : Bool} {dst op ty p e} {vs : Array Value} (hS : Sl n S a) (hA : (A[j]?).bind (·.dst) = some dj) (hb : get S dj = some (.tuple vs)) :
    Region.wanted ⟨dst, op, ty, p, e, some (j, b)⟩ (yielded A a.tmps) = false := by
  obtain ⟨h1, h2⟩ := hS.g dj _ hb
  have : a.tmps[dj]? = some (.tuple vs) := by
    rw [Array.getElem?_eq_getElem (by rw [hS.sz]; exact h1)]
    rw [Array.getD_eq_getD_getElem?, Array.getElem?_eq_getElem (by rw [hS.sz]; exact h1)] at h2
    simpa using h2
  simp only [Region.wanted, Go.yielded, hA, Option.bind_some, this]
  rfl
theorem skipB_sound {S0 : List (Nat × Value)} : ∀ (l : List Oper) (S : List (Nat × Value)) (a : Act) (w : World), skipB A n S0 S l = true → Sl n S a → Ext S0 S → ∀ K : Act → World → Prop,
    (∀ a', Sl n S0 a' → K a' w) → wpList P A (Exit.then K Q) l a w := by
  intro l
  induction l with
  | nil =>
    intro S a w _ hS he K hK
    exact wpList_nil (hK a ⟨hS.sz, hS.df, fun k v hk => hS.g k v (he k v hk)⟩)
  | cons o l ih =>
    intro S a w h hS he K hK
    obtain ⟨dst, op, ty, p, e, gd⟩ := o
    cases gd with
    | none => simp [skipB] at h
    | some jb =>
      obtain ⟨j, b⟩ := jb
      cases dst with
      | none => simp [skipB] at h
      | some d =>
        simp only [skipB, Bool.and_eq_true] at h
        obtain ⟨h1, h2, h3, h4⟩ := h
        have hw : Region.wanted ⟨some d, op, ty, p, e, some (j, b)⟩ (yielded A a.tmps) = false := by
          cases hA : (A[j]?).bind (·.dst) with
          | none => simp [hA] at h1
          | some dj =>
            rw [hA] at h1
            cases hg : get S dj with
            | none => simp [hg] at h1
            | some v =>
              simp only [hg] at h1
              cases v with
              | bool g =>
                rw [wanted_bool hS hA hg]
                cases g <;> cases b <;> simp_all
              | tuple vs => exact wanted_undef hS hA hg
              | _ => simp at h1
        unfold wpList
        rw [hw]
        exact ih _ _ _ h4 (hS.put undef (by simpa [Nat.blt_eq] using h2)) (Ext.cons h3 he) K hK
theorem wpList_mono' : ∀ (l1 : List Oper) (K1 K2 : Act → World → Prop) (Q1 Q2 : Exit → Act → World → Prop), (∀ a w, K1 a w → K2 a w) → (∀ e a w, Exit.then K1 Q1 e a w → Exit.then K2 Q2 e a w) → ∀ a w, wpList P A (Exit.then K1 Q1) l1 a w → wpList P A (Exit.then K2 Q2) l1 a w := by
  intro l1
  induction l1 with
  | nil => intro K1 K2 Q1 Q2 _ hm a w h; exact hm _ _ _ h
  | cons o l1 ih =>
    intro K1 K2 Q1 Q2 hK hm a w h
    unfold wpList at h ⊢
    split
    · rename_i hw
      rw [if_pos hw] at h
      rcases h with h | h
      · refine .inl ?_
        unfold Oper.wp at *
        revert h
        generalize (execOp a.eval o).run P w = r
        intro h
        cases r with
        | ok x w' =>
          cases x <;> simp only [Oper.upon] at h ⊢ <;>
            first
              | exact ih _ _ _ _ hK hm _ _ h
              | exact Calls.mono h (fun e w'' he => by
                  cases e with
                  | returned v => exact ih _ _ _ _ hK hm _ _ he
                  | panicked c => exact hm _ _ _ he
                  | outgrown => obtain ⟨a', w', h'⟩ := he; exact ⟨a', w', hm _ _ _ h'⟩)
              | exact Rows.mono h (fun _ _ he => ih _ _ _ _ hK hm _ _ he)
        | halt x w' => cases x <;> simp only [Oper.upon] at h ⊢ <;> first | exact hm _ _ _ h | exact h
      · refine .inr ⟨h.1, ?_⟩
        obtain ⟨a', w', h'⟩ := h.2
        exact ⟨a', w', hm _ _ _ h'⟩
    · rename_i hw
      rw [if_neg hw] at h
      exact ih _ _ _ _ hK hm _ _ h
def stripG (j : Nat) (b : Bool) (o : Oper) : Oper :=
  match o.guard with
  | some (i, c) => match Nat.beq i j, c == b with | true, true => { o with guard := none } | _, _ => o
  | none => o
def notDst (d : Nat) : List Oper → Bool
  | [] => true
  | o :: r => (match o.dst with | some i => !(Nat.beq i d) | none => true) && notDst d r
theorem yielded_put {A : Array Oper} {a : Act} {j dj : Nat} {dst : Option Nat} {v : Value} (hA : (A[j]?).bind (·.dst) = some dj) (hne : dst ≠ some dj) : yielded A (a.put dst v).tmps j = yielded A a.tmps j := by
  cases dst with
  | none => rfl
  | some d =>
    have hd : d ≠ dj := fun e => hne (by rw [e])
    simp [Go.yielded, hA, Act.put, Array.getElem?_setIfInBounds_ne hd]
theorem wpList_strip {j dj : Nat} {b : Bool} (hA : (A[j]?).bind (·.dst) = some dj) : ∀ (l : List Oper) (a : Act) (w : World), notDst dj l = true → yielded A a.tmps j = some b →
    wpList P A Q (l.map (stripG j b)) a w → wpList P A Q l a w := by
  intro l
  induction l with
  | nil => intro a w _ _ h; exact h
  | cons o l ih =>
    intro a w hd hy h
    simp only [notDst, Bool.and_eq_true] at hd
    have hne : o.dst ≠ some dj := by
      intro e
      have := hd.1
      rw [e] at this
      simp at this
    simp only [List.map_cons] at h
    have hop : (stripG j b o).op = o.op ∧ (stripG j b o).dst = o.dst ∧ (stripG j b o).type = o.type := by
      unfold stripG
      split
      · split <;> exact ⟨rfl, rfl, rfl⟩
      · exact ⟨rfl, rfl, rfl⟩
    have hex : execOp a.eval (stripG j b o) = execOp a.eval o := by
      unfold execOp
      rw [hop.1, hop.2.2]
    have hwant : Region.wanted (stripG j b o) (yielded A a.tmps) = Region.wanted o (yielded A a.tmps) := by
      unfold stripG
      split
      · rename_i i c hgd
        split
        · rename_i h1 h2
          have e1 : i = j := Nat.eq_of_beq_eq_true h1
          have e2 : c = b := by simpa using h2
          subst e1
          subst e2
          simp only [Region.wanted, hgd, hy]
          simp
        · rfl
      · rfl
    unfold wpList at h ⊢
    rw [hwant, hop.2.1] at h
    split
    · rename_i hw
      rw [if_pos hw] at h
      have next : ∀ v w', wpList P A Q (l.map (stripG j b)) (a.put o.dst v) w' → wpList P A Q l (a.put o.dst v) w' :=
        fun v w' h => ih _ _ hd.2 (by rw [yielded_put hA hne]; exact hy) h
      rcases h with h | h
      · refine .inl ?_
        unfold Oper.wp at *
        rw [hex] at h
        revert h
        generalize (execOp a.eval o).run P w = r
        intro h
        cases r with
        | ok x w' =>
          cases x <;> simp only [Oper.upon, hop.2.1] at h ⊢ <;>
            first
              | exact next _ _ h
              | exact Calls.mono h (fun e w'' he => by cases e <;> first | exact next _ _ he | exact he)
              | exact Rows.mono h (fun _ _ he => next _ _ he)
              | (refine ih _ _ hd.2 ?_ h; rw [yielded_put hA hne]; exact hy)
        | halt x w' => cases x <;> simp only [Oper.upon] at h ⊢ <;> exact h
      · refine .inr ⟨?_, h.2⟩
        have h1 := h.1
        unfold Oper.asks at h1 ⊢
        rw [hex] at h1
        exact h1
    · rename_i hw
      rw [if_neg hw] at h
      exact ih _ _ hd.2 (by rw [yielded_put hA hne]; exact hy) h
theorem TOps.strip {l : List Oper} (j : Nat) (b : Bool) {dj : Nat} {g : Bool} (hA : (A[j]?).bind (·.dst) = some dj) (hb : get S dj = some (.bool g)) (hg : g = b) (hd : notDst dj l = true)
    (h : TOps P n S H (l.map (stripG j b)) A Q) : TOps P n S H l A Q := by
  intro a w hS hM
  subst hg
  exact wpList_strip hA l a w hd (hS.yielded hA hb) (h a w hS hM)
def BlkQ (n : Nat) (S : List (Nat × Value)) (H : List Ent) (ry : Operand) (q : Bool) (Q : Exit → Act → World → Prop) : Exit → Act → World → Prop :=
  Exit.then (fun a w => ∃ S', Ext S S' ∧ opv S' ry = some (.bool q) ∧ Sl n S' a ∧ Mem H w) Q
theorem TOps.blk {S0 : List (Nat × Value)} {H0 : List Ent} {ry : Operand} {q : Bool} (hx : opv S ry = some (.bool q)) (he : Ext S0 S) (hl : Le H H0) : TOps P n S H [] A (BlkQ n S0 H0 ry q Q) :=
  fun a w hS hM => wpList_nil ⟨S, he, hx, hS, hl w hM⟩
theorem opv_false : opv S (.const (.bool false)) = some (.bool false) := rfl
theorem opv_true : opv S (.const (.bool true)) = some (.bool true) := rfl
theorem TOps.andB {l : List Oper} (k : Nat) {d tg U p e rest} {ry : Operand} {g q : Bool} (hd : l.drop k = ⟨some d, .pick (.tmp tg) ry (.const (.bool false)), U, p, e, none⟩ :: rest) (hg : get S tg = some (.bool g)) (hn : Nat.blt d n = true)
    (hsk : skipB A n S ((tg, .bool false) :: S) (l.take k) = true)
    (h1 : g = true → TOps P n S H (l.take k) A (BlkQ n S H ry q (Exit.then (fun a w => wpList P A Q (l.drop k) a w) Q)))
    (h2 : TOps P n ((d, .bool (g && q)) :: S) H rest A Q) : TOps P n S H l A Q := by
  intro a w hS hM
  rw [← List.take_append_drop k l]
  refine wpList_append _ _ ?_
  have hn' : d < n := by simpa [Nat.blt_eq] using hn
  have fin : ∀ (a' : Act) (w' : World) (v : Bool), Sl n S a' → Mem H w' → a'.eval ry = .bool v ∨ g = false → (g = true → v = q) → wpList P A Q (l.drop k) a' w' := by
    intro a' w' v hS' hM' hv hq
    rw [hd]
    refine wpList_plain rfl fun K hK => ?_
    have hr : (execOp a'.eval ⟨some d, .pick (.tmp tg) ry (.const (.bool false)), U, p, e, none⟩).run P w' = .ok (.value (.bool (g && q))) w' := by
      have hgt : a'.eval (.tmp tg) = .bool g := hS'.eval (x := .tmp tg) hg
      have hf : a'.eval (.const (.bool false)) = .bool false := rfl
      cases hgb : g with
      | false => simp [execOp, hgt, hgb, asBool, hf]
      | true =>
        rcases hv with hv | hv
        · rw [hq hgb] at hv
          simp [execOp, hgt, hgb, asBool, hv]
        · rw [hgb] at hv; cases hv
    unfold Oper.wp
    rw [hr, Oper.upon_value]
    exact hK _ _ (h2 _ _ (hS'.put _ hn') hM')
  cases hgb : g with
  | false =>
    have hS2 : Sl n ((tg, .bool false) :: S) a := by
      refine ⟨hS.sz, hS.df, fun i v hv => ?_⟩
      by_cases e : tg = i
      · subst e
        rw [get_cons_same] at hv
        cases hv
        have := hS.g tg _ hg
        rw [hgb] at this
        exact this
      · rw [get_cons_ne e] at hv
        exact hS.g i v hv
    refine skipB_sound _ _ _ _ hsk hS2 ?_ _ (fun a' hS' => fin a' w false hS' hM (.inr hgb) (fun h => by rw [hgb] at h; cases h))
    intro i v hv
    by_cases e : tg = i
    · subst e
      rw [hg, hgb] at hv
      cases hv
      exact get_cons_same _ _ _
    · rw [get_cons_ne e]
      exact hv
  | true =>
    have hb := h1 hgb a w hS hM
    unfold BlkQ at hb
    refine wpList_mono' _ _ _ _ _ (fun a' w' h => ?_) (fun e a' w' h => ?_) _ _ hb
    · obtain ⟨S', he, hx, hS', hM'⟩ := h
      exact fin a' w' q ⟨hS'.sz, hS'.df, fun i v hv => hS'.g i v (he i v hv)⟩ hM' (.inl (hS'.eval hx)) (fun _ => rfl)
    · cases e with
      | normal =>
        obtain ⟨S', he, hx, hS', hM'⟩ := h
        exact fin a' w' q ⟨hS'.sz, hS'.df, fun i v hv => hS'.g i v (he i v hv)⟩ hM' (.inl (hS'.eval hx)) (fun _ => rfl)
      | _ => exact h
theorem TOps.orB {l : List Oper} (k : Nat) {d tg U p e rest} {ry : Operand} {g q : Bool} (hd : l.drop k = ⟨some d, .pick (.tmp tg) (.const (.bool true)) ry, U, p, e, none⟩ :: rest) (hg : get S tg = some (.bool g)) (hn : Nat.blt d n = true)
    (hsk : skipB A n S ((tg, .bool true) :: S) (l.take k) = true)
    (h1 : g = false → TOps P n S H (l.take k) A (BlkQ n S H ry q (Exit.then (fun a w => wpList P A Q (l.drop k) a w) Q)))
    (h2 : TOps P n ((d, .bool (g || q)) :: S) H rest A Q) : TOps P n S H l A Q := by
  intro a w hS hM
  rw [← List.take_append_drop k l]
  refine wpList_append _ _ ?_
  have hn' : d < n := by simpa [Nat.blt_eq] using hn
  have fin : ∀ (a' : Act) (w' : World) (v : Bool), Sl n S a' → Mem H w' → a'.eval ry = .bool v ∨ g = true → (g = false → v = q) → wpList P A Q (l.drop k) a' w' := by
    intro a' w' v hS' hM' hv hq
    rw [hd]
    refine wpList_plain rfl fun K hK => ?_
    have hr : (execOp a'.eval ⟨some d, .pick (.tmp tg) (.const (.bool true)) ry, U, p, e, none⟩).run P w' = .ok (.value (.bool (g || q))) w' := by
      have hgt : a'.eval (.tmp tg) = .bool g := hS'.eval (x := .tmp tg) hg
      have hf : a'.eval (.const (.bool true)) = .bool true := rfl
      cases hgb : g with
      | true => simp [execOp, hgt, hgb, asBool, hf]
      | false =>
        rcases hv with hv | hv
        · rw [hq hgb] at hv
          simp [execOp, hgt, hgb, asBool, hv]
        · rw [hgb] at hv; cases hv
    unfold Oper.wp
    rw [hr, Oper.upon_value]
    exact hK _ _ (h2 _ _ (hS'.put _ hn') hM')
  cases hgb : g with
  | true =>
    have hS2 : Sl n ((tg, .bool true) :: S) a := by
      refine ⟨hS.sz, hS.df, fun i v hv => ?_⟩
      by_cases e : tg = i
      · subst e
        rw [get_cons_same] at hv
        cases hv
        have := hS.g tg _ hg
        rw [hgb] at this
        exact this
      · rw [get_cons_ne e] at hv
        exact hS.g i v hv
    refine skipB_sound _ _ _ _ hsk hS2 ?_ _ (fun a' hS' => fin a' w true hS' hM (.inr hgb) (fun h => by rw [hgb] at h; cases h))
    intro i v hv
    by_cases e : tg = i
    · subst e
      rw [hg, hgb] at hv
      cases hv
      exact get_cons_same _ _ _
    · rw [get_cons_ne e]
      exact hv
  | false =>
    have hb := h1 hgb a w hS hM
    unfold BlkQ at hb
    refine wpList_mono' _ _ _ _ _ (fun a' w' h => ?_) (fun e a' w' h => ?_) _ _ hb
    · obtain ⟨S', he, hx, hS', hM'⟩ := h
      exact fin a' w' q ⟨hS'.sz, hS'.df, fun i v hv => hS'.g i v (he i v hv)⟩ hM' (.inl (hS'.eval hx)) (fun _ => rfl)
    · cases e with
      | normal =>
        obtain ⟨S', he, hx, hS', hM'⟩ := h
        exact fin a' w' q ⟨hS'.sz, hS'.df, fun i v hv => hS'.g i v (he i v hv)⟩ hM' (.inl (hS'.eval hx)) (fun _ => rfl)
      | _ => exact h
end
end Go.GL
