import Derived.Test.YtlgjmebebhpolaaGL8
namespace Go.GL
set_option linter.unusedVariables false
set_option linter.unusedSimpArgs false
def afters (o : Oper) : List Nat := (o.after.toList.filter (fun e => Region.binds .any e)).map (·.on)
def maskOf (ms : List Nat) (as : List Nat) : Nat := as.foldl (fun m j => m ||| ms.getD j 0 ||| 2 ^ j) 0
def masksFrom : List Nat → List Oper → List Nat
  | ms, [] => ms
  | ms, o :: r => masksFrom (ms ++ [maskOf ms (afters o)]) r
def clo (l : List Oper) (j i : Nat) : Bool := ((masksFrom [] l).getD j 0).testBit i
theorem maskOf_bit {ms : List Nat} {i : Nat} : ∀ (as : List Nat) (m : Nat), (as.foldl (fun m j => m ||| ms.getD j 0 ||| 2 ^ j) m).testBit i = true → m.testBit i = true ∨ ∃ k ∈ as, i = k ∨ (ms.getD k 0).testBit i = true
  | [], m, h => .inl h
  | a :: r, m, h => by
    rcases maskOf_bit r _ h with h | ⟨k, hk, h⟩
    · rw [Nat.testBit_or, Nat.testBit_or, Bool.or_eq_true, Bool.or_eq_true] at h
      rcases h with (h | h) | h
      · exact .inl h
      · exact .inr ⟨a, by simp, .inr h⟩
      · refine .inr ⟨a, by simp, .inl ?_⟩
        rcases Decidable.em (a = i) with e | e
        · exact e.symm
        · rw [Nat.testBit_two_pow_of_ne e] at h; cases h
    · exact .inr ⟨k, List.mem_cons_of_mem _ hk, h⟩
def MaskOk (l : List Oper) (ms : List Nat) : Prop := ∀ (j i : Nat), (ms.getD j 0).testBit i = true → ∃ o, l[j]? = some o ∧ ∃ k ∈ afters o, i = k ∨ (ms.getD k 0).testBit i = true
theorem masksFrom_ok (l : List Oper) : ∀ (r done : List Oper) (ms : List Nat), l = done ++ r → ms.length = done.length → MaskOk l ms → MaskOk l (masksFrom ms r)
  | [], done, ms, _, _, h => h
  | o :: r, done, ms, hl, hm, h => by
    refine masksFrom_ok l r (done ++ [o]) _ (by simp [hl]) (by simp [hm]) ?_
    intro j i hj
    have up : ∀ k, (ms.getD k 0).testBit i = true → ((ms ++ [maskOf ms (afters o)]).getD k 0).testBit i = true := by
      intro k hk
      rcases Nat.lt_or_ge k ms.length with hlt | hge
      · rw [List.getD_eq_getElem?_getD, List.getElem?_append_left hlt, ← List.getD_eq_getElem?_getD]; exact hk
      · rw [List.getD_eq_getElem?_getD, List.getElem?_eq_none hge] at hk; simp at hk
    rcases Nat.lt_trichotomy j ms.length with hlt | heq | hgt
    · rw [List.getD_eq_getElem?_getD, List.getElem?_append_left hlt, ← List.getD_eq_getElem?_getD] at hj
      obtain ⟨o', ho', k, hk, h'⟩ := h j i hj
      exact ⟨o', ho', k, hk, h'.imp id (up k)⟩
    · subst heq
      rw [List.getD_eq_getElem?_getD, List.getElem?_append_right (Nat.le_refl _)] at hj
      simp only [Nat.sub_self, List.getElem?_cons_zero, Option.getD_some] at hj
      have ho : l[ms.length]? = some o := by rw [hl, hm]; simp
      rcases maskOf_bit (ms := ms) _ _ hj with h0 | ⟨k, hk, h0⟩
      · simp at h0
      · exact ⟨o, ho, k, hk, h0.imp id (up k)⟩
    · rw [List.getD_eq_getElem?_getD, List.getElem?_eq_none (by simp; omega)] at hj
      simp at hj
theorem clo_spec {l : List Oper} {j i : Nat} (h : clo l j i = true) : ∃ o, l[j]? = some o ∧ ∃ k ∈ afters o, i = k ∨ clo l k i = true :=
  masksFrom_ok l l [] [] rfl rfl (fun j i h => by simp at h) j i h
def dstOf (l : List Oper) (i : Nat) : Option Nat := (l[i]?).bind (·.dst)
def early (l : List Oper) (S1 : List (Nat × Value)) (i : Nat) : List (Nat × Value) := S1.filter fun q => (List.range l.length).all fun w => dstOf l w != some q.1 || clo l w i
def drawOk (n : Nat) (S0 : List (Nat × Value)) (l : List Oper) : Bool :=
  (List.range l.length).all fun i => match l[i]? with
    | none => false
    | some o => (afters o).all (fun j => Nat.blt j i) &&
      (match o.guard with | none => true | some (j, _) => (afters o).contains j && (dstOf l j).isSome) &&
      (match o.dst with
        | none => true
        | some d => Nat.blt d n && (get S0 d).isNone && (List.range i).all (fun j => dstOf l j != some d))
def DepsAre (S : List (Nat × Value)) (l : List Oper) (v : Nat → Value) : List Nat → Prop
  | [] => True
  | j :: r => (match dstOf l j with | some d => get S d = some (v j) | none => True) ∧ DepsAre S l v r
section
variable {P : Program} {n : Nat} {S : List (Nat × Value)} {H : List Ent} {A : Array Oper} {Q : Exit → Act → World → Prop}
def DQ {X : Type} (n : Nat) (S : List (Nat × Value)) (l : List Oper) (V : X → Nat → Value) (Hs : X → Nat → List Ent) (i c' : Nat) (x : X) (Q : Exit → Act → World → Prop) : Exit → Act → World → Prop :=
  Exit.then (fun a w => ∃ x', (∀ j, j ≠ i → clo l j i = false → V x' j = V x j) ∧
    Sl n (match dstOf l i with | some d => (d, V x' i) :: S | none => S) a ∧ Mem (Hs x' c') w) Q
def Ob {X : Type} (P : Program) (n : Nat) (S0 S1 : List (Nat × Value)) (l : List Oper) (V : X → Nat → Value) (Hs : X → Nat → List Ent) (isM : List Nat) (Q : Exit → Act → World → Prop) (i : Nat) (o : Oper) : Prop :=
  (∀ x S c, Ext S0 S → Ext (early l S1 i) S → DepsAre S l (V x) (afters o) → (isM.filter (fun m => clo l i m)).length ≤ c → c ≤ (isM.filter (fun m => !clo l m i)).length → (isM.contains i = true → c = (isM.filter (fun m => Nat.blt m i)).length) →
      (match o.guard with | none => True | some (j, b) => V x j = .bool b) →
      TOps P n S (Hs x c) [{ o with guard := none }] l.toArray (DQ n S l V Hs i (bif isM.contains i then c + 1 else c) x Q)) ∧
  (match o.guard with
    | none => True
    | some (j, b) => (∃ d, o.dst = some d) ∧ ((isM.contains i = false ∧ ∀ x, V x j = .bool b ∨ ((V x j = .bool (!b) ∨ ∃ vs, V x j = .tuple vs) ∧ V x i = undef)) ∨ ∀ x, V x j = .bool b))
def Obs {X : Type} (P : Program) (n : Nat) (S0 S1 : List (Nat × Value)) (l : List Oper) (V : X → Nat → Value) (Hs : X → Nat → List Ent) (isM : List Nat) (Q : Exit → Act → World → Prop) : Nat → List Oper → Prop
  | _, [] => True
  | i, o :: r => Ob P n S0 S1 l V Hs isM Q i o ∧ Obs P n S0 S1 l V Hs isM Q (i + 1) r
theorem Obs.at {X : Type} {S0 S1 : List (Nat × Value)} {l : List Oper} {V : X → Nat → Value} {Hs : X → Nat → List Ent} {isM : List Nat} :
    ∀ (r : List Oper) (k : Nat), Obs P n S0 S1 l V Hs isM Q k r → ∀ i o, r[i]? = some o → Ob P n S0 S1 l V Hs isM Q (k + i) o
  | [], k, _, i, o, h => by simp at h
  | o' :: r, k, ⟨h1, h2⟩, 0, o, h => by
    simp at h
    subst h
    exact h1
  | o' :: r, k, ⟨h1, h2⟩, i + 1, o, h => by
    have := Obs.at r (k + 1) h2 i o (by simpa using h)
    rwa [show k + (i + 1) = k + 1 + i by omega]
def allS (l : List Oper) (v : Nat → Value) : Nat → List Oper → List (Nat × Value) → List (Nat × Value)
  | _, [], S => S
  | i, o :: r, S => allS l v (i + 1) r (match o.dst with | some d => (d, v i) :: S | none => S)
theorem wpOp_of {o : Oper} {i : Nat} {l : List Oper} (hi : l[i]? = some o) {a : Act} {w : World} {K : Act → World → Prop} {Q' : Exit → Act → World → Prop} :
    wpOp P l.toArray Q' i K a w = if Region.wanted o (yielded l.toArray a.tmps) then o.wp P a w K Q' ∨ (o.asks P a w ∧ LetsOut Q') else K (a.put o.dst undef) w := by
  unfold wpOp
  simp [hi]
theorem get_append (A B : List (Nat × Value)) (k : Nat) : get (A ++ B) k = (get A k).or (get B k) := by
  induction A with
  | nil => simp [get]
  | cons q r ih =>
    obtain ⟨k0, v0⟩ := q
    by_cases e : k0 = k
    · subst e
      rw [List.cons_append, get_cons_same, get_cons_same]; rfl
    · rw [List.cons_append, get_cons_ne e, get_cons_ne e, ih]
theorem get_filter_early {l : List Oper} {S1 : List (Nat × Value)} {i k : Nat} {v : Value} (h : get (early l S1 i) k = some v) : get S1 k = some v ∧ ∀ w, dstOf l w = some k → clo l w i = true := by
  induction S1 with
  | nil => simp [early, get] at h
  | cons q r ih =>
    obtain ⟨k0, v0⟩ := q
    unfold early at h ih
    rw [List.filter_cons] at h
    by_cases e : k0 = k
    · subst e
      split at h
      · rename_i hp
        rw [get_cons_same] at h
        refine ⟨by rw [get_cons_same]; exact h, fun w hw => ?_⟩
        have hwl : w < l.length := by
          rcases Nat.lt_or_ge w l.length with h' | h'
          · exact h'
          · simp [dstOf, List.getElem?_eq_none h'] at hw
        have := List.all_eq_true.1 hp w (List.mem_range.2 hwl)
        rw [hw] at this
        simpa using this
      · rename_i hp
        obtain ⟨h1, h2⟩ := ih h
        exfalso
        apply hp
        rw [List.all_eq_true]
        intro w hw
        cases hdw : dstOf l w with
        | none => simp
        | some d =>
          by_cases e : d = k0
          · subst e; simp [h2 w hdw]
          · simp [e]
    · split at h
      · rw [get_cons_ne e] at h
        rw [get_cons_ne e]
        exact ih h
      · rw [get_cons_ne e]
        exact ih h
structure DInv {X : Type} (n : Nat) (S0 S1 : List (Nat × Value)) (l : List Oper) (V : X → Nat → Value) (Hs : X → Nat → List Ent) (isM : List Nat) (L : Array Bool) (x : X) (a : Act) (w : World) : Prop where
  size : L.size = l.length
  closed : ∀ (j : Nat) (o : Oper), l[j]? = some o → L[j]? = some true → ∀ i ∈ afters o, L[i]? = some true
  s0 : Sl n S0 a
  s1 : ∀ (k : Nat) (v : Value), get S1 k = some v → (∀ w, dstOf l w = some k → ¬ L[w]? = some true) → k < n ∧ a.tmps.getD k undef = v
  vals : ∀ (j d : Nat), L[j]? = some true → dstOf l j = some d → d < n ∧ a.tmps.getD d undef = V x j
  mem : Mem (Hs x (isM.filter (fun m => L[m]? == some true)).length) w
theorem drawOk.back {S0 : List (Nat × Value)} {l : List Oper} (hok : drawOk n S0 l = true) {i : Nat} {o : Oper} (ho : l[i]? = some o) : ∀ j ∈ afters o, j < i := by
  have hil : i < l.length := (List.getElem?_eq_some_iff.1 ho).1
  have h := List.all_eq_true.1 hok i (List.mem_range.2 hil)
  simp only [ho, Bool.and_eq_true] at h
  obtain ⟨⟨h1, h2⟩, h3⟩ := h
  intro j hj
  have := List.all_eq_true.1 h1 j hj
  simpa [Nat.blt_eq] using this
theorem DInv.closure {X : Type} {S0 S1 l} {V : X → Nat → Value} {Hs isM L x a w} (h : DInv n S0 S1 l V Hs isM L x a w) (hok : drawOk n S0 l = true) : ∀ (j : Nat), L[j]? = some true → ∀ i, clo l j i = true → L[i]? = some true := by
  intro j
  induction j using Nat.strongRecOn with
  | _ j ih =>
    intro hj i hi
    obtain ⟨o, ho, k, hk, hki⟩ := clo_spec hi
    have hkL := h.closed j o ho hj k hk
    rcases hki with rfl | hki
    · exact hkL
    · exact ih k (drawOk.back hok ho k hk) hkL i hki
theorem filter_len_le {p q : Nat → Bool} : ∀ (l : List Nat), (∀ m ∈ l, p m = true → q m = true) → (l.filter p).length ≤ (l.filter q).length
  | [], _ => by simp
  | m :: r, h => by
    have ih := filter_len_le r (fun m hm => h m (List.mem_cons_of_mem _ hm))
    have h0 := h m (by simp)
    cases hp : p m <;> cases hq : q m <;> simp [List.filter_cons, hp, hq] <;> first | omega | (rw [hp, hq] at h0; simp at h0)
theorem filter_len_eq {p q : Nat → Bool} (l : List Nat) (h : ∀ m ∈ l, p m = q m) : (l.filter p).length = (l.filter q).length := by
  rw [List.filter_congr h]
theorem Oper.wp_then {o : Oper} {a : Act} {w : World} {K K' : Act → World → Prop} (h : o.wp P a w K (Exit.then K' Q)) : o.wp P a w K Q := by
  unfold Oper.wp at *
  revert h
  generalize (execOp a.eval o).run P w = r
  intro h
  cases r with
  | ok x w' =>
    cases x <;> simp only [Oper.upon] at h ⊢ <;>
      first
        | exact h
        | exact Calls.mono h (fun e w'' he => by cases e <;> first | exact he | (obtain ⟨a', w', h'⟩ := he; exact ⟨a', w', h'⟩))
  | halt x w' => cases x <;> simp only [Oper.upon] at h ⊢ <;> exact h
theorem one_of_TOps {o : Oper} {K : Act → World → Prop} (h : TOps P n S H [{ o with guard := none }] A (Exit.then K Q)) {a : Act} {w : World} (hS : Sl n S a) (hM : Mem H w) :
    o.wp P a w K Q ∨ (o.asks P a w ∧ LetsOut Q) := by
  have h1 := h a w hS hM
  unfold wpList at h1
  simp only [Region.wanted, if_true] at h1
  rcases h1 with h1 | ⟨h1, a', w', h2⟩
  · refine .inl ?_
    cases o
    exact Oper.wp_then h1
  · refine .inr ⟨?_, a', w', h2⟩
    cases o
    exact h1
theorem setB {L : Array Bool} {i : Nat} (j : Nat) (hi : i < L.size) : ((L.setIfInBounds i true)[j]? = some true) ↔ (j = i ∨ L[j]? = some true) := by
  by_cases e : i = j
  · subst e
    simp [hi]
  · rw [Array.getElem?_setIfInBounds_ne e]
    exact ⟨.inr, fun h => h.resolve_left (fun e' => e e'.symm)⟩
theorem DInv.step {X : Type} {S0 S1 : List (Nat × Value)} {l : List Oper} {V : X → Nat → Value} {Hs : X → Nat → List Ent} {isM : List Nat} {L : Array Bool} {x x' : X} {a : Act} {w w' : World} {i : Nat} {o : Oper} {v : Value}
    (h : DInv n S0 S1 l V Hs isM L x a w) (hok : drawOk n S0 l = true) (ho : l[i]? = some o) (hL : ∀ j ∈ afters o, L[j]? = some true) (hn : ¬ L[i]? = some true)
    (hx : ∀ j, j ≠ i → clo l j i = false → V x' j = V x j) (hv : ∀ d, o.dst = some d → v = V x' i)
    (hM : Mem (Hs x' (isM.filter (fun m => (L.setIfInBounds i true)[m]? == some true)).length) w') : DInv n S0 S1 l V Hs isM (L.setIfInBounds i true) x' (a.put o.dst v) w' := by
  have hil : i < l.length := (List.getElem?_eq_some_iff.1 ho).1
  have hi : i < L.size := by rw [h.size]; exact hil
  have hok' := List.all_eq_true.1 hok i (List.mem_range.2 hil)
  simp only [ho, Bool.and_eq_true] at hok'
  obtain ⟨⟨hok1, _⟩, hok3⟩ := hok'
  refine ⟨by simp [h.size], ?_, ?_, ?_, ?_, hM⟩
  · intro j o' ho' hj k hk
    rw [setB _ hi] at hj ⊢
    rcases hj with rfl | hj
    · rw [ho] at ho'
      cases ho'
      exact .inr (hL k hk)
    · exact .inr (h.closed j o' ho' hj k hk)
  · cases hd : o.dst with
    | none => exact h.s0.putNone v
    | some d =>
      rw [hd] at hok3
      simp only [Bool.and_eq_true] at hok3
      exact h.s0.putNe v (by simpa [Nat.blt_eq] using hok3.1.1) (by simpa using hok3.1.2)
  · intro k v' hk hw
    obtain ⟨h1, h2⟩ := h.s1 k v' hk (fun w hwk hL' => hw w hwk ((setB _ hi).2 (.inr hL')))
    refine ⟨h1, ?_⟩
    cases hd : o.dst with
    | none => simpa [Act.put, hd] using h2
    | some d =>
      have hne : d ≠ k := by
        intro e
        subst e
        exact hw i (by simp [dstOf, ho, hd]) ((setB _ hi).2 (.inl rfl))
      rw [← h2]
      simp [Act.put, Array.getElem?_setIfInBounds_ne hne]
  · intro j d hj hjd
    rw [setB _ hi] at hj
    by_cases e : j = i
    · subst e
      have hd : o.dst = some d := by simpa [dstOf, ho] using hjd
      rw [hd] at hok3
      simp only [Bool.and_eq_true] at hok3
      have hdn : d < n := by simpa [Nat.blt_eq] using hok3.1.1
      refine ⟨hdn, ?_⟩
      rw [hd, hv d hd]
      simp [Act.put, h.s0.sz, hdn]
    · have hj' := hj.resolve_left e
      obtain ⟨h1, h2⟩ := h.vals j d hj' hjd
      refine ⟨h1, ?_⟩
      have hne : o.dst ≠ some d := by
        intro hd
        rcases Nat.lt_trichotomy j i with hlt | heq | hgt
        · rw [hd] at hok3
          simp only [Bool.and_eq_true] at hok3
          have := List.all_eq_true.1 hok3.2 j (List.mem_range.2 hlt)
          rw [hjd] at this
          simp at this
        · exact e heq
        · have hjl : j < l.length := by
            have : j < L.size := by
              rcases Nat.lt_or_ge j L.size with h' | h'
              · exact h'
              · rw [Array.getElem?_eq_none h'] at hj'; cases hj'
            rw [h.size] at this
            exact this
          have hokj := List.all_eq_true.1 hok j (List.mem_range.2 hjl)
          have hlj : l[j]? = some l[j] := List.getElem?_eq_getElem hjl
          simp only [hlj, Bool.and_eq_true] at hokj
          have hdj : l[j].dst = some d := by simpa [dstOf, hlj] using hjd
          rw [hdj] at hokj
          simp only [Bool.and_eq_true] at hokj
          have := List.all_eq_true.1 hokj.2.2 i (List.mem_range.2 hgt)
          have hdi : dstOf l i = some d := by simp [dstOf, ho, hd]
          rw [hdi] at this
          simp at this
      have hput : (a.put o.dst v).tmps.getD d undef = a.tmps.getD d undef := by
        cases hd : o.dst with
        | none => rfl
        | some d' =>
          have : d' ≠ d := fun e => hne (by rw [hd, e])
          simp [Act.put, Array.getElem?_setIfInBounds_ne this]
      rw [hput, h2, hx j e]
      cases hc : clo l j i with
      | false => rfl
      | true =>
        exact absurd (h.closure hok _ hj' i hc) hn
def isMOk (l : List Oper) (isM : List Nat) : Bool :=
  decide isM.Nodup && isM.all (fun m => Nat.blt m l.length) && isM.all (fun m => isM.all (fun k => !(Nat.blt m k) || clo l k m))
theorem filter_add {p q : Nat → Bool} {i : Nat} : ∀ (l : List Nat), l.Nodup → i ∈ l → p i = false → q i = true → (∀ m ∈ l, m ≠ i → q m = p m) → (l.filter q).length = (l.filter p).length + 1
  | [], _, h, _, _, _ => by simp at h
  | m :: r, hnd, hi, hp, hq, hpq => by
    simp only [List.nodup_cons] at hnd
    by_cases e : m = i
    · subst e
      have : (r.filter q).length = (r.filter p).length :=
        filter_len_eq r (fun k hk => hpq k (List.mem_cons_of_mem _ hk) (fun e => hnd.1 (e ▸ hk)))
      simp [List.filter_cons, hp, hq, this]
    · have hir : i ∈ r := by
        cases hi with
        | head => exact absurd rfl e
        | tail _ h => exact h
      have ih := filter_add r hnd.2 hir hp hq (fun k hk => hpq k (List.mem_cons_of_mem _ hk))
      have h0 := hpq m (by simp) e
      cases hpm : p m <;> simp [List.filter_cons, h0, hpm, ih]
theorem drawOk.at {S0 : List (Nat × Value)} {l : List Oper} (hok : drawOk n S0 l = true) {i : Nat} {o : Oper} (ho : l[i]? = some o) :
    (∀ j ∈ afters o, j < i) ∧ (∀ j b, o.guard = some (j, b) → j ∈ afters o ∧ ∃ dj, dstOf l j = some dj) ∧ (∀ d, o.dst = some d → d < n ∧ get S0 d = none ∧ ∀ j, j < i → dstOf l j ≠ some d) := by
  have hil : i < l.length := (List.getElem?_eq_some_iff.1 ho).1
  have h := List.all_eq_true.1 hok i (List.mem_range.2 hil)
  simp only [ho, Bool.and_eq_true] at h
  obtain ⟨⟨h1, h2⟩, h3⟩ := h
  refine ⟨fun j hj => ?_, fun j b hg => ?_, fun d hd => ?_⟩
  · have := List.all_eq_true.1 h1 j hj
    simpa [Nat.blt_eq] using this
  · rw [hg] at h2
    simp only [Bool.and_eq_true] at h2
    exact ⟨by simpa using h2.1, Option.isSome_iff_exists.1 h2.2⟩
  · rw [hd] at h3
    simp only [Bool.and_eq_true] at h3
    refine ⟨by simpa [Nat.blt_eq] using h3.1.1, by simpa using h3.1.2, fun j hj e => ?_⟩
    have := List.all_eq_true.1 h3.2 j (List.mem_range.2 hj)
    rw [e] at this
    simp at this
theorem mem_ready {l : List Oper} {L : Array Bool} (hsz : L.size = l.length) (i : Nat) : i ∈ Region.ready .any l.toArray L ↔ ∃ o, l[i]? = some o ∧ ¬ L[i]? = some true ∧ ∀ j ∈ afters o, L[j]? = some true := by
  unfold Region.ready
  simp only [List.mem_filter, List.mem_range, List.size_toArray, List.getElem?_toArray]
  constructor
  · rintro ⟨hi, h⟩
    have hlo : l[i]? = some l[i] := List.getElem?_eq_getElem hi
    simp only [hlo, Option.map_some, Option.getD_some, Bool.and_eq_true] at h
    have hiL : i < L.size := by omega
    refine ⟨_, hlo, ?_, fun j hj => ?_⟩
    · have h1 := h.1
      rw [Array.getElem?_eq_getElem hiL]
      simp [hiL] at h1
      simp [h1]
    · simp only [afters, List.mem_map, List.mem_filter] at hj
      obtain ⟨e, ⟨he, hb⟩, rfl⟩ := hj
      have h2 := Array.all_eq_true_iff_forall_mem.1 h.2 e (by simpa using he)
      simp only [hb, Bool.not_true, Bool.false_or] at h2
      rcases Nat.lt_or_ge e.on L.size with h' | h'
      · rw [Array.getElem?_eq_getElem h']
        simpa [h'] using h2
      · have : ¬ e.on < L.size := by omega
        simp [this] at h2
  · rintro ⟨o, ho, hn, h⟩
    have hi : i < l.length := (List.getElem?_eq_some_iff.1 ho).1
    have hiL : i < L.size := by omega
    refine ⟨hi, ?_⟩
    simp only [ho, Option.map_some, Option.getD_some, Bool.and_eq_true]
    constructor
    · rw [Array.getElem?_eq_getElem hiL] at hn
      simp [hiL]
      simpa using hn
    · rw [Array.all_eq_true_iff_forall_mem]
      intro e he
      cases hb : Region.binds .any e with
      | false => simp
      | true =>
        have := h e.on (by simp only [afters, List.mem_map, List.mem_filter]; exact ⟨e, ⟨by simpa using he, hb⟩, rfl⟩)
        obtain ⟨h1, h2⟩ := Array.getElem?_eq_some_iff.1 this
        simp [h1, h2]
theorem Tri.draw {X : Type} {id : Nat} {l : List Oper} (hm : P.follows .mixedOrders = true) (S0 S1 : List (Nat × Value)) (V : X → Nat → Value) (Hs : X → Nat → List Ent) (isM : List Nat) (x0 : X)
    (hok : drawOk n S0 l = true) (hMok : isMOk l isM = true) (hs : Has S S0) (hs1 : Has S S1) (hl : Le H (Hs x0 0))
    (hob : Obs P n S0 S1 l V Hs isM Q 0 l)
    (hq : ∀ x a w, Sl n S0 a → (∀ j d, dstOf l j = some d → d < n ∧ a.tmps.getD d undef = V x j) → Mem (Hs x isM.length) w → Q .normal a w) : Tri P n S H (.region id l.toArray true) Q := by
  simp only [isMOk, Bool.and_eq_true, decide_eq_true_eq] at hMok
  obtain ⟨⟨m1, m2⟩, m3⟩ := hMok
  have m2' : ∀ m ∈ isM, m < l.length := fun m hm => by simpa [Nat.blt_eq] using List.all_eq_true.1 m2 m hm
  have m3' : ∀ m ∈ isM, ∀ k ∈ isM, m < k → clo l k m = true := by
    intro m hm k hk hlt
    have := List.all_eq_true.1 (List.all_eq_true.1 m3 m hm) k hk
    have hb : Nat.blt m k = true := by simpa [Nat.blt_eq] using hlt
    simpa [hb] using this
  intro a0 w0 hS hM
  refine wp_region_any hm ?_
  have full : ∀ (L : Array Bool) x a w, DInv n S0 S1 l V Hs isM L x a w → (∀ i, i < l.length → L[i]? = some true) → Q .normal a w := by
    intro L x a w h hall
    refine hq x a w h.s0 (fun j d hj => ?_) ?_
    · have hjl : j < l.length := by
        rcases Nat.lt_or_ge j l.length with h' | h'
        · exact h'
        · simp [dstOf, List.getElem?_eq_none h'] at hj
      exact h.vals j d (hall j hjl) hj
    · have hfil : (isM.filter (fun m => L[m]? == some true)) = isM := by
        rw [List.filter_eq_self]
        intro m hm
        simp [hall m (m2' m hm)]
      have := h.mem
      rwa [hfil] at this
  have allL : ∀ (L : Array Bool), L.size = l.length → Region.ready .any l.toArray L = [] → ∀ i, i < l.length → L[i]? = some true := by
    intro L hsz hr i
    induction i using Nat.strongRecOn with
    | _ i ih =>
      intro hi
      by_cases hL : L[i]? = some true
      · exact hL
      · have ho : l[i]? = some l[i] := List.getElem?_eq_getElem hi
        have hmem : i ∈ Region.ready .any l.toArray L := (mem_ready hsz i).2 ⟨_, ho, hL, fun j hj => by
          have hji := (drawOk.at hok ho).1 j hj
          exact ih j hji (by omega)⟩
        rw [hr] at hmem
        cases hmem
  have main : ∀ (fuel : Nat) (U : List Nat) (L : Array Bool) x a w, U.Nodup → (∀ i, i < l.length → ¬ L[i]? = some true → i ∈ U) → U.length ≤ fuel → DInv n S0 S1 l V Hs isM L x a w →
      wpAny P .any l.toArray Q fuel L a w := by
    intro fuel
    induction fuel with
    | zero =>
      intro U L x a w hU hm hf h
      have hall : ∀ i, i < l.length → L[i]? = some true := by
        intro i hi
        by_cases hL : L[i]? = some true
        · exact hL
        · have := hm i hi hL
          have h0 : U = [] := List.eq_nil_of_length_eq_zero (by omega)
          rw [h0] at this
          cases this
      refine ⟨?_, full L x a w h hall⟩
      refine List.eq_nil_iff_forall_not_mem.2 fun i hi => ?_
      obtain ⟨o, ho, hn, _⟩ := (mem_ready h.size i).1 hi
      exact hn (hall i (List.getElem?_eq_some_iff.1 ho).1)
    | succ fuel ih =>
      intro U L x a w hU hm hf h
      refine ⟨fun hr => full L x a w h (allL L h.size hr), fun i hi => ?_⟩
      obtain ⟨o, ho, hn, hL⟩ := (mem_ready h.size i).1 hi
      have hil : i < l.length := (List.getElem?_eq_some_iff.1 ho).1
      have hiL : i < L.size := by rw [h.size]; exact hil
      have hiU := hm i hil hn
      have next : ∀ x' a' w', DInv n S0 S1 l V Hs isM (L.setIfInBounds i true) x' a' w' → wpAny P .any l.toArray Q fuel (L.setIfInBounds i true) a' w' := by
        intro x' a' w' h'
        refine ih (U.erase i) _ x' a' w' (hU.erase i) (fun k hk hLk => ?_) ?_ h'
        · rw [setB _ hiL] at hLk
          exact (List.mem_erase_of_ne (fun e => hLk (.inl e))).2 (hm k hk (fun h => hLk (.inr h)))
        · rw [List.length_erase_of_mem hiU]
          omega
      obtain ⟨a1, a2, a3⟩ := drawOk.at hok ho
      have hO := Obs.at l 0 hob i o ho
      rw [Nat.zero_add] at hO
      obtain ⟨hO1, hO2⟩ := hO
      have hclo : ∀ k, clo l i k = true → L[k]? = some true := by
        intro k hk
        obtain ⟨o', ho', j, hj, hjk⟩ := clo_spec hk
        rw [ho] at ho'
        cases ho'
        rcases hjk with rfl | hjk
        · exact hL k hj
        · exact h.closure hok j (hL j hj) k hjk
      have hearly : ∀ k v, get (early l S1 i) k = some v → get S1 k = some v ∧ k < n ∧ a.tmps.getD k undef = v := by
        intro k v hk
        obtain ⟨g1, g2⟩ := get_filter_early hk
        refine ⟨g1, h.s1 k v g1 (fun w hw hLw => ?_)⟩
        exact hn (h.closure hok w hLw i (g2 w hw))
      have hc1 : (isM.filter (fun m => clo l i m)).length ≤ (isM.filter (fun m => L[m]? == some true)).length :=
        filter_len_le isM (fun m _ hp => by simp [hclo m hp])
      have hc3 : (isM.filter (fun m => L[m]? == some true)).length ≤ (isM.filter (fun m => !clo l m i)).length :=
        filter_len_le isM (fun m _ hp => by
          cases hcm : clo l m i with
          | false => rfl
          | true => exact absurd (h.closure hok m (by simpa using hp) i hcm) hn)
      have hc2 : isM.contains i = true → (isM.filter (fun m => L[m]? == some true)).length = (isM.filter (fun m => Nat.blt m i)).length := by
        intro hc
        have hiM : i ∈ isM := by simpa using hc
        refine filter_len_eq isM (fun m hmM => ?_)
        rcases Nat.lt_trichotomy m i with hlt | heq | hgt
        · have h1 := hclo m (m3' m hmM i hiM hlt)
          simp [h1, Nat.blt_eq, hlt]
        · subst heq
          have h2 : (L[m]? == some true) = false := by simpa using hn
          rw [h2]
          cases hb : Nat.blt m m with
          | false => rfl
          | true =>
            simp at hb
        · have h2 : ¬ L[m]? = some true := fun hLm => hn (h.closure hok _ hLm i (by simpa using m3' i hiM m hmM hgt))
          have h3 : (L[m]? == some true) = false := by simpa using h2
          have h4 : Nat.blt m i = false := by
            cases hb : Nat.blt m i with
            | false => rfl
            | true =>
              have : m < i := by simpa [Nat.blt_eq] using hb
              omega
          rw [h3, h4]
      have hcount : ∀ c', (bif isM.contains i then (isM.filter (fun m => L[m]? == some true)).length + 1 else (isM.filter (fun m => L[m]? == some true)).length) = c' →
          (isM.filter (fun m => (L.setIfInBounds i true)[m]? == some true)).length = c' := by
        intro c' hc'
        cases hc : isM.contains i with
        | true =>
          rw [hc] at hc'
          simp only [cond_true] at hc'
          rw [← hc']
          refine filter_add isM m1 (by simpa using hc) (by simpa using hn) (by simp [setB _ hiL]) (fun m _ hne => ?_)
          rw [Array.getElem?_setIfInBounds_ne (fun e => hne e.symm)]
        | false =>
          rw [hc] at hc'
          simp only [cond_false] at hc'
          rw [← hc']
          refine filter_len_eq isM (fun m hmM => ?_)
          have hne : i ≠ m := by
            intro e
            subst e
            have : isM.contains i = true := by simpa using hmM
            rw [this] at hc
            cases hc
          rw [Array.getElem?_setIfInBounds_ne hne]
      rw [wpOp_of ho]
      have hdeps : ∃ S9, Ext S0 S9 ∧ Ext (early l S1 i) S9 ∧ DepsAre S9 l (V x) (afters o) ∧ Sl n S9 a := by
        have build : ∀ (ds : List Nat), (∀ j ∈ ds, L[j]? = some true) → ∃ S9, Ext S0 S9 ∧ Ext (early l S1 i) S9 ∧ DepsAre S9 l (V x) ds ∧ Sl n S9 a := by
          intro ds
          induction ds with
          | nil =>
            intro _
            have hg : ∀ k v, get (early l S1 i ++ S0) k = some v → k < n ∧ a.tmps.getD k undef = v := by
              intro k v hk
              rw [get_append] at hk
              cases he : get (early l S1 i) k with
              | none => rw [he] at hk; exact h.s0.g k v hk
              | some v' => rw [he] at hk; cases hk; exact (hearly k v he).2
            refine ⟨early l S1 i ++ S0, fun k v hk => ?_, fun k v hk => ?_, trivial, ⟨h.s0.sz, h.s0.df, hg⟩⟩
            · rw [get_append]
              cases he : get (early l S1 i) k with
              | none => exact hk
              | some v' =>
                have h1 := (hearly k v' he).2.2
                have h2 := (h.s0.g k v hk).2
                rw [← h1, h2]; rfl
            · rw [get_append, hk]; rfl
          | cons j ds ihd =>
            intro hds
            obtain ⟨S9, e1, e5, e2, e3⟩ := ihd (fun k hk => hds k (List.mem_cons_of_mem _ hk))
            cases hd : dstOf l j with
            | none => exact ⟨S9, e1, e5, ⟨by simp [hd], e2⟩, e3⟩
            | some d =>
              obtain ⟨v1, v2⟩ := h.vals j d (hds j (by simp)) hd
              have key : ∀ k v, get ((d, V x j) :: S9) k = some v → k < n ∧ a.tmps.getD k undef = v := by
                intro k v hk
                by_cases e : d = k
                · subst e
                  rw [get_cons_same] at hk
                  cases hk
                  exact ⟨v1, v2⟩
                · rw [get_cons_ne e] at hk
                  exact e3.g k v hk
              have hext : ∀ k v, get S9 k = some v → get ((d, V x j) :: S9) k = some v := by
                intro k v hk
                by_cases e : d = k
                · subst e
                  rw [get_cons_same]
                  rw [← (e3.g d v hk).2, v2]
                · rw [get_cons_ne e]
                  exact hk
              refine ⟨(d, V x j) :: S9, fun k v hk => hext k v (e1 k v hk), fun k v hk => hext k v (e5 k v hk), ⟨by simp only [hd]; exact get_cons_same _ _ _, ?_⟩, ⟨e3.sz, e3.df, key⟩⟩
              have up : ∀ (ds' : List Nat), DepsAre S9 l (V x) ds' → DepsAre ((d, V x j) :: S9) l (V x) ds' := by
                intro ds'
                induction ds' with
                | nil => intro _; trivial
                | cons q ds' ihq =>
                  intro hq
                  refine ⟨?_, ihq hq.2⟩
                  have := hq.1
                  cases hdq : dstOf l q with
                  | none => trivial
                  | some dq =>
                    rw [hdq] at this
                    exact hext _ _ this
              exact up ds e2
        exact build (afters o) hL
      obtain ⟨S9, e1, e5, e2, e3⟩ := hdeps
      have run : (match o.guard with | none => True | some (j, b) => V x j = .bool b) →
          o.wp P a w (wpAny P .any l.toArray Q fuel (L.setIfInBounds i true)) Q ∨ (o.asks P a w ∧ LetsOut Q) := by
        intro hg
        have h1 := one_of_TOps (hO1 x S9 _ e1 e5 e2 hc1 hc3 hc2 hg) e3 h.mem
        rcases h1 with h1 | h1
        · refine .inl ?_
          have hw : ∀ (r : Result Next), o.upon P a (fun a' w' => ∃ x', (∀ j, j ≠ i → clo l j i = false → V x' j = V x j) ∧
              Sl n (match dstOf l i with | some d => (d, V x' i) :: S9 | none => S9) a' ∧ Mem (Hs x' (bif isM.contains i then (isM.filter (fun m => L[m]? == some true)).length + 1 else (isM.filter (fun m => L[m]? == some true)).length)) w') Q r →
              (∀ d, r ≠ .ok (.defer d) w → True) → o.upon P a (wpAny P .any l.toArray Q fuel (L.setIfInBounds i true)) Q r := by
            intro r hr _
            have put : ∀ v w', (∃ x', (∀ j, j ≠ i → clo l j i = false → V x' j = V x j) ∧
              Sl n (match dstOf l i with | some d => (d, V x' i) :: S9 | none => S9) (a.put o.dst v) ∧ Mem (Hs x' (bif isM.contains i then (isM.filter (fun m => L[m]? == some true)).length + 1 else (isM.filter (fun m => L[m]? == some true)).length)) w') →
              wpAny P .any l.toArray Q fuel (L.setIfInBounds i true) (a.put o.dst v) w' := by
              rintro v w' ⟨x', hx', hS', hM'⟩
              refine next x' _ w' (h.step hok ho hL hn hx' (fun d hd => ?_) (by rw [hcount _ rfl]; exact hM'))
              have hdi : dstOf l i = some d := by simp [dstOf, ho, hd]
              rw [hdi] at hS'
              have := (hS'.g d _ (get_cons_same _ _ _)).2
              rw [hd] at this
              have hdn := (a3 d hd).1
              simp [Act.put, e3.sz, hdn] at this
              exact this
            cases r with
            | ok y w' =>
              cases y <;> simp only [Oper.upon] at hr ⊢ <;>
                first
                  | exact put _ _ hr
                  | exact Calls.mono hr (fun e w'' he => by cases e <;> first | exact put _ _ he | exact he)
                  | exact Rows.mono hr (fun _ _ he => put _ _ he)
                  | (exfalso
                     obtain ⟨x', _, hS', _⟩ := hr
                     have := hS'.df
                     cases hdd : o.dst <;> simp [Act.put, hdd] at this)
            | halt y w' => cases y <;> simp only [Oper.upon] at hr ⊢ <;> exact hr
          exact hw _ h1 (fun _ _ => trivial)
        · exact .inr h1
      cases hgd : o.guard with
      | none =>
        have hw : Region.wanted o (yielded l.toArray a.tmps) = true := by simp [Region.wanted, hgd]
        rw [if_pos hw]
        exact run (by rw [hgd]; trivial)
      | some jb =>
        obtain ⟨j, b⟩ := jb
        rw [hgd] at hO2
        obtain ⟨⟨d, hd⟩, hO3⟩ := hO2
        have hjL := hL j (a2 j b hgd).1
        obtain ⟨dj, hdj⟩ := (a2 j b hgd).2
        have hyld : ∀ g, V x j = .bool g → dstOf l j = some dj → Region.wanted o (yielded l.toArray a.tmps) = (g == b) := by
          intro g hg hdj
          obtain ⟨v1, v2⟩ := h.vals j dj hjL hdj
          have : a.tmps[dj]? = some (.bool g) := by
            rw [Array.getElem?_eq_getElem (by rw [h.s0.sz]; exact v1)]
            rw [Array.getD_eq_getD_getElem?, Array.getElem?_eq_getElem (by rw [h.s0.sz]; exact v1), hg] at v2
            simpa using v2
          have hA : (l.toArray[j]?).bind (·.dst) = some dj := by simpa [dstOf] using hdj
          simp only [Region.wanted, hgd, Go.yielded, hA, Option.bind_some, this]
          cases g <;> cases b <;> rfl
        have hyldT : ∀ vs, V x j = .tuple vs → Region.wanted o (yielded l.toArray a.tmps) = false := by
          intro vs hg
          obtain ⟨v1, v2⟩ := h.vals j dj hjL hdj
          have : a.tmps[dj]? = some (.tuple vs) := by
            rw [Array.getElem?_eq_getElem (by rw [h.s0.sz]; exact v1)]
            rw [Array.getD_eq_getD_getElem?, Array.getElem?_eq_getElem (by rw [h.s0.sz]; exact v1), hg] at v2
            simpa using v2
          have hA : (l.toArray[j]?).bind (·.dst) = some dj := by simpa [dstOf] using hdj
          simp only [Region.wanted, hgd, Go.yielded, hA, Option.bind_some, this]
          rfl
        have skip : isM.contains i = false → V x i = undef → Region.wanted o (yielded l.toArray a.tmps) = false → (if Region.wanted o (yielded l.toArray a.tmps) then o.wp P a w (wpAny P .any l.toArray Q fuel (L.setIfInBounds i true)) Q ∨ (o.asks P a w ∧ LetsOut Q) else wpAny P .any l.toArray Q fuel (L.setIfInBounds i true) (a.put o.dst undef) w) := by
          intro hnm hu hw
          rw [hw]
          simp only [Bool.false_eq_true, if_false]
          refine next x _ w (h.step hok ho hL hn (fun _ _ _ => rfl) (fun _ _ => hu.symm) ?_)
          rw [hcount (isM.filter (fun m => L[m]? == some true)).length (by rw [hnm]; rfl)]
          exact h.mem
        rcases hO3 with ⟨hnm, hv⟩ | hv
        · rcases hv x with hv | ⟨hv | ⟨vs, hv⟩, hu⟩
          · rw [if_pos (by rw [hyld b hv hdj]; simp)]
            exact run (by rw [hgd]; exact hv)
          · exact skip hnm hu (by rw [hyld _ hv hdj]; cases b <;> rfl)
          · exact skip hnm hu (hyldT vs hv)
        · rw [if_pos (by rw [hyld b (hv x) hdj]; simp)]
          exact run (by rw [hgd]; exact hv x)
  refine main l.toArray.size (List.range l.length) (Array.replicate l.toArray.size false) x0 a0 _ List.nodup_range (fun i hi _ => List.mem_range.2 hi) (by simp) ⟨by simp, ?_, ⟨(hS.weak hs).sz, (hS.weak hs).df, (hS.weak hs).g⟩, fun k v hk _ => (hS.weak hs1).g k v hk, ?_, ?_⟩
  · intro j o hj hLj
    simp [Array.getElem?_replicate] at hLj
  · intro j d hLj
    simp [Array.getElem?_replicate] at hLj
  · have hz : (isM.filter (fun m => (Array.replicate l.toArray.size false)[m]? == some true)).length = 0 := by
      rw [List.length_eq_zero_iff, List.filter_eq_nil_iff]
      intro m _
      simp [Array.getElem?_replicate]
    rw [hz]
    exact (hl w0 hM).same (fun e _ => ⟨rfl, rfl, rfl, Nat.le_refl _, fun _ _ => rfl⟩)
def selS (l : List Oper) (v : Nat → Value) (S0 : List (Nat × Value)) : List Nat → List (Nat × Value)
  | [] => S0
  | j :: r => match dstOf l j with | some d => (d, v j) :: selS l v S0 r | none => selS l v S0 r
theorem Tri.drawN {X : Type} {id : Nat} {l : List Oper} (hm : P.follows .mixedOrders = true) (S0 S1 : List (Nat × Value)) (V : X → Nat → Value) (Hs : X → Nat → List Ent) (isM : List Nat) (x0 : X) (sel : List Nat)
    (hok : drawOk n S0 l = true) (hMok : isMOk l isM = true) (hs : Has S S0) (hs1 : Has S S1) (hl : Le H (Hs x0 0))
    (hob : Obs P n S0 S1 l V Hs isM Q 0 l)
    (hq : ∀ x, Nrm n (selS l (V x) S0 sel) (Hs x isM.length) Q) : Tri P n S H (.region id l.toArray true) Q := by
  refine Tri.draw hm S0 S1 V Hs isM x0 hok hMok hs hs1 hl hob (fun x a w hS hv hM => hq x a w ?_ hM)
  refine ⟨hS.sz, hS.df, ?_⟩
  clear hq
  induction sel with
  | nil => exact hS.g
  | cons j r ih =>
    intro k v hk
    unfold selS at hk
    cases hd : dstOf l j with
    | none => rw [hd] at hk; exact ih k v hk
    | some d =>
      rw [hd] at hk
      by_cases e : d = k
      · subst e
        rw [get_cons_same] at hk
        cases hk
        exact hv j d hd
      · rw [get_cons_ne e] at hk
        exact ih k v hk
theorem Nrm.draw {X : Type} {l : List Oper} {V : X → Nat → Value} {Hs : X → Nat → List Ent} {i c' : Nat} {x : X} {S1 : List (Nat × Value)} {H1 : List Ent} (x' : X)
    (hx : ∀ j, j ≠ i → clo l j i = false → V x' j = V x j) (hS : S1 = (match dstOf l i with | some d => (d, V x' i) :: S | none => S)) (hl : Le H1 (Hs x' c')) :
    Nrm n S1 H1 (DQ n S l V Hs i c' x Q) := by
  intro a w h1 h2
  refine ⟨x', hx, ?_, hl w h2⟩
  rw [← hS]
  exact h1
end
end Go.GL
