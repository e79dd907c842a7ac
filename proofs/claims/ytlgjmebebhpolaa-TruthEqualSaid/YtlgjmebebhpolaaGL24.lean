import Derived.Test.YtlgjmebebhpolaaGL23
namespace Go.GL
set_option linter.unusedVariables false
set_option linter.unusedSimpArgs false
def inD : List Nat → Nat → Bool
  | [], _ => false
  | a :: r, k => match Nat.beq a k with | true => true | false => inD r k
theorem inD_iff {D : List Nat} {k : Nat} : inD D k = true ↔ k ∈ D := by
  induction D with
  | nil => simp [inD]
  | cons a r ih =>
    unfold inD
    cases hb : Nat.beq a k with
    | true => simp [Nat.eq_of_beq_eq_true hb]
    | false =>
      have : a ≠ k := fun e => by subst e; simp at hb
      simp only [ih, List.mem_cons]
      exact ⟨.inr, fun h => h.resolve_left (fun e => this e.symm)⟩
def subs : List Nat → List (List Nat)
  | [] => [[]]
  | m :: r => subs r ++ (subs r).map (m :: ·)
theorem filter_mem_subs : ∀ (l : List Nat) (p : Nat → Bool), l.filter p ∈ subs l
  | [], p => by simp [subs]
  | m :: r, p => by
    have ih := filter_mem_subs r p
    unfold subs
    rw [List.filter_cons, List.mem_append]
    split
    · exact .inr (List.mem_map.2 ⟨_, ih, rfl⟩)
    · exact .inl ih
def bitM (MS : List Nat) (j i : Nat) : Bool := (MS.getD j 0).testBit i
def closedSubs (MS isM : List Nat) : List (List Nat) := (subs isM).filter fun D => isM.all fun m => !inD D m || isM.all fun m' => !bitM MS m m' || inD D m'
def subsOk (MS isM : List Nat) (CS : List (List Nat)) (i : Nat) : List (List Nat) :=
  CS.filter fun D => isM.all fun m => (!bitM MS i m || inD D m) && ((!(bitM MS m i) && !Nat.beq m i) || !inD D m)
theorem mem_of_eq {D : List Nat} {L L' : List (List Nat)} (h : D ∈ L) (e : L = L') : D ∈ L' := e ▸ h
def insD (isM : List Nat) (i : Nat) (D : List Nat) : List Nat := isM.filter fun m => Nat.beq m i || inD D m
def isMOk' (l : List Oper) (isM : List Nat) : Bool := decide isM.Nodup && isM.all (fun m => Nat.blt m l.length)
def on (D yes no : List Nat) (e : List Ent) : List Ent := match yes.all (inD D) && no.all (fun k => !inD D k) with | true => e | false => []
section
variable {P : Program} {n : Nat} {S : List (Nat × Value)} {H : List Ent} {A : Array Oper} {Q : Exit → Act → World → Prop}
def DM {X : Type} (n : Nat) (S : List (Nat × Value)) (l : List Oper) (V : X → Nat → Value) (Hs : X → List Nat → List Ent) (i : Nat) (D' : List Nat) (x : X) (Q : Exit → Act → World → Prop) : Exit → Act → World → Prop :=
  Exit.then (fun a w => ∃ x', (∀ j, j ≠ i → clo l j i = false → V x' j = V x j) ∧
    Sl n (match dstOf l i with | some d => (d, V x' i) :: S | none => S) a ∧ Mem (Hs x' D') w) Q
def ObM {X : Type} (P : Program) (n : Nat) (S0 S1 : List (Nat × Value)) (l : List Oper) (V : X → Nat → Value) (Hs : X → List Nat → List Ent) (isM MS : List Nat) (CS : List (List Nat)) (Q : Exit → Act → World → Prop) (i : Nat) (o : Oper) : Prop :=
  (∀ x S D, Ext S0 S → Ext (early l S1 i) S → DepsAre S l (V x) (afters o) → D ∈ subsOk MS isM CS i →
      (match o.guard with | none => True | some (j, b) => V x j = .bool b) →
      TOps P n S (Hs x D) [{ o with guard := none }] l.toArray (DM n S l V Hs i (bif isM.contains i then insD isM i D else D) x Q)) ∧
  (match o.guard with
    | none => True
    | some (j, b) => (∃ d, o.dst = some d) ∧ ((isM.contains i = false ∧ ∀ x, V x j = .bool b ∨ ((V x j = .bool (!b) ∨ ∃ vs, V x j = .tuple vs) ∧ V x i = undef)) ∨ ∀ x, V x j = .bool b))
def ObsM {X : Type} (P : Program) (n : Nat) (S0 S1 : List (Nat × Value)) (l : List Oper) (V : X → Nat → Value) (Hs : X → List Nat → List Ent) (isM MS : List Nat) (CS : List (List Nat)) (Q : Exit → Act → World → Prop) : Nat → List Oper → Prop
  | _, [] => True
  | i, o :: r => ObM P n S0 S1 l V Hs isM MS CS Q i o ∧ ObsM P n S0 S1 l V Hs isM MS CS Q (i + 1) r
theorem ObsM.at {X : Type} {S0 S1 : List (Nat × Value)} {l : List Oper} {V : X → Nat → Value} {Hs : X → List Nat → List Ent} {isM MS : List Nat} {CS : List (List Nat)} :
    ∀ (r : List Oper) (k : Nat), ObsM P n S0 S1 l V Hs isM MS CS Q k r → ∀ i o, r[i]? = some o → ObM P n S0 S1 l V Hs isM MS CS Q (k + i) o
  | [], k, _, i, o, h => by simp at h
  | o' :: r, k, ⟨h1, h2⟩, 0, o, h => by
    simp at h
    subst h
    exact h1
  | o' :: r, k, ⟨h1, h2⟩, i + 1, o, h => by
    have := ObsM.at r (k + 1) h2 i o (by simpa using h)
    rwa [show k + (i + 1) = k + 1 + i by omega]
theorem Tri.drawM0 {X : Type} {id : Nat} {l : List Oper} (hm : P.follows .mixedOrders = true) (S0 S1 : List (Nat × Value)) (V : X → Nat → Value) (Hs : X → List Nat → List Ent) (isM MS : List Nat) (CS : List (List Nat)) (x0 : X)
    (hok : drawOk n S0 l = true) (hMok : isMOk' l isM = true) (hMS : masksFrom [] l = MS) (hCS : closedSubs MS isM = CS) (hs : Has S S0) (hs1 : Has S S1) (hl : Le H (Hs x0 []))
    (hob : ObsM P n S0 S1 l V Hs isM MS CS Q 0 l)
    (hq : ∀ x a w, Sl n S0 a → (∀ j d, dstOf l j = some d → d < n ∧ a.tmps.getD d undef = V x j) → Mem (Hs x isM) w → Q .normal a w) : Tri P n S H (.region id l.toArray true) Q := by
  simp only [isMOk', Bool.and_eq_true, decide_eq_true_eq] at hMok
  obtain ⟨m1, m2⟩ := hMok
  have m2' : ∀ m ∈ isM, m < l.length := fun m hm => by simpa [Nat.blt_eq] using List.all_eq_true.1 m2 m hm
  intro a0 w0 hS hM
  refine wp_region_any hm ?_
  have full : ∀ (L : Array Bool) x a w, DInv n S0 S1 l V (fun _ _ => []) isM L x a w → Mem (Hs x (isM.filter (fun m => L[m]? == some true))) w → (∀ i, i < l.length → L[i]? = some true) → Q .normal a w := by
    intro L x a w h hme hall
    refine hq x a w h.s0 (fun j d hj => ?_) ?_
    · have hjl : j < l.length := by
        rcases Nat.lt_or_ge j l.length with h' | h'
        · exact h'
        · simp [dstOf, List.getElem?_eq_none h'] at hj
      exact h.vals j d (hall j hjl) hj
    · have hfil : (isM.filter (fun m => L[m]? == some true)) = isM := by
        rw [List.filter_eq_self]
        intro m hm
        simp [hall m (m2' m hm)]
      rwa [hfil] at hme
  have allL : ∀ (L : Array Bool), L.size = l.length → Region.ready .any l.toArray L = [] → ∀ i, i < l.length → L[i]? = some true := by
    intro L hsz hr i
    induction i using Nat.strongRecOn with
    | _ i ih =>
      intro hi
      by_cases hL : L[i]? = some true
      · exact hL
      · have ho : l[i]? = some l[i] := List.getElem?_eq_getElem hi
        have hmem : i ∈ Region.ready .any l.toArray L := (mem_ready hsz i).2 ⟨_, ho, hL, fun j hj => by
          have hji := (drawOk.at hok ho).1 j hj
          exact ih j hji (by omega)⟩
        rw [hr] at hmem
        cases hmem
  have main : ∀ (fuel : Nat) (U : List Nat) (L : Array Bool) x a w, U.Nodup → (∀ i, i < l.length → ¬ L[i]? = some true → i ∈ U) → U.length ≤ fuel → (DInv n S0 S1 l V (fun _ _ => []) isM L x a w ∧ Mem (Hs x (isM.filter (fun m => L[m]? == some true))) w) →
      wpAny P .any l.toArray Q fuel L a w := by
    intro fuel
    induction fuel with
    | zero =>
      intro U L x a w hU hm hf hh
      obtain ⟨h, hme⟩ := hh
      have hall : ∀ i, i < l.length → L[i]? = some true := by
        intro i hi
        by_cases hL : L[i]? = some true
        · exact hL
        · have := hm i hi hL
          have h0 : U = [] := List.eq_nil_of_length_eq_zero (by omega)
          rw [h0] at this
          cases this
      refine ⟨?_, full L x a w h hme hall⟩
      refine List.eq_nil_iff_forall_not_mem.2 fun i hi => ?_
      obtain ⟨o, ho, hn, _⟩ := (mem_ready h.size i).1 hi
      exact hn (hall i (List.getElem?_eq_some_iff.1 ho).1)
    | succ fuel ih =>
      intro U L x a w hU hm hf hh
      obtain ⟨h, hme⟩ := hh
      refine ⟨fun hr => full L x a w h hme (allL L h.size hr), fun i hi => ?_⟩
      obtain ⟨o, ho, hn, hL⟩ := (mem_ready h.size i).1 hi
      have hil : i < l.length := (List.getElem?_eq_some_iff.1 ho).1
      have hiL : i < L.size := by rw [h.size]; exact hil
      have hiU := hm i hil hn
      have next : ∀ x' a' w', (DInv n S0 S1 l V (fun _ _ => []) isM (L.setIfInBounds i true) x' a' w' ∧ Mem (Hs x' (isM.filter (fun m => (L.setIfInBounds i true)[m]? == some true))) w') → wpAny P .any l.toArray Q fuel (L.setIfInBounds i true) a' w' := by
        intro x' a' w' h'
        refine ih (U.erase i) _ x' a' w' (hU.erase i) (fun k hk hLk => ?_) ?_ h'
        · rw [setB _ hiL] at hLk
          exact (List.mem_erase_of_ne (fun e => hLk (.inl e))).2 (hm k hk (fun h => hLk (.inr h)))
        · rw [List.length_erase_of_mem hiU]
          omega
      obtain ⟨a1, a2, a3⟩ := drawOk.at hok ho
      have hO := ObsM.at l 0 hob i o ho
      rw [Nat.zero_add] at hO
      obtain ⟨hO1, hO2⟩ := hO
      have hclo : ∀ k, clo l i k = true → L[k]? = some true := by
        intro k hk
        obtain ⟨o', ho', j, hj, hjk⟩ := clo_spec hk
        rw [ho] at ho'
        cases ho'
        rcases hjk with rfl | hjk
        · exact hL k hj
        · exact h.closure hok j (hL j hj) k hjk
      have hearly : ∀ k v, get (early l S1 i) k = some v → get S1 k = some v ∧ k < n ∧ a.tmps.getD k undef = v := by
        intro k v hk
        obtain ⟨g1, g2⟩ := get_filter_early hk
        refine ⟨g1, h.s1 k v g1 (fun w hw hLw => ?_)⟩
        exact hn (h.closure hok w hLw i (g2 w hw))
      obtain ⟨D, hDe⟩ : ∃ D, D = isM.filter (fun m => L[m]? == some true) := ⟨_, rfl⟩
      have hDmem : ∀ m ∈ isM, (inD D m = true ↔ L[m]? = some true) := by
        intro m hm
        rw [inD_iff, hDe, List.mem_filter]
        simp [hm]
      have hD : D ∈ subsOk MS isM CS i := by
        have hbit : ∀ a b, bitM MS a b = clo l a b := fun a b => by rw [← hMS]; rfl
        unfold subsOk
        rw [List.mem_filter, ← hCS]
        unfold closedSubs
        rw [List.mem_filter]
        refine ⟨⟨by rw [hDe]; exact filter_mem_subs isM _, ?_⟩, ?_⟩
        · rw [List.all_eq_true]
          intro m hm
          cases hd : inD D m with
          | false => rfl
          | true =>
            simp only [Bool.not_true, Bool.false_or]
            rw [List.all_eq_true]
            intro m' hm'
            rw [hbit]
            cases hc : clo l m m' with
            | false => rfl
            | true => simp only [Bool.not_true, Bool.false_or]; exact (hDmem m' hm').2 (h.closure hok m ((hDmem m hm).1 hd) m' hc)
        · rw [List.all_eq_true]
          intro m hm
          rw [hbit, hbit]
          simp only [Bool.and_eq_true, Bool.or_eq_true, Bool.not_eq_true']
          refine ⟨?_, ?_⟩
          · cases hc : clo l i m with
            | false => exact .inl rfl
            | true => exact .inr ((hDmem m hm).2 (hclo m hc))
          · cases hd : inD D m with
            | false => exact .inr rfl
            | true =>
              left
              have hLm := (hDmem m hm).1 hd
              cases hc : clo l m i with
              | true => exact absurd (h.closure hok m hLm i hc) hn
              | false =>
                cases hb : Nat.beq m i with
                | false => exact ⟨rfl, rfl⟩
                | true => exact absurd (by rw [← Nat.eq_of_beq_eq_true hb]; exact hLm) hn
      have hins : isM.filter (fun m => (L.setIfInBounds i true)[m]? == some true) = insD isM i D := by
        unfold insD
        refine List.filter_congr fun m hm => ?_
        have h1 := hDmem m hm
        have h2 := setB (L := L) m hiL
        by_cases e : m = i
        · subst e
          have : (L.setIfInBounds m true)[m]? = some true := h2.2 (.inl rfl)
          simp [this]
        · have hb : Nat.beq m i = false := by
            cases hb : Nat.beq m i with
            | false => rfl
            | true => exact absurd (Nat.eq_of_beq_eq_true hb) e
          rw [hb, Bool.false_or]
          cases hd : inD D m with
          | true => simp [h2.2 (.inr (h1.1 hd))]
          | false =>
            have : ¬ (L.setIfInBounds i true)[m]? = some true := by
              intro hx
              have := h1.2 ((h2.1 hx).resolve_left e)
              rw [hd] at this; cases this
            simpa using this
      have hinsN : isM.contains i = false → isM.filter (fun m => (L.setIfInBounds i true)[m]? == some true) = D := by
        intro hc
        rw [hDe]
        refine List.filter_congr fun m hm => ?_
        have hne : i ≠ m := by
          intro e
          subst e
          have : isM.contains i = true := by simpa using hm
          rw [this] at hc
          cases hc
        rw [Array.getElem?_setIfInBounds_ne hne]
      have hafter : isM.filter (fun m => (L.setIfInBounds i true)[m]? == some true) = (bif isM.contains i then insD isM i D else D) := by
        cases hc : isM.contains i with
        | true => exact hins
        | false => exact hinsN hc
      rw [← hDe] at hme
      rw [wpOp_of ho]
      have hdeps : ∃ S9, Ext S0 S9 ∧ Ext (early l S1 i) S9 ∧ DepsAre S9 l (V x) (afters o) ∧ Sl n S9 a := by
        have build : ∀ (ds : List Nat), (∀ j ∈ ds, L[j]? = some true) → ∃ S9, Ext S0 S9 ∧ Ext (early l S1 i) S9 ∧ DepsAre S9 l (V x) ds ∧ Sl n S9 a := by
          intro ds
          induction ds with
          | nil =>
            intro _
            have hg : ∀ k v, get (early l S1 i ++ S0) k = some v → k < n ∧ a.tmps.getD k undef = v := by
              intro k v hk
              rw [get_append] at hk
              cases he : get (early l S1 i) k with
              | none => rw [he] at hk; exact h.s0.g k v hk
              | some v' => rw [he] at hk; cases hk; exact (hearly k v he).2
            refine ⟨early l S1 i ++ S0, fun k v hk => ?_, fun k v hk => ?_, trivial, ⟨h.s0.sz, h.s0.df, hg⟩⟩
            · rw [get_append]
              cases he : get (early l S1 i) k with
              | none => exact hk
              | some v' =>
                have h1 := (hearly k v' he).2.2
                have h2 := (h.s0.g k v hk).2
                rw [← h1, h2]; rfl
            · rw [get_append, hk]; rfl
          | cons j ds ihd =>
            intro hds
            obtain ⟨S9, e1, e5, e2, e3⟩ := ihd (fun k hk => hds k (List.mem_cons_of_mem _ hk))
            cases hd : dstOf l j with
            | none => exact ⟨S9, e1, e5, ⟨by simp [hd], e2⟩, e3⟩
            | some d =>
              obtain ⟨v1, v2⟩ := h.vals j d (hds j (by simp)) hd
              have key : ∀ k v, get ((d, V x j) :: S9) k = some v → k < n ∧ a.tmps.getD k undef = v := by
                intro k v hk
                by_cases e : d = k
                · subst e
                  rw [get_cons_same] at hk
                  cases hk
                  exact ⟨v1, v2⟩
                · rw [get_cons_ne e] at hk
                  exact e3.g k v hk
              have hext : ∀ k v, get S9 k = some v → get ((d, V x j) :: S9) k = some v := by
                intro k v hk
                by_cases e : d = k
                · subst e
                  rw [get_cons_same]
                  rw [← (e3.g d v hk).2, v2]
                · rw [get_cons_ne e]
                  exact hk
              refine ⟨(d, V x j) :: S9, fun k v hk => hext k v (e1 k v hk), fun k v hk => hext k v (e5 k v hk), ⟨by simp only [hd]; exact get_cons_same _ _ _, ?_⟩, ⟨e3.sz, e3.df, key⟩⟩
              have up : ∀ (ds' : List Nat), DepsAre S9 l (V x) ds' → DepsAre ((d, V x j) :: S9) l (V x) ds' := by
                intro ds'
                induction ds' with
                | nil => intro _; trivial
                | cons q ds' ihq =>
                  intro hq
                  refine ⟨?_, ihq hq.2⟩
                  have := hq.1
                  cases hdq : dstOf l q with
                  | none => trivial
                  | some dq =>
                    rw [hdq] at this
                    exact hext _ _ this
              exact up ds e2
        exact build (afters o) hL
      obtain ⟨S9, e1, e5, e2, e3⟩ := hdeps
      have run : (match o.guard with | none => True | some (j, b) => V x j = .bool b) →
          o.wp P a w (wpAny P .any l.toArray Q fuel (L.setIfInBounds i true)) Q ∨ (o.asks P a w ∧ LetsOut Q) := by
        intro hg
        have h1 := one_of_TOps (hO1 x S9 D e1 e5 e2 hD hg) e3 hme
        rcases h1 with h1 | h1
        · refine .inl ?_
          have hw : ∀ (r : Result Next), o.upon P a (fun a' w' => ∃ x', (∀ j, j ≠ i → clo l j i = false → V x' j = V x j) ∧
              Sl n (match dstOf l i with | some d => (d, V x' i) :: S9 | none => S9) a' ∧ Mem (Hs x' (bif isM.contains i then insD isM i D else D)) w') Q r →
              (∀ d, r ≠ .ok (.defer d) w → True) → o.upon P a (wpAny P .any l.toArray Q fuel (L.setIfInBounds i true)) Q r := by
            intro r hr _
            have put : ∀ v w', (∃ x', (∀ j, j ≠ i → clo l j i = false → V x' j = V x j) ∧
              Sl n (match dstOf l i with | some d => (d, V x' i) :: S9 | none => S9) (a.put o.dst v) ∧ Mem (Hs x' (bif isM.contains i then insD isM i D else D)) w') →
              wpAny P .any l.toArray Q fuel (L.setIfInBounds i true) (a.put o.dst v) w' := by
              rintro v w' ⟨x', hx', hS', hM'⟩
              refine next x' _ w' ⟨h.step hok ho hL hn hx' (fun d hd => ?_) trivial, by rw [hafter]; exact hM'⟩
              have hdi : dstOf l i = some d := by simp [dstOf, ho, hd]
              rw [hdi] at hS'
              have := (hS'.g d _ (get_cons_same _ _ _)).2
              rw [hd] at this
              have hdn := (a3 d hd).1
              simp [Act.put, e3.sz, hdn] at this
              exact this
            cases r with
            | ok y w' =>
              cases y <;> simp only [Oper.upon] at hr ⊢ <;>
                first
                  | exact put _ _ hr
                  | exact Calls.mono hr (fun e w'' he => by cases e <;> first | exact put _ _ he | exact he)
                  | exact Rows.mono hr (fun _ _ he => put _ _ he)
                  | (exfalso
                     obtain ⟨x', _, hS', _⟩ := hr
                     have := hS'.df
                     cases hdd : o.dst <;> simp [Act.put, hdd] at this)
            | halt y w' => cases y <;> simp only [Oper.upon] at hr ⊢ <;> exact hr
          exact hw _ h1 (fun _ _ => trivial)
        · exact .inr h1
      cases hgd : o.guard with
      | none =>
        have hw : Region.wanted o (yielded l.toArray a.tmps) = true := by simp [Region.wanted, hgd]
        rw [if_pos hw]
        exact run (by rw [hgd]; trivial)
      | some jb =>
        obtain ⟨j, b⟩ := jb
        rw [hgd] at hO2
        obtain ⟨⟨d, hd⟩, hO3⟩ := hO2
        have hjL := hL j (a2 j b hgd).1
        obtain ⟨dj, hdj⟩ := (a2 j b hgd).2
        have hyld : ∀ g, V x j = .bool g → dstOf l j = some dj → Region.wanted o (yielded l.toArray a.tmps) = (g == b) := by
          intro g hg hdj
          obtain ⟨v1, v2⟩ := h.vals j dj hjL hdj
          have : a.tmps[dj]? = some (.bool g) := by
            rw [Array.getElem?_eq_getElem (by rw [h.s0.sz]; exact v1)]
            rw [Array.getD_eq_getD_getElem?, Array.getElem?_eq_getElem (by rw [h.s0.sz]; exact v1), hg] at v2
            simpa using v2
          have hA : (l.toArray[j]?).bind (·.dst) = some dj := by simpa [dstOf] using hdj
          simp only [Region.wanted, hgd, Go.yielded, hA, Option.bind_some, this]
          cases g <;> cases b <;> rfl
        have hyldT : ∀ vs, V x j = .tuple vs → Region.wanted o (yielded l.toArray a.tmps) = false := by
          intro vs hg
          obtain ⟨v1, v2⟩ := h.vals j dj hjL hdj
          have : a.tmps[dj]? = some (.tuple vs) := by
            rw [Array.getElem?_eq_getElem (by rw [h.s0.sz]; exact v1)]
            rw [Array.getD_eq_getD_getElem?, Array.getElem?_eq_getElem (by rw [h.s0.sz]; exact v1), hg] at v2
            simpa using v2
          have hA : (l.toArray[j]?).bind (·.dst) = some dj := by simpa [dstOf] using hdj
          simp only [Region.wanted, hgd, Go.yielded, hA, Option.bind_some, this]
          rfl
        have skip : isM.contains i = false → V x i = undef → Region.wanted o (yielded l.toArray a.tmps) = false → (if Region.wanted o (yielded l.toArray a.tmps) then o.wp P a w (wpAny P .any l.toArray Q fuel (L.setIfInBounds i true)) Q ∨ (o.asks P a w ∧ LetsOut Q) else wpAny P .any l.toArray Q fuel (L.setIfInBounds i true) (a.put o.dst undef) w) := by
          intro hnm hu hw
          rw [hw]
          simp only [Bool.false_eq_true, if_false]
          refine next x _ w ⟨h.step hok ho hL hn (fun _ _ _ => rfl) (fun _ _ => hu.symm) trivial, ?_⟩
          rw [hinsN hnm]
          exact hme
        rcases hO3 with ⟨hnm, hv⟩ | hv
        · rcases hv x with hv | ⟨hv | ⟨vs, hv⟩, hu⟩
          · rw [if_pos (by rw [hyld b hv hdj]; simp)]
            exact run (by rw [hgd]; exact hv)
          · exact skip hnm hu (by rw [hyld _ hv hdj]; cases b <;> rfl)
          · exact skip hnm hu (hyldT vs hv)
        · rw [if_pos (by rw [hyld b (hv x) hdj]; simp)]
          exact run (by rw [hgd]; exact hv x)
  refine main l.toArray.size (List.range l.length) (Array.replicate l.toArray.size false) x0 a0 _ List.nodup_range (fun i hi _ => List.mem_range.2 hi) (by simp) ⟨⟨by simp, ?_, ⟨(hS.weak hs).sz, (hS.weak hs).df, (hS.weak hs).g⟩, fun k v hk _ => (hS.weak hs1).g k v hk, ?_, trivial⟩, ?_⟩
  · intro j o hj hLj
    simp [Array.getElem?_replicate] at hLj
  · intro j d hLj
    simp [Array.getElem?_replicate] at hLj
  · have hz : isM.filter (fun m => (Array.replicate l.toArray.size false)[m]? == some true) = [] := by
      rw [List.filter_eq_nil_iff]
      intro m _
      simp [Array.getElem?_replicate]
    rw [hz]
    exact (hl w0 hM).same (fun e _ => ⟨rfl, rfl, rfl, Nat.le_refl _, fun _ _ => rfl⟩)
theorem Tri.drawM {X : Type} {id : Nat} {l : List Oper} (hm : P.follows .mixedOrders = true) (S0 S1 : List (Nat × Value)) (vs : X → List Value) (Hs : X → List Nat → List Ent) (isM MS : List Nat) (CS : List (List Nat)) (x0 : X) (sel : List Nat)
    (hok : drawOk n S0 l = true) (hMok : isMOk' l isM = true) (hMS : masksFrom [] l = MS) (hCS : closedSubs MS isM = CS) (hs : Has S S0) (hs1 : Has S S1) (hl : Le H (Hs x0 []))
    (hob : ObsM P n S0 S1 l (fun x i => (vs x).getD i undef) Hs isM MS CS Q 0 l)
    (hq : ∀ x, Nrm n (selS l (fun i => (vs x).getD i undef) S0 sel) (Hs x isM) Q) : Tri P n S H (.region id l.toArray true) Q := by
  refine Tri.drawM0 hm S0 S1 (fun x i => (vs x).getD i undef) Hs isM MS CS x0 hok hMok hMS hCS hs hs1 hl hob (fun x a w hS hv hM => hq x a w ?_ hM)
  refine ⟨hS.sz, hS.df, ?_⟩
  clear hq
  induction sel with
  | nil => exact hS.g
  | cons j r ih =>
    intro k v hk
    unfold selS at hk
    cases hd : dstOf l j with
    | none => rw [hd] at hk; exact ih k v hk
    | some d =>
      rw [hd] at hk
      by_cases e : d = k
      · subst e
        rw [get_cons_same] at hk
        cases hk
        exact hv j d hd
      · rw [get_cons_ne e] at hk
        exact ih k v hk
theorem Nrm.drawM {X : Type} {l : List Oper} {V : X → Nat → Value} {Hs : X → List Nat → List Ent} {i : Nat} {D' : List Nat} {x : X} {S1 : List (Nat × Value)} {H1 : List Ent} (x' : X)
    (hx : ∀ j, j ≠ i → clo l j i = false → V x' j = V x j) (hS : S1 = (match dstOf l i with | some d => (d, V x' i) :: S | none => S)) (hl : Le H1 (Hs x' D')) :
    Nrm n S1 H1 (DM n S l V Hs i D' x Q) := by
  intro a w h1 h2
  refine ⟨x', hx, ?_, hl w h2⟩
  rw [← hS]
  exact h1
end
end Go.GL
