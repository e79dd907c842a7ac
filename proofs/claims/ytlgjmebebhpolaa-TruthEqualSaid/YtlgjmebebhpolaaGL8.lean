import Derived.Test.YtlgjmebebhpolaaGL7
namespace Go.GL
set_option linter.unusedVariables false
section
variable {P : Program} {n : Nat} {S : List (Nat × Value)} {H : List Ent} {A : Array Oper} {Q : Exit → Act → World → Prop}
def Nrm (n : Nat) (S : List (Nat × Value)) (H : List Ent) (Q : Exit → Act → World → Prop) : Prop := ∀ a w, Sl n S a → Mem H w → Q .normal a w
theorem TOps.fin (h : Nrm n S H Q) : TOps P n S H [] A Q := fun a w hS hM => wpList_nil (h a w hS hM)
theorem Tri.fin (h : Nrm n S H Q) : Tri P n S H .skip Q := fun a w hS hM => wp_skip (h a w hS hM)
theorem Nrm.unB {id : Nat} (h : Nrm n S H Q) : Nrm n S H (Exit.inBlock id Q) := h
theorem Nrm.next {y : Code} (h : Tri P n S H y Q) : Nrm n S H (Exit.then (fun a w => y.wp P Q a w) Q) := h
theorem Nrm.mid {X : Type} {Sx : X → List (Nat × Value)} {Hx : X → List Ent} {p : X → Prop} (x : X) (hp : p x) (hs : Has S (Sx x)) (hl : Le H (Hx x)) : Nrm n S H (Exit.then (Is n Sx Hx p) Q) :=
  fun a w hS hM => Is.mk hS hM x hp hs hl
theorem Nrm.body {X : Type} {id id2 ti tn m k : Nat} {Sx : X → Nat → List (Nat × Value)} {Hx : X → Nat → List Ent} {p : X → Nat → Prop} (x : X) (hp : p x (k + 1)) (hs : Has S ((ti, .int .i64 k) :: (tn, .int .i64 m) :: Sx x (k + 1))) (hl : Le H (Hx x (k + 1))) :
    Nrm n S H (BodyQ n id id2 ti tn m k Sx Hx p Q) := fun a w hS hM => ⟨x, hp, hS.weak hs, hl w hM⟩
theorem Nrm.loop {X : Type} {Sx : X → List (Nat × Value)} {Hx : X → List Ent} {p : X → Prop} {μ : X → Nat} {x : X} (y : X) (hp : p y) (hm : μ y < μ x) (hs : Has S (Sx y)) (hl : Le H (Hx y)) :
    Nrm n S H (LoopQ n Sx Hx p μ x Q) := fun a w hS hM => ⟨y, ⟨hp, hm⟩, hS.weak hs, hl w hM⟩
theorem Nrm.keep {S' : List (Nat × Value)} (hs : Has S S') (h : Nrm n S' H Q) : Nrm n S H Q := fun a w hS hM => h a w (hS.weak hs) hM
theorem Nrm.of {a : Act} {w : World} (hS : Sl n S a) (hM : Mem H w) (h : Nrm n S H Q) : Q .normal a w := h a w hS hM
theorem Tri.goOn {y : Code} {a : Act} {w : World} (hS : Sl n S a) (hM : Mem H w) (h : Tri P n S H y Q) : Exit.then (fun a w => y.wp P Q a w) Q .normal a w := h a w hS hM
theorem TOps.hide {b E sz cap : Nat} {xs : List Value} {l : List Oper} (h : ∀ H', Le H' H → H.Sublist H' → Rd H' b 0 xs → TOps P n S H' l A Q) : TOps P n S (row (some b) E sz cap xs :: H) l A Q :=
  h _ (Le.drop (Le.refl H)) (List.sublist_cons_self _ _) (Rd.all (E := E) (sz := sz) (cap := cap) (by simp))
theorem Le.consOf {e : Ent} {H' H : List Ent} (s : H.Sublist H') : Le (e :: H') (e :: H) := Le.keep s
end
theorem Rd.fld {H : List Ent} {b : Nat} {vs : List Value} {v : Value} (h : Rd H b 0 vs) (j : Nat) (hj : vs[j]? = some v) : Rd H b j [v] := by
  have := h.part j hj
  rwa [Nat.zero_add] at this
theorem Le.rowEq {a : Option Nat} {E sz cap : Nat} {xs xs' : List Value} {H : List Ent} (h : xs = xs') : Le (row a E sz cap xs :: H) (row a E sz cap xs' :: H) := by
  subst h; exact Le.refl _
structure Nd where
  kind : Int
  k : Int
  args : List Int
structure Fm where
  vars : Int
  nodes : List Nd
  top : Int
def I64 (z : Int) : Prop := -9223372036854775808 ≤ z ∧ z ≤ 9223372036854775807
def Nd.ok (d : Nd) : Prop := I64 d.kind ∧ I64 d.k ∧ (∀ a ∈ d.args, I64 a) ∧ d.args.length ≤ 9223372036854775807
def Fm.ok (F : Fm) : Prop := I64 F.vars ∧ I64 F.top ∧ (∀ d ∈ F.nodes, d.ok) ∧ F.nodes.length ≤ 9223372036854775807
abbrev ints (l : List Int) : List Value := l.map (Value.int .i64)
def RInts (H : List Ent) (a : Option Nat) (off : Nat) (xs : List Int) (sp : Option Nat := none) : Prop := RdS H a off (ints xs) sp
structure NdAt (H : List Ent) (b off : Nat) (d : Nd) (a : Option Nat) (o cap : Nat) (sp : Option Nat) : Prop where
  cells : Rd H b off [.int .i64 d.kind, .int .i64 d.k, slV a o d.args.length cap sp]
  args : RInts H a o d.args sp
def RNodes (H : List Ent) (a : Option Nat) (off : Nat) (ns : List Nd) (sp : Option Nat := none) : Prop :=
  ns = [] ∨ ∃ b, a = some b ∧ sp = none ∧ ∀ (i : Nat) (d : Nd), ns[i]? = some d → ∃ aa o cap asp, NdAt H b (off + i * 3) d aa o cap asp
def RF (H : List Ent) (v : Value) (F : Fm) : Prop :=
  ∃ a off cap sp, v = .agg (List.toArray [.int .i64 F.vars, slV a off F.nodes.length cap sp, .int .i64 F.top]) ∧ RNodes H a off F.nodes sp
theorem NdAt.le {H H' b off d a o cap sp} (h : NdAt H b off d a o cap sp) (hl : Le H' H) : NdAt H' b off d a o cap sp := ⟨h.cells.le hl, RdS.le h.args hl⟩
theorem RNodes.le {H H' a off ns sp} (h : RNodes H a off ns sp) (hl : Le H' H) : RNodes H' a off ns sp := by
  rcases h with h | ⟨b, h1, h3, h2⟩
  · exact .inl h
  · exact .inr ⟨b, h1, h3, fun i d hi => by obtain ⟨aa, o, cap, asp, h⟩ := h2 i d hi; exact ⟨aa, o, cap, asp, h.le hl⟩⟩
theorem RF.le {H H' v F} (h : RF H v F) (hl : Le H' H) : RF H' v F := by
  obtain ⟨a, off, cap, sp, h1, h2⟩ := h
  exact ⟨a, off, cap, sp, h1, h2.le hl⟩
theorem RNodes.at {H a off ns sp} (h : RNodes H a off ns sp) {i : Nat} (hi : i < ns.length) : ∃ b aa o cap asp, a = some b ∧ sp = none ∧ NdAt H b (off + i * 3) ns[i] aa o cap asp := by
  rcases h with h | ⟨b, h1, h3, h2⟩
  · subst h; simp at hi
  · obtain ⟨aa, o, cap, asp, h⟩ := h2 i ns[i] (List.getElem?_eq_getElem hi)
    exact ⟨b, aa, o, cap, asp, h1, h3, h⟩
theorem RdS.at {H a off sp} {vs : List Value} (h : RdS H a off vs sp) {i : Nat} (hi : i < vs.length) : ∃ b, a = some b ∧ sp = none ∧ Rd H b (off + i) [vs[i]] := by
  rcases h with h | ⟨b, h1, h3, h2⟩
  · subst h; simp at hi
  · exact ⟨b, h1, h3, h2.part i (List.getElem?_eq_getElem hi)⟩
theorem RInts.at {H a off xs sp} (h : RInts H a off xs sp) {i : Nat} (hi : i < xs.length) : ∃ b, a = some b ∧ sp = none ∧ Rd H b (off + i) [.int .i64 xs[i]] := by
  have := RdS.at h (i := i) (by simpa using hi)
  simpa using this
theorem RInts.le {H H' a off xs sp} (h : RInts H a off xs sp) (hl : Le H' H) : RInts H' a off xs sp := RdS.le h hl
theorem RInts.some {H a off xs sp} (h : RInts H a off xs sp) (hx : xs ≠ []) : ∃ b, a = .some b ∧ sp = .none ∧ Rd H b off (ints xs) := by
  rcases h with h | ⟨b, h1, h3, h2⟩
  · simp at h; exact absurd h hx
  · exact ⟨b, h1, h3, h2⟩
abbrev R1 (v : Value) (H : List Ent) : Value → List Ent → Prop := fun u H' => u = v ∧ H = H'
def Fm.valid (F : Fm) (arg : Int) : Bool := decide (0 ≤ F.vars) && decide (0 ≤ arg) && (decide (arg < F.vars) || decide (arg - F.vars < F.nodes.length))
theorem mem_take_succ {α : Type} {l : List α} {k : Nat} (hk : k < l.length) {a : α} (h : a ∈ l.take (k + 1)) : a ∈ l.take k ∨ a = l[k] := by
  rw [List.take_succ_eq_append_getElem hk, List.mem_append, List.mem_singleton] at h
  exact h
theorem ball_take_succ {α : Type} {l : List α} {k : Nat} {p : α → Prop} (hk : k < l.length) (h : ∀ a ∈ l.take k, p a) (h1 : p l[k]) : ∀ a ∈ l.take (k + 1), p a := by
  intro a ha
  rcases mem_take_succ hk ha with ha | rfl
  · exact h a ha
  · exact h1
def argsB (kind n : Int) : Bool := if kind = 0 then decide (n = 0) else if kind = 1 then decide (n = 1) else decide (1 ≤ n) && decide (n ≤ 16)
def nodeErr (vars i : Int) (d : Nd) : Option Int :=
  if d.kind < 0 ∨ 5 < d.kind then some 7
  else if argsB d.kind d.args.length = false then some 11
  else if d.args.any (fun a => decide (a < 0) || decide (vars + i ≤ a)) then some 10
  else if d.kind = 0 then (if d.k ≠ 0 ∧ d.k ≠ 1 then some 3 else none)
  else if d.kind = 4 then (if d.k < 1 ∨ (d.args.length : Int) < d.k then some 3 else none)
  else if d.k ≠ 0 then some 2 else none
def nodesErr (vars : Int) : Nat → List Nd → Option Int
  | _, [] => none
  | i, d :: r => match nodeErr vars i d with | some e => some e | none => nodesErr vars (i + 1) r
def Fm.err (F : Fm) : Option Int :=
  if F.vars < 0 ∨ 24 < F.vars then some 3
  else if 128 < F.nodes.length then some 4
  else match nodesErr F.vars 0 F.nodes with
    | some e => some e
    | none => if F.valid F.top then none else some 10
theorem nodesErr_none (vars : Int) : ∀ (l : List Nd) (i : Nat), (∀ j (h : j < l.length), nodeErr vars ((i + j : Nat) : Int) l[j] = none) → nodesErr vars i l = none
  | [], _, _ => rfl
  | d :: r, i, h => by
    have h0 := h 0 (by simp)
    simp only [Nat.add_zero, List.getElem_cons_zero] at h0
    simp only [nodesErr, h0]
    refine nodesErr_none vars r (i + 1) (fun j hj => ?_)
    have := h (j + 1) (by simpa using hj)
    rwa [show i + (j + 1) = i + 1 + j by omega] at this
theorem nodesErr_some (vars : Int) (e : Int) : ∀ (l : List Nd) (i k : Nat) (hk : k < l.length), (∀ j (h : j < l.length), j < k → nodeErr vars ((i + j : Nat) : Int) l[j] = none) → nodeErr vars ((i + k : Nat) : Int) l[k] = some e → nodesErr vars i l = some e
  | d :: r, i, 0, hk, h, he => by
    simp only [Nat.add_zero, List.getElem_cons_zero] at he
    simp only [nodesErr, he]
  | d :: r, i, k + 1, hk, h, he => by
    have h0 := h 0 (by simp) (by omega)
    simp only [Nat.add_zero, List.getElem_cons_zero] at h0
    simp only [nodesErr, h0]
    refine nodesErr_some vars e r (i + 1) k (by simpa using hk) (fun j hj hjk => ?_) ?_
    · have := h (j + 1) (by simpa using hj) (by omega)
      rwa [show i + (j + 1) = i + 1 + j by omega] at this
    · rw [show i + (k + 1) = i + 1 + k by omega] at he
      exact he
end Go.GL
