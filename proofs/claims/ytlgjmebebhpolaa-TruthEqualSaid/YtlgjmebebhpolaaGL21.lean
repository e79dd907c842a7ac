import Derived.Test.YtlgjmebebhpolaaGL20
namespace Go.GL
set_option linter.unusedVariables false
set_option linter.unusedSimpArgs false
section
variable {P : Program} {n : Nat} {S : List (Nat × Value)} {H : List Ent} {A : Array Oper} {Q : Exit → Act → World → Prop}
theorem Tri.drawC {id : Nat} {l : List Oper} (hm : P.follows .mixedOrders = true) (S0 S1 : List (Nat × Value)) (vs : List Value) (H0 : List Ent) (sel : List Nat)
    (hok : drawOk n S0 l = true) (hs : Has S S0) (hs1 : Has S S1) (hl : Le H H0)
    (hob : Obs (X := Unit) P n S0 S1 l (fun _ i => vs.getD i undef) (fun _ _ => H0) [] Q 0 l)
    (hq : Nrm n (selS l (fun i => vs.getD i undef) S0 sel) H0 Q) : Tri P n S H (.region id l.toArray true) Q :=
  Tri.drawN (X := Unit) hm S0 S1 (fun _ i => vs.getD i undef) (fun _ _ => H0) [] () sel hok rfl hs hs1 hl hob (fun _ => hq)
theorem Tri.drawX {X : Type} {id : Nat} {l : List Oper} (hm : P.follows .mixedOrders = true) (S0 S1 : List (Nat × Value)) (vs : X → List Value) (Hs : X → Nat → List Ent) (isM : List Nat) (x0 : X) (sel : List Nat)
    (hok : drawOk n S0 l = true) (hMok : isMOk l isM = true) (hs : Has S S0) (hs1 : Has S S1) (hl : Le H (Hs x0 0))
    (hob : Obs P n S0 S1 l (fun x i => (vs x).getD i undef) Hs isM Q 0 l)
    (hq : ∀ x, Nrm n (selS l (fun i => (vs x).getD i undef) S0 sel) (Hs x isM.length) Q) : Tri P n S H (.region id l.toArray true) Q :=
  Tri.drawN hm S0 S1 (fun x i => (vs x).getD i undef) Hs isM x0 sel hok hMok hs hs1 hl hob hq
theorem TOps.eqlIr {d x y T T' U p e rest} {k : IntKind} {a b : Int} {r : Bool} (hx : opv S x = some (.int k a)) (hy : opv S y = some (.int k b)) (hr : decide (a = b) = r) (hn : Nat.blt d n = true)
    (h : TOps P n ((d, .bool r) :: S) H rest A Q) : TOps P n S H (⟨some d, .binOp .eql T x y T', U, p, e, none⟩ :: rest) A Q := by
  subst hr; exact TOps.eqlI hx hy hn h
theorem TOps.neqIr {d x y T T' U p e rest} {k : IntKind} {a b : Int} {r : Bool} (hx : opv S x = some (.int k a)) (hy : opv S y = some (.int k b)) (hr : decide (a ≠ b) = r) (hn : Nat.blt d n = true)
    (h : TOps P n ((d, .bool r) :: S) H rest A Q) : TOps P n S H (⟨some d, .binOp .neq T x y T', U, p, e, none⟩ :: rest) A Q := by
  subst hr; exact TOps.neqI hx hy hn h
theorem TOps.eqlBr {d T x y T' U p e rest} {a b r : Bool} (hx : opv S x = some (.bool a)) (hy : opv S y = some (.bool b)) (hr : (a == b) = r) (hT : P.underlying T = some .bool) (hn : Nat.blt d n = true)
    (h : TOps P n ((d, .bool r) :: S) H rest A Q) : TOps P n S H (⟨some d, .binOp .eql T x y T', U, p, e, none⟩ :: rest) A Q := by
  subst hr; exact TOps.eqlB hx hy hT hn h
theorem TOps.lssr {d x y T T' U p e rest} {k : IntKind} {a b : Int} {r : Bool} (hx : opv S x = some (.int k a)) (hy : opv S y = some (.int k b)) (hr : decide (a < b) = r) (hn : Nat.blt d n = true)
    (h : TOps P n ((d, .bool r) :: S) H rest A Q) : TOps P n S H (⟨some d, .binOp .lss T x y T', U, p, e, none⟩ :: rest) A Q := by
  subst hr; exact TOps.lss hx hy hn h
theorem TOps.notr {d x T U p e rest} {a r : Bool} (hx : opv S x = some (.bool a)) (hr : (!a) = r) (hn : Nat.blt d n = true)
    (h : TOps P n ((d, .bool r) :: S) H rest A Q) : TOps P n S H (⟨some d, .unOp .not T x, U, p, e, none⟩ :: rest) A Q := by
  subst hr; exact TOps.not hx hn h
theorem TOps.pickr {d c x y U p e rest} {t : Bool} {u v r : Value} (hc : opv S c = some (.bool t)) (hx : opv S x = some u) (hy : opv S y = some v) (hr : (bif t then u else v) = r) (hn : Nat.blt d n = true)
    (h : TOps P n ((d, r) :: S) H rest A Q) : TOps P n S H (⟨some d, .pick c x y, U, p, e, none⟩ :: rest) A Q := by
  subst hr; exact TOps.pick hc hx hy hn h
theorem three {a b c d : Int} : decide (a ≠ b) = true ∨ (decide (a ≠ b) = false ∧ decide (c ≠ d) = true) ∨ (decide (a ≠ b) = false ∧ decide (c ≠ d) = false) := by
  by_cases h : a = b <;> by_cases g : c = d <;> simp [h, g]
def fact (p : Prop) : Ent where
  foot := fun _ => False
  ok := fun _ => p
  st := fun _ _ _ h => h
theorem Le.addFact {p : Prop} (hp : p) : Le H (fact p :: H) := fun w h => Mem.cons h hp (fun _ hk => hk.elim) (fun _ _ _ hk => hk.elim)
theorem TOps.fact {p : Prop} {l : List Oper} (hm : GL.fact p ∈ H) (h : p → TOps P n S H l A Q) : TOps P n S H l A Q := fun a w hS hM => h (hM.ok _ hm) a w hS hM
theorem Tri.fact {p : Prop} {c} (hm : GL.fact p ∈ H) (h : p → Tri P n S H c Q) : Tri P n S H c Q := fun a w hS hM => h (hM.ok _ hm) a w hS hM
theorem Nrm.fact {p : Prop} (hm : GL.fact p ∈ H) (h : p → Nrm n S H Q) : Nrm n S H Q := fun a w hS hM => h (hM.ok _ hm) a w hS hM
end
instance : DecidableEq Nd := fun a b => match a, b with
  | ⟨k, l, m⟩, ⟨k', l', m'⟩ => if h : k = k' ∧ l = l' ∧ m = m' then isTrue (by rw [h.1, h.2.1, h.2.2]) else isFalse (fun e => h (by cases e; exact ⟨rfl, rfl, rfl⟩))
instance : DecidableEq Fm := fun a b => match a, b with
  | ⟨k, l, m⟩, ⟨k', l', m'⟩ => if h : k = k' ∧ l = l' ∧ m = m' then isTrue (by rw [h.1, h.2.1, h.2.2]) else isFalse (fun e => h (by cases e; exact ⟨rfl, rfl, rfl⟩))
theorem Nd.ext' {d e : Nd} (h1 : d.kind = e.kind) (h2 : d.k = e.k) (h3 : d.args = e.args) : d = e := by
  cases d; cases e; simp_all
theorem Nd.ne1 {d e : Nd} (h : decide (d.kind ≠ e.kind) = true) : decide (d ≠ e) = true := by
  simp only [ne_eq, decide_eq_true_eq] at *
  intro g; subst g; exact h rfl
theorem Nd.ne2 {d e : Nd} (h : decide (d.k ≠ e.k) = true) : decide (d ≠ e) = true := by
  simp only [ne_eq, decide_eq_true_eq] at *
  intro g; subst g; exact h rfl
theorem Nd.ne3 {d e : Nd} (h : decide (d.kind ≠ e.kind) = false) (h' : decide (d.k ≠ e.k) = false) : decide (d ≠ e) = !decide (d.args = e.args) := by
  simp only [ne_eq, decide_eq_false_iff_not, Decidable.not_not] at h h'
  by_cases g : d.args = e.args
  · have := Nd.ext' h h' g
    subst this; simp
  · have : d ≠ e := fun x => g (by rw [x])
    simp [g, this]
theorem Fm.ext' {d e : Fm} (h1 : d.vars = e.vars) (h2 : d.nodes = e.nodes) (h3 : d.top = e.top) : d = e := by
  cases d; cases e; simp_all
end Go.GL
