import Derived.WalkKit
import Derived.Orders
namespace Go.GL
def get : List (Nat × Value) → Nat → Option Value
  | [], _ => none
  | (k, v) :: r, i => match Nat.beq k i with | true => some v | false => get r i
theorem get_cons_same (k : Nat) (v : Value) (r : List (Nat × Value)) : get ((k, v) :: r) k = some v := by
  simp [get]
theorem get_cons_ne {k i : Nat} (h : k ≠ i) (v : Value) (r : List (Nat × Value)) : get ((k, v) :: r) i = get r i := by
  have : Nat.beq k i = false := by
    cases hb : Nat.beq k i with
    | false => rfl
    | true => exact absurd (Nat.eq_of_beq_eq_true hb) h
  simp [get, this]
def slV (a : Option Nat) (off n cap : Nat) (sp : Option Nat := none) : Value := .slice (a.map fun b => ⟨b, off, sp⟩) n cap
def opv (S : List (Nat × Value)) : Operand → Option Value
  | .tmp t => get S t
  | .const (.slice none 0 0) => some (slV none 0 0 0)
  | .const v => some v
  | .global g => some (.pointer (some ⟨g, 0, none⟩))
  | .func f => some (.func (.func f) #[] #[])
structure Sl (n : Nat) (S : List (Nat × Value)) (a : Act) : Prop where
  sz : a.tmps.size = n
  df : a.defers = []
  g : ∀ k v, get S k = some v → k < n ∧ a.tmps.getD k undef = v
theorem Sl.eval {n S a} (h : Sl n S a) {x : Operand} {v : Value} (hx : opv S x = some v) : a.eval x = v := by
  cases x with
  | tmp t => exact (h.g t v hx).2
  | const c =>
    unfold opv at hx
    split at hx
    · rename_i t e; cases e
    · rename_i e; cases e; simpa [slV, Act.eval] using hx
    · rename_i e; cases e; simpa [Act.eval] using hx
    · rename_i e; cases e
    · rename_i e; cases e
  | global g => simpa [opv, Act.eval] using hx
  | func f => simpa [opv, Act.eval] using hx
theorem Sl.put {n S a} (h : Sl n S a) {d : Nat} (v : Value) (hd : d < n) : Sl n ((d, v) :: S) (a.put (some d) v) := by
  refine ⟨by simp [Act.put, h.sz], h.df, ?_⟩
  intro k u hk
  by_cases e : d = k
  · subst e
    rw [get_cons_same] at hk
    cases hk
    refine ⟨hd, ?_⟩
    simp [Act.put, Array.getD, h.sz, hd]
  · rw [get_cons_ne e] at hk
    obtain ⟨h1, h2⟩ := h.g k u hk
    refine ⟨h1, ?_⟩
    rw [← h2]
    simp [Act.put, Array.getElem?_setIfInBounds_ne e]
theorem Sl.putNone {n S a} (h : Sl n S a) (v : Value) : Sl n S (a.put none v) := h
def Has (S : List (Nat × Value)) : List (Nat × Value) → Prop
  | [] => True
  | (k, v) :: r => get S k = some v ∧ Has S r
theorem Has.look {S S' : List (Nat × Value)} (h : Has S S') : ∀ k v, get S' k = some v → get S k = some v := by
  induction S' with
  | nil => intro k v hk; simp [GL.get] at hk
  | cons p r ih =>
    obtain ⟨k0, v0⟩ := p
    intro k v hk
    by_cases e : k0 = k
    · subst e
      rw [get_cons_same] at hk
      cases hk
      exact h.1
    · rw [get_cons_ne e] at hk
      exact ih h.2 k v hk
theorem Sl.weak {n S S' a} (h : Sl n S a) (hs : Has S S') : Sl n S' a :=
  ⟨h.sz, h.df, fun k v hk => h.g k v (hs.look k v hk)⟩
structure Same (foot : Nat → Prop) (w w' : World) : Prop where
  os : w'.os = w.os
  tape : w'.tape = w.tape
  output : w'.output = w.output
  size : w.heap.size ≤ w'.heap.size
  block : ∀ k, foot k → w'.heap[k]? = w.heap[k]?
theorem Same.refl (f : Nat → Prop) (w : World) : Same f w w := ⟨rfl, rfl, rfl, Nat.le_refl _, fun _ _ => rfl⟩
theorem Same.trans {f : Nat → Prop} {a b c : World} (h : Same f a b) (k : Same f b c) : Same f a c :=
  ⟨k.os.trans h.os, k.tape.trans h.tape, k.output.trans h.output, Nat.le_trans h.size k.size, fun i hi => (k.block i hi).trans (h.block i hi)⟩
theorem Same.mono {f g : Nat → Prop} {a b : World} (h : Same f a b) (hg : ∀ k, g k → f k) : Same g a b :=
  ⟨h.os, h.tape, h.output, h.size, fun i hi => h.block i (hg i hi)⟩
structure Ent where
  foot : Nat → Prop
  ok : World → Prop
  st : ∀ w w', Same foot w w' → ok w → ok w'
def Mem : List Ent → World → Prop
  | [], _ => True
  | e :: H, w => e.ok w ∧ (∀ k, e.foot k → k < w.heap.size) ∧ (∀ e' ∈ H, ∀ k, e.foot k → ¬ e'.foot k) ∧ Mem H w
theorem Mem.tail {e H w} (h : Mem (e :: H) w) : Mem H w := h.2.2.2
theorem Mem.ok {H w} (h : Mem H w) : ∀ e ∈ H, e.ok w := by
  induction H with
  | nil => intro e he; cases he
  | cons x H ih =>
    intro e he
    cases he with
    | head => exact h.1
    | tail _ he => exact ih h.tail e he
theorem Mem.lt {H w} (h : Mem H w) : ∀ e ∈ H, ∀ k, e.foot k → k < w.heap.size := by
  induction H with
  | nil => intro e he; cases he
  | cons x H ih =>
    intro e he
    cases he with
    | head => exact h.2.1
    | tail _ he => exact ih h.tail e he
theorem Mem.same {H w w'} (h : Mem H w) (hs : ∀ e ∈ H, Same e.foot w w') : Mem H w' := by
  induction H with
  | nil => trivial
  | cons x H ih =>
    obtain ⟨h1, h2, h3, h4⟩ := h
    have hx := hs x (by simp)
    exact ⟨x.st _ _ hx h1, fun k hk => Nat.lt_of_lt_of_le (h2 k hk) hx.size, h3, ih h4 (fun e he => hs e (List.mem_cons_of_mem _ he))⟩
theorem Mem.cons {e H w} (h : Mem H w) (hk : e.ok w) (hl : ∀ k, e.foot k → k < w.heap.size) (hd : ∀ e' ∈ H, ∀ k, e.foot k → ¬ e'.foot k) : Mem (e :: H) w :=
  ⟨hk, hl, hd, h⟩
def Le (H H' : List Ent) : Prop := ∀ w, Mem H w → Mem H' w
theorem Le.refl (H : List Ent) : Le H H := fun _ h => h
theorem Le.drop {e H H'} (h : Le H H') : Le (e :: H) H' := fun w hm => h w hm.tail
theorem Le.trans {a b c : List Ent} (h : Le a b) (k : Le b c) : Le a c := fun w hm => k w (h w hm)
theorem Le.keep {e H H'} (hs : H'.Sublist H) : Le (e :: H) (e :: H') := by
  intro w ⟨h1, h2, h3, h4⟩
  refine ⟨h1, h2, fun e' he' => h3 e' (hs.subset he'), ?_⟩
  clear h1 h2 h3
  induction hs with
  | slnil => trivial
  | cons x _ ih => exact ih h4.tail
  | cons_cons x s ih => exact ⟨h4.1, h4.2.1, fun e' he' => h4.2.2.1 e' (s.subset he'), ih h4.tail⟩
theorem Le.sub {H H' : List Ent} (hs : H'.Sublist H) : Le H H' := by
  intro w h
  induction hs with
  | slnil => trivial
  | cons x _ ih => exact ih h.tail
  | cons_cons x s ih => exact ⟨h.1, h.2.1, fun e' he' => h.2.2.1 e' (s.subset he'), ih h.tail⟩
theorem Le.swap {e f H} : Le (e :: f :: H) (f :: e :: H) := by
  intro w ⟨h1, h2, h3, h4, h5, h6, h7⟩
  refine ⟨h4, h5, ?_, h1, h2, fun e' he' => h3 e' (List.mem_cons_of_mem _ he'), h7⟩
  intro e' he' k hk
  cases he' with
  | head => exact fun hk' => h3 f (by simp) k hk' hk
  | tail _ he' => exact h6 e' he' k hk
theorem Le.perm {H H' : List Ent} (hp : H.Perm H') : Le H H' := by
  induction hp with
  | nil => exact Le.refl _
  | cons x p ih =>
    intro w h
    exact ⟨h.1, h.2.1, fun e' he' => h.2.2.1 e' (p.mem_iff.2 he'), ih w h.tail⟩
  | swap x y l => exact Le.swap
  | trans _ _ ih1 ih2 => exact ih1.trans ih2
def row (a : Option Nat) (E : TypeId) (sz cap : Nat) (xs : List Value) : Ent where
  foot := fun k => a = some k
  ok := fun w => match a with
    | none => xs = [] ∧ cap = 0
    | some b => ∃ sp : List Value, w.heap[b]? = some (.cells (xs ++ sp).toArray E (0, 0)) ∧ xs.length + sp.length = cap * sz ∧ cap ≤ 9223372036854775807
  st := by
    intro _ _ h hk
    cases a with
    | none => exact hk
    | some b =>
      obtain ⟨sp, h1, h2⟩ := hk
      exact ⟨sp, by rw [h.block b rfl]; exact h1, h2⟩
def base (w0 : World) : Ent where
  foot := fun k => k < w0.heap.size
  ok := fun w => Same (fun k => k < w0.heap.size) w0 w
  st := fun _ _ h hk => hk.trans h
def Rd (H : List Ent) (b off : Nat) (vs : List Value) : Prop :=
  ∀ w, Mem H w → ∀ j v, vs[j]? = some v → w.cell? ⟨b, off + j, none⟩ = some v
theorem Rd.le {H H' b off vs} (h : Rd H b off vs) (hl : Le H' H) : Rd H' b off vs := fun w hm => h w (hl w hm)
theorem Rd.up {e H b off vs} (h : Rd H b off vs) : Rd (e :: H) b off vs := h.le (Le.drop (Le.refl H))
theorem cell?_row {w : World} {b : Nat} {l : List Value} {E : TypeId} {fr : Nat × Nat} (h : w.heap[b]? = some (.cells l.toArray E fr)) (i : Nat) :
    w.cell? ⟨b, i, none⟩ = l[i]? := by
  simp [World.cell?, h]
theorem Rd.ofRow {H : List Ent} {b : Nat} {E sz cap : Nat} {xs : List Value} (hm : row (some b) E sz cap xs ∈ H) (off : Nat) (vs : List Value)
    (hv : ∀ j v, vs[j]? = some v → xs[off + j]? = some v) : Rd H b off vs := by
  intro w h j v hj
  obtain ⟨sp, h1, _⟩ := h.ok _ hm
  rw [cell?_row h1]
  have := hv j v hj
  rw [List.getElem?_append_left]
  · exact this
  · exact (List.getElem?_eq_some_iff.1 this).1
def Tri (P : Program) (n : Nat) (S : List (Nat × Value)) (H : List Ent) (c : Code) (Q : Exit → Act → World → Prop) : Prop :=
  ∀ a w, Sl n S a → Mem H w → c.wp P Q a w
def TOps (P : Program) (n : Nat) (S : List (Nat × Value)) (H : List Ent) (l : List Oper) (A : Array Oper) (Q : Exit → Act → World → Prop) : Prop :=
  ∀ a w, Sl n S a → Mem H w → wpList P A Q l a w
def Gives (P : Program) (f : FuncId) (args : List Value) (H : List Ent) (R : Value → List Ent → Prop) : Prop :=
  ∀ w, Mem H w → Calls P f args.toArray w fun e w' => ∃ v H', R v H' ∧ e = .returned v ∧ Mem H' w'
section
variable {P : Program} {n : Nat} {S : List (Nat × Value)} {H : List Ent} {A : Array Oper} {Q : Exit → Act → World → Prop}
theorem Tri.weak {c S' H'} (hs : Has S S') (hl : Le H H') (h : Tri P n S' H' c Q) : Tri P n S H c Q :=
  fun a w hS hM => h a w (hS.weak hs) (hl w hM)
theorem Tri.keep {c S'} (hs : Has S S') (h : Tri P n S' H c Q) : Tri P n S H c Q := Tri.weak hs (Le.refl H) h
theorem Tri.le {c H'} (hl : Le H H') (h : Tri P n S H' c Q) : Tri P n S H c Q := fun a w hS hM => h a w hS (hl w hM)
theorem TOps.le {l H'} (hl : Le H H') (h : TOps P n S H' l A Q) : TOps P n S H l A Q := fun a w hS hM => h a w hS (hl w hM)
theorem TOps.keep {l S'} (hs : Has S S') (h : TOps P n S' H l A Q) : TOps P n S H l A Q := fun a w hS hM => h a w (hS.weak hs) hM
theorem Tri.seq {x y : Code} (h : Tri P n S H x (Exit.then (fun a w => y.wp P Q a w) Q)) : Tri P n S H (.seq x y) Q :=
  fun a w hS hM => wp_seq (h a w hS hM)
theorem Tri.region {id : Nat} {l : List Oper} (h : TOps P n S H l l.toArray Q) : Tri P n S H (.region id l.toArray false) Q :=
  fun a w hS hM => wp_region_lit (h a w hS hM)
theorem TOps.done (h : ∀ a w, Sl n S a → Mem H w → Q .normal a w) : TOps P n S H [] A Q := fun a w hS hM => wpList_nil (h a w hS hM)
theorem TOps.next {y : Code} (h : Tri P n S H y Q) : TOps P n S H [] A (Exit.then (fun a w => y.wp P Q a w) Q) :=
  fun a w hS hM => wpList_nil (h a w hS hM)
theorem Tri.skip (h : ∀ a w, Sl n S a → Mem H w → Q .normal a w) : Tri P n S H .skip Q := fun a w hS hM => wp_skip (h a w hS hM)
theorem Tri.skipNext {y : Code} (h : Tri P n S H y Q) : Tri P n S H .skip (Exit.then (fun a w => y.wp P Q a w) Q) :=
  fun a w hS hM => wp_skip (h a w hS hM)
theorem Tri.exit {id : Nat} (h : ∀ a w, Sl n S a → Mem H w → Q (.exit id) a w) : Tri P n S H (.exit id) Q := fun a w hS hM => wp_exit (h a w hS hM)
theorem Tri.ret (h : ∀ a w, Sl n S a → Mem H w → Q .ret a w) : Tri P n S H .ret Q := fun a w hS hM => wp_ret (h a w hS hM)
theorem Tri.block {id : Nat} {c : Code} (h : Tri P n S H c (Exit.inBlock id Q)) : Tri P n S H (.block id c) Q :=
  fun a w hS hM => wp_block (h a w hS hM)
theorem Tri.cond {c : Operand} {x y : Code} {t : Bool} (hc : opv S c = some (.bool t)) (h1 : t = true → Tri P n S H x Q) (h2 : t = false → Tri P n S H y Q) :
    Tri P n S H (.cond c x y) Q :=
  fun a w hS hM => wp_cond_split (hS.eval hc) (fun ht => h1 ht a w hS hM) (fun ht => h2 ht a w hS hM)
theorem TOps.pure {o : Oper} {rest : List Oper} {d : Nat} {v : Value} (ho : o.guard = none) (hd : o.dst = some d) (hn : Nat.blt d n = true)
    (hrun : ∀ a w, Sl n S a → Mem H w → (execOp a.eval o).run P w = .ok (.value v) w)
    (h : TOps P n ((d, v) :: S) H rest A Q) : TOps P n S H (o :: rest) A Q := by
  intro a w hS hM
  refine wpList_plain ho fun K hK => ?_
  unfold Oper.wp
  rw [hrun a w hS hM, Oper.upon_value, hd]
  exact hK _ _ (h _ _ (hS.put v (by simpa [Nat.blt_eq] using hn)) hM)
theorem TOps.world {o : Oper} {rest : List Oper} {d : Nat} {v : Value} {H' : List Ent} (ho : o.guard = none) (hd : o.dst = some d) (hn : Nat.blt d n = true)
    (hrun : ∀ a w, Sl n S a → Mem H w → ∃ w', (execOp a.eval o).run P w = .ok (.value v) w' ∧ Mem H' w')
    (h : TOps P n ((d, v) :: S) H' rest A Q) : TOps P n S H (o :: rest) A Q := by
  intro a w hS hM
  refine wpList_plain ho fun K hK => ?_
  obtain ⟨w', h1, h2⟩ := hrun a w hS hM
  unfold Oper.wp
  rw [h1, Oper.upon_value, hd]
  exact hK _ _ (h _ _ (hS.put v (by simpa [Nat.blt_eq] using hn)) h2)
theorem TOps.worldEx {o : Oper} {rest : List Oper} {d : Nat} {R : Value → List Ent → Prop} (ho : o.guard = none) (hd : o.dst = some d) (hn : Nat.blt d n = true)
    (hrun : ∀ a w, Sl n S a → Mem H w → ∃ v H' w', R v H' ∧ (execOp a.eval o).run P w = .ok (.value v) w' ∧ Mem H' w')
    (h : ∀ v H', R v H' → TOps P n ((d, v) :: S) H' rest A Q) : TOps P n S H (o :: rest) A Q := by
  intro a w hS hM
  refine wpList_plain ho fun K hK => ?_
  obtain ⟨v, H', w', hR, h1, h2⟩ := hrun a w hS hM
  unfold Oper.wp
  rw [h1, Oper.upon_value, hd]
  exact hK _ _ (h v H' hR _ _ (hS.put v (by simpa [Nat.blt_eq] using hn)) h2)
theorem TOps.unit {o : Oper} {rest : List Oper} {H' : List Ent} (ho : o.guard = none) (hd : o.dst = none)
    (hrun : ∀ a w, Sl n S a → Mem H w → ∃ w', (execOp a.eval o).run P w = .ok .skip w' ∧ Mem H' w')
    (h : TOps P n S H' rest A Q) : TOps P n S H (o :: rest) A Q := by
  intro a w hS hM
  refine wpList_plain ho fun K hK => ?_
  obtain ⟨w', h1, h2⟩ := hrun a w hS hM
  unfold Oper.wp
  rw [h1, Oper.upon_skip, hd]
  exact hK _ _ (h _ _ hS h2)
theorem TOps.move {d x T p e rest} {v : Value} (hx : opv S x = some v) (hn : Nat.blt d n = true) (h : TOps P n ((d, v) :: S) H rest A Q) :
    TOps P n S H (⟨some d, .move x, T, p, e, none⟩ :: rest) A Q :=
  TOps.pure rfl rfl hn (fun a w hS _ => by simp [execOp, hS.eval hx]) h
theorem TOps.assign {d x T p e rest} {v : Value} (hx : opv S x = some v) (hn : Nat.blt d n = true) (h : TOps P n ((d, v) :: S) H rest A Q) :
    TOps P n S H (⟨some d, .assign x, T, p, e, none⟩ :: rest) A Q :=
  TOps.pure rfl rfl hn (fun a w hS _ => by simp [execOp, hS.eval hx]) h
end
end Go.GL
