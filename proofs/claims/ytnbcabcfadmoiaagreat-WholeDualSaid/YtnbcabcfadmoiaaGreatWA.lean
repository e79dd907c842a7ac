import Derived.WalkKit
import Derived.Orders
import Derived.Laws.MakeOwn
import Derived.LaidEql
import Derived.ProofKit
import Derived.Deep.Slices
import Derived.Deep.Fields
import Derived.Deep.Strs
import Derived.Lib.SmallJoins
import Derived.ChangeOld
import Derived.OpenShut
namespace Go.GL
def get : List (Nat × Value) → Nat → Option Value
  | [], _ => none
  | (k, v) :: r, i => match Nat.beq k i with | true => some v | false => get r i
theorem get_cons_same (k : Nat) (v : Value) (r : List (Nat × Value)) : get ((k, v) :: r) k = some v := by
  simp [get]
theorem get_cons_ne {k i : Nat} (h : k ≠ i) (v : Value) (r : List (Nat × Value)) : get ((k, v) :: r) i = get r i := by
  have : Nat.beq k i = false := by
    cases hb : Nat.beq k i with
    | false => rfl
    | true => exact absurd (Nat.eq_of_beq_eq_true hb) h
  simp [get, this]
def slV (a : Option Nat) (off n cap : Nat) (sp : Option Nat := none) : Value := .slice (a.map fun b => ⟨b, off, sp⟩) n cap
def opv (S : List (Nat × Value)) : Operand → Option Value
  | .tmp t => get S t
  | .const (.slice none 0 0) => some (slV none 0 0 0)
  | .const v => some v
  | .global g => some (.pointer (some ⟨g, 0, none⟩))
  | .func f => some (.func (.func f) #[] #[])
structure Sl (n : Nat) (S : List (Nat × Value)) (a : Act) : Prop where
  sz : a.tmps.size = n
  df : a.defers = []
  g : ∀ k v, get S k = some v → k < n ∧ a.tmps.getD k undef = v
theorem Sl.eval {n S a} (h : Sl n S a) {x : Operand} {v : Value} (hx : opv S x = some v) : a.eval x = v := by
  cases x with
  | tmp t => exact (h.g t v hx).2
  | const c =>
    unfold opv at hx
    split at hx
    · rename_i t e; cases e
    · rename_i e; cases e; simpa [slV, Act.eval] using hx
    · rename_i e; cases e; simpa [Act.eval] using hx
    · rename_i e; cases e
    · rename_i e; cases e
  | global g => simpa [opv, Act.eval] using hx
  | func f => simpa [opv, Act.eval] using hx
theorem Sl.put {n S a} (h : Sl n S a) {d : Nat} (v : Value) (hd : d < n) : Sl n ((d, v) :: S) (a.put (some d) v) := by
  refine ⟨by simp [Act.put, h.sz], h.df, ?_⟩
  intro k u hk
  by_cases e : d = k
  · subst e
    rw [get_cons_same] at hk
    cases hk
    refine ⟨hd, ?_⟩
    simp [Act.put, Array.getD, h.sz, hd]
  · rw [get_cons_ne e] at hk
    obtain ⟨h1, h2⟩ := h.g k u hk
    refine ⟨h1, ?_⟩
    rw [← h2]
    simp [Act.put, Array.getElem?_setIfInBounds_ne e]
theorem Sl.putNone {n S a} (h : Sl n S a) (v : Value) : Sl n S (a.put none v) := h
def Has (S : List (Nat × Value)) : List (Nat × Value) → Prop
  | [] => True
  | (k, v) :: r => get S k = some v ∧ Has S r
theorem Has.look {S S' : List (Nat × Value)} (h : Has S S') : ∀ k v, get S' k = some v → get S k = some v := by
  induction S' with
  | nil => intro k v hk; simp [GL.get] at hk
  | cons p r ih =>
    obtain ⟨k0, v0⟩ := p
    intro k v hk
    by_cases e : k0 = k
    · subst e
      rw [get_cons_same] at hk
      cases hk
      exact h.1
    · rw [get_cons_ne e] at hk
      exact ih h.2 k v hk
theorem Sl.weak {n S S' a} (h : Sl n S a) (hs : Has S S') : Sl n S' a :=
  ⟨h.sz, h.df, fun k v hk => h.g k v (hs.look k v hk)⟩
structure Same (foot : Nat → Prop) (w w' : World) : Prop where
  os : w'.os = w.os
  tape : w'.tape = w.tape
  output : w'.output = w.output
  size : w.heap.size ≤ w'.heap.size
  block : ∀ k, foot k → w'.heap[k]? = w.heap[k]?
theorem Same.refl (f : Nat → Prop) (w : World) : Same f w w := ⟨rfl, rfl, rfl, Nat.le_refl _, fun _ _ => rfl⟩
theorem Same.trans {f : Nat → Prop} {a b c : World} (h : Same f a b) (k : Same f b c) : Same f a c :=
  ⟨k.os.trans h.os, k.tape.trans h.tape, k.output.trans h.output, Nat.le_trans h.size k.size, fun i hi => (k.block i hi).trans (h.block i hi)⟩
theorem Same.mono {f g : Nat → Prop} {a b : World} (h : Same f a b) (hg : ∀ k, g k → f k) : Same g a b :=
  ⟨h.os, h.tape, h.output, h.size, fun i hi => h.block i (hg i hi)⟩
structure Ent where
  foot : Nat → Prop
  ok : World → Prop
  st : ∀ w w', Same foot w w' → ok w → ok w'
def Mem : List Ent → World → Prop
  | [], _ => True
  | e :: H, w => e.ok w ∧ (∀ k, e.foot k → k < w.heap.size) ∧ (∀ e' ∈ H, ∀ k, e.foot k → ¬ e'.foot k) ∧ Mem H w
theorem Mem.tail {e H w} (h : Mem (e :: H) w) : Mem H w := h.2.2.2
theorem Mem.ok {H w} (h : Mem H w) : ∀ e ∈ H, e.ok w := by
  induction H with
  | nil => intro e he; cases he
  | cons x H ih =>
    intro e he
    cases he with
    | head => exact h.1
    | tail _ he => exact ih h.tail e he
theorem Mem.lt {H w} (h : Mem H w) : ∀ e ∈ H, ∀ k, e.foot k → k < w.heap.size := by
  induction H with
  | nil => intro e he; cases he
  | cons x H ih =>
    intro e he
    cases he with
    | head => exact h.2.1
    | tail _ he => exact ih h.tail e he
theorem Mem.same {H w w'} (h : Mem H w) (hs : ∀ e ∈ H, Same e.foot w w') : Mem H w' := by
  induction H with
  | nil => trivial
  | cons x H ih =>
    obtain ⟨h1, h2, h3, h4⟩ := h
    have hx := hs x (by simp)
    exact ⟨x.st _ _ hx h1, fun k hk => Nat.lt_of_lt_of_le (h2 k hk) hx.size, h3, ih h4 (fun e he => hs e (List.mem_cons_of_mem _ he))⟩
theorem Mem.cons {e H w} (h : Mem H w) (hk : e.ok w) (hl : ∀ k, e.foot k → k < w.heap.size) (hd : ∀ e' ∈ H, ∀ k, e.foot k → ¬ e'.foot k) : Mem (e :: H) w :=
  ⟨hk, hl, hd, h⟩
def Le (H H' : List Ent) : Prop := ∀ w, Mem H w → Mem H' w
theorem Le.refl (H : List Ent) : Le H H := fun _ h => h
theorem Le.drop {e H H'} (h : Le H H') : Le (e :: H) H' := fun w hm => h w hm.tail
theorem Le.trans {a b c : List Ent} (h : Le a b) (k : Le b c) : Le a c := fun w hm => k w (h w hm)
theorem Le.keep {e H H'} (hs : H'.Sublist H) : Le (e :: H) (e :: H') := by
  intro w ⟨h1, h2, h3, h4⟩
  refine ⟨h1, h2, fun e' he' => h3 e' (hs.subset he'), ?_⟩
  clear h1 h2 h3
  induction hs with
  | slnil => trivial
  | cons x _ ih => exact ih h4.tail
  | cons_cons x s ih => exact ⟨h4.1, h4.2.1, fun e' he' => h4.2.2.1 e' (s.subset he'), ih h4.tail⟩
theorem Le.sub {H H' : List Ent} (hs : H'.Sublist H) : Le H H' := by
  intro w h
  induction hs with
  | slnil => trivial
  | cons x _ ih => exact ih h.tail
  | cons_cons x s ih => exact ⟨h.1, h.2.1, fun e' he' => h.2.2.1 e' (s.subset he'), ih h.tail⟩
theorem Le.swap {e f H} : Le (e :: f :: H) (f :: e :: H) := by
  intro w ⟨h1, h2, h3, h4, h5, h6, h7⟩
  refine ⟨h4, h5, ?_, h1, h2, fun e' he' => h3 e' (List.mem_cons_of_mem _ he'), h7⟩
  intro e' he' k hk
  cases he' with
  | head => exact fun hk' => h3 f (by simp) k hk' hk
  | tail _ he' => exact h6 e' he' k hk
theorem Le.perm {H H' : List Ent} (hp : H.Perm H') : Le H H' := by
  induction hp with
  | nil => exact Le.refl _
  | cons x p ih =>
    intro w h
    exact ⟨h.1, h.2.1, fun e' he' => h.2.2.1 e' (p.mem_iff.2 he'), ih w h.tail⟩
  | swap x y l => exact Le.swap
  | trans _ _ ih1 ih2 => exact ih1.trans ih2
def row (a : Option Nat) (E : TypeId) (sz cap : Nat) (xs : List Value) : Ent where
  foot := fun k => a = some k
  ok := fun w => match a with
    | none => xs = [] ∧ cap = 0
    | some b => ∃ sp : List Value, w.heap[b]? = some (.cells (xs ++ sp).toArray E (0, 0)) ∧ xs.length + sp.length = cap * sz ∧ cap ≤ 9223372036854775807
  st := by
    intro _ _ h hk
    cases a with
    | none => exact hk
    | some b =>
      obtain ⟨sp, h1, h2⟩ := hk
      exact ⟨sp, by rw [h.block b rfl]; exact h1, h2⟩
def base (w0 : World) : Ent where
  foot := fun k => k < w0.heap.size
  ok := fun w => Same (fun k => k < w0.heap.size) w0 w
  st := fun _ _ h hk => hk.trans h
def Rd (H : List Ent) (b off : Nat) (vs : List Value) : Prop :=
  ∀ w, Mem H w → ∀ j v, vs[j]? = some v → w.cell? ⟨b, off + j, none⟩ = some v
theorem Rd.le {H H' b off vs} (h : Rd H b off vs) (hl : Le H' H) : Rd H' b off vs := fun w hm => h w (hl w hm)
theorem Rd.up {e H b off vs} (h : Rd H b off vs) : Rd (e :: H) b off vs := h.le (Le.drop (Le.refl H))
theorem cell?_row {w : World} {b : Nat} {l : List Value} {E : TypeId} {fr : Nat × Nat} (h : w.heap[b]? = some (.cells l.toArray E fr)) (i : Nat) :
    w.cell? ⟨b, i, none⟩ = l[i]? := by
  simp [World.cell?, h]
theorem Rd.ofRow {H : List Ent} {b : Nat} {E sz cap : Nat} {xs : List Value} (hm : row (some b) E sz cap xs ∈ H) (off : Nat) (vs : List Value)
    (hv : ∀ j v, vs[j]? = some v → xs[off + j]? = some v) : Rd H b off vs := by
  intro w h j v hj
  obtain ⟨sp, h1, _⟩ := h.ok _ hm
  rw [cell?_row h1]
  have := hv j v hj
  rw [List.getElem?_append_left]
  · exact this
  · exact (List.getElem?_eq_some_iff.1 this).1
def Tri (P : Program) (n : Nat) (S : List (Nat × Value)) (H : List Ent) (c : Code) (Q : Exit → Act → World → Prop) : Prop :=
  ∀ a w, Sl n S a → Mem H w → c.wp P Q a w
def TOps (P : Program) (n : Nat) (S : List (Nat × Value)) (H : List Ent) (l : List Oper) (A : Array Oper) (Q : Exit → Act → World → Prop) : Prop :=
  ∀ a w, Sl n S a → Mem H w → wpList P A Q l a w
def Gives (P : Program) (f : FuncId) (args : List Value) (H : List Ent) (R : Value → List Ent → Prop) : Prop :=
  ∀ w, Mem H w → Calls P f args.toArray w fun e w' => ∃ v H', R v H' ∧ e = .returned v ∧ Mem H' w'
section
variable {P : Program} {n : Nat} {S : List (Nat × Value)} {H : List Ent} {A : Array Oper} {Q : Exit → Act → World → Prop}
theorem Tri.le {c H'} (hl : Le H H') (h : Tri P n S H' c Q) : Tri P n S H c Q := fun a w hS hM => h a w hS (hl w hM)
theorem TOps.le {l H'} (hl : Le H H') (h : TOps P n S H' l A Q) : TOps P n S H l A Q := fun a w hS hM => h a w hS (hl w hM)
theorem Tri.seq {x y : Code} (h : Tri P n S H x (Exit.then (fun a w => y.wp P Q a w) Q)) : Tri P n S H (.seq x y) Q :=
  fun a w hS hM => wp_seq (h a w hS hM)
theorem Tri.region {id : Nat} {l : List Oper} (h : TOps P n S H l l.toArray Q) : Tri P n S H (.region id l.toArray false) Q :=
  fun a w hS hM => wp_region_lit (h a w hS hM)
theorem TOps.done (h : ∀ a w, Sl n S a → Mem H w → Q .normal a w) : TOps P n S H [] A Q := fun a w hS hM => wpList_nil (h a w hS hM)
theorem TOps.next {y : Code} (h : Tri P n S H y Q) : TOps P n S H [] A (Exit.then (fun a w => y.wp P Q a w) Q) :=
  fun a w hS hM => wpList_nil (h a w hS hM)
theorem Tri.skipNext {y : Code} (h : Tri P n S H y Q) : Tri P n S H .skip (Exit.then (fun a w => y.wp P Q a w) Q) :=
  fun a w hS hM => wp_skip (h a w hS hM)
theorem Tri.exit {id : Nat} (h : ∀ a w, Sl n S a → Mem H w → Q (.exit id) a w) : Tri P n S H (.exit id) Q := fun a w hS hM => wp_exit (h a w hS hM)
theorem Tri.ret (h : ∀ a w, Sl n S a → Mem H w → Q .ret a w) : Tri P n S H .ret Q := fun a w hS hM => wp_ret (h a w hS hM)
theorem Tri.block {id : Nat} {c : Code} (h : Tri P n S H c (Exit.inBlock id Q)) : Tri P n S H (.block id c) Q :=
  fun a w hS hM => wp_block (h a w hS hM)
theorem Tri.cond {c : Operand} {x y : Code} {t : Bool} (hc : opv S c = some (.bool t)) (h1 : t = true → Tri P n S H x Q) (h2 : t = false → Tri P n S H y Q) :
    Tri P n S H (.cond c x y) Q :=
  fun a w hS hM => wp_cond_split (hS.eval hc) (fun ht => h1 ht a w hS hM) (fun ht => h2 ht a w hS hM)
theorem TOps.pure {o : Oper} {rest : List Oper} {d : Nat} {v : Value} (ho : o.guard = none) (hd : o.dst = some d) (hn : Nat.blt d n = true)
    (hrun : ∀ a w, Sl n S a → Mem H w → (execOp a.eval o).run P w = .ok (.value v) w)
    (h : TOps P n ((d, v) :: S) H rest A Q) : TOps P n S H (o :: rest) A Q := by
  intro a w hS hM
  refine wpList_plain ho fun K hK => ?_
  unfold Oper.wp
  rw [hrun a w hS hM, Oper.upon_value, hd]
  exact hK _ _ (h _ _ (hS.put v (by simpa [Nat.blt_eq] using hn)) hM)
theorem TOps.worldEx {o : Oper} {rest : List Oper} {d : Nat} {R : Value → List Ent → Prop} (ho : o.guard = none) (hd : o.dst = some d) (hn : Nat.blt d n = true)
    (hrun : ∀ a w, Sl n S a → Mem H w → ∃ v H' w', R v H' ∧ (execOp a.eval o).run P w = .ok (.value v) w' ∧ Mem H' w')
    (h : ∀ v H', R v H' → TOps P n ((d, v) :: S) H' rest A Q) : TOps P n S H (o :: rest) A Q := by
  intro a w hS hM
  refine wpList_plain ho fun K hK => ?_
  obtain ⟨v, H', w', hR, h1, h2⟩ := hrun a w hS hM
  unfold Oper.wp
  rw [h1, Oper.upon_value, hd]
  exact hK _ _ (h v H' hR _ _ (hS.put v (by simpa [Nat.blt_eq] using hn)) h2)
theorem TOps.unit {o : Oper} {rest : List Oper} {H' : List Ent} (ho : o.guard = none) (hd : o.dst = none)
    (hrun : ∀ a w, Sl n S a → Mem H w → ∃ w', (execOp a.eval o).run P w = .ok .skip w' ∧ Mem H' w')
    (h : TOps P n S H' rest A Q) : TOps P n S H (o :: rest) A Q := by
  intro a w hS hM
  refine wpList_plain ho fun K hK => ?_
  obtain ⟨w', h1, h2⟩ := hrun a w hS hM
  unfold Oper.wp
  rw [h1, Oper.upon_skip, hd]
  exact hK _ _ (h _ _ hS h2)
theorem TOps.move {d x T p e rest} {v : Value} (hx : opv S x = some v) (hn : Nat.blt d n = true) (h : TOps P n ((d, v) :: S) H rest A Q) :
    TOps P n S H (⟨some d, .move x, T, p, e, none⟩ :: rest) A Q :=
  TOps.pure rfl rfl hn (fun a w hS _ => by simp [execOp, hS.eval hx]) h
theorem TOps.assign {d x T p e rest} {v : Value} (hx : opv S x = some v) (hn : Nat.blt d n = true) (h : TOps P n ((d, v) :: S) H rest A Q) :
    TOps P n S H (⟨some d, .assign x, T, p, e, none⟩ :: rest) A Q :=
  TOps.pure rfl rfl hn (fun a w hS _ => by simp [execOp, hS.eval hx]) h
end
end Go.GL
namespace Go.GL
set_option linter.unusedVariables false
set_option linter.unusedSimpArgs false
structure TI (P : Program) (T : TypeId) (agg : Bool) (zs : List Value) (sz by_ : Nat) : Prop where
  i : ∃ i z, P.info? T = some i ∧ i.zero = some z ∧ z.cells = zs.toArray ∧ i.size = sz ∧ i.bytes = by_
  zs : zs.length = sz
  ag : ∀ w, (isAgg T).run P w = .ok agg w
theorem TI.mk' {P : Program} {T : TypeId} {agg : Bool} {zs : List Value} {sz by_ : Nat} (h : (P.info? T).map (fun i => (i.zero.map Value.cells, i.size, i.bytes)) = some (some zs.toArray, sz, by_)) (hz : zs.length = sz) (ha : ∀ w, (isAgg T).run P w = .ok agg w) : TI P T agg zs sz by_ := by
  refine ⟨?_, hz, ha⟩
  cases hi : P.info? T with
  | none => rw [hi] at h; simp at h
  | some i =>
    rw [hi] at h
    simp at h
    obtain ⟨⟨z, h1, h2⟩, h3, h4⟩ := h
    exact ⟨i, z, rfl, h1, h2, h3, h4⟩
theorem TI.size {P : Program} {T : TypeId} {agg : Bool} {zs : List Value} {sz by_ : Nat} (h : TI P T agg zs sz by_) (w : World) : (sizeOf T).run P w = .ok sz w := by
  obtain ⟨i, z, h1, h2, h3, h4, h5⟩ := h.i
  simp [sizeOf, typeInfo, h1, h4]
theorem TI.zero {P : Program} {T : TypeId} {agg : Bool} {zs : List Value} {sz by_ : Nat} (h : TI P T agg zs sz by_) : ∃ z, z.cells = zs.toArray ∧ ∀ w, (zeroValue T).run P w = .ok z w := by
  obtain ⟨i, z, h1, h2, h3, h4, h5⟩ := h.i
  exact ⟨z, h3, fun w => by simp [zeroValue, typeInfo, h1, h2]⟩
section
variable {P : Program} {n : Nat} {S : List (Nat × Value)} {H : List Ent} {A : Array Oper} {Q : Exit → Act → World → Prop}
theorem wrapI {z : Int} (h1 : -9223372036854775808 ≤ z) (h2 : z ≤ 9223372036854775807) : IntKind.i64.wrap z = z := by
  rw [IntKind.wrap_i64]; omega
theorem TOps.add {d x y T T' U p e rest} {a b r : Int} (hx : opv S x = some (.int .i64 a)) (hy : opv S y = some (.int .i64 b)) (hr : IntKind.i64.wrap (a + b) = r) (hn : Nat.blt d n = true)
    (h : TOps P n ((d, .int .i64 r) :: S) H rest A Q) : TOps P n S H (⟨some d, .binOp .add T x y T', U, p, e, none⟩ :: rest) A Q :=
  TOps.pure rfl rfl hn (fun a w hS _ => by subst hr; simp [execOp, hS.eval hx, hS.eval hy, eqGuard, binOp, Op.intArith]) h
theorem TOps.sub {d x y T T' U p e rest} {a b r : Int} (hx : opv S x = some (.int .i64 a)) (hy : opv S y = some (.int .i64 b)) (hr : IntKind.i64.wrap (a - b) = r) (hn : Nat.blt d n = true)
    (h : TOps P n ((d, .int .i64 r) :: S) H rest A Q) : TOps P n S H (⟨some d, .binOp .sub T x y T', U, p, e, none⟩ :: rest) A Q :=
  TOps.pure rfl rfl hn (fun a w hS _ => by subst hr; simp [execOp, hS.eval hx, hS.eval hy, eqGuard, binOp, Op.intArith]) h
theorem TOps.mul {d x y T T' U p e rest} {a b r : Int} (hx : opv S x = some (.int .i64 a)) (hy : opv S y = some (.int .i64 b)) (hr : IntKind.i64.wrap (a * b) = r) (hn : Nat.blt d n = true)
    (h : TOps P n ((d, .int .i64 r) :: S) H rest A Q) : TOps P n S H (⟨some d, .binOp .mul T x y T', U, p, e, none⟩ :: rest) A Q :=
  TOps.pure rfl rfl hn (fun a w hS _ => by subst hr; simp [execOp, hS.eval hx, hS.eval hy, eqGuard, binOp, Op.intArith]) h
theorem TOps.rem {d x y T T' U p e rest} {k : IntKind} {a b r : Int} (hx : opv S x = some (.int k a)) (hy : opv S y = some (.int k b)) (hb : b ≠ 0) (hr : a.tmod b = r) (hn : Nat.blt d n = true)
    (h : TOps P n ((d, .int k r) :: S) H rest A Q) : TOps P n S H (⟨some d, .binOp .rem T x y T', U, p, e, none⟩ :: rest) A Q :=
  TOps.pure rfl rfl hn (fun a w hS _ => by subst hr; simp [execOp, hS.eval hx, hS.eval hy, eqGuard, binOp, Op.intDiv, hb]) h
theorem TOps.quo {d x y T T' U p e rest} {k : IntKind} {a b r : Int} (hx : opv S x = some (.int k a)) (hy : opv S y = some (.int k b)) (hb : b ≠ 0) (hr : k.wrap (a.tdiv b) = r) (hn : Nat.blt d n = true)
    (h : TOps P n ((d, .int k r) :: S) H rest A Q) : TOps P n S H (⟨some d, .binOp .quo T x y T', U, p, e, none⟩ :: rest) A Q :=
  TOps.pure rfl rfl hn (fun a w hS _ => by subst hr; simp [execOp, hS.eval hx, hS.eval hy, eqGuard, binOp, Op.intDiv, hb]) h
theorem TOps.lss {d x y T T' U p e rest} {k : IntKind} {a b : Int} (hx : opv S x = some (.int k a)) (hy : opv S y = some (.int k b)) (hn : Nat.blt d n = true)
    (h : TOps P n ((d, .bool (decide (a < b))) :: S) H rest A Q) : TOps P n S H (⟨some d, .binOp .lss T x y T', U, p, e, none⟩ :: rest) A Q :=
  TOps.pure rfl rfl hn (fun a w hS _ => by simp [execOp, hS.eval hx, hS.eval hy, eqGuard, binOp, Op.intCmp]) h
theorem TOps.leq {d x y T T' U p e rest} {k : IntKind} {a b : Int} (hx : opv S x = some (.int k a)) (hy : opv S y = some (.int k b)) (hn : Nat.blt d n = true)
    (h : TOps P n ((d, .bool (decide (a ≤ b))) :: S) H rest A Q) : TOps P n S H (⟨some d, .binOp .leq T x y T', U, p, e, none⟩ :: rest) A Q :=
  TOps.pure rfl rfl hn (fun a w hS _ => by simp [execOp, hS.eval hx, hS.eval hy, eqGuard, binOp, Op.intCmp]) h
theorem TOps.gtr {d x y T T' U p e rest} {k : IntKind} {a b : Int} (hx : opv S x = some (.int k a)) (hy : opv S y = some (.int k b)) (hn : Nat.blt d n = true)
    (h : TOps P n ((d, .bool (decide (b < a))) :: S) H rest A Q) : TOps P n S H (⟨some d, .binOp .gtr T x y T', U, p, e, none⟩ :: rest) A Q :=
  TOps.pure rfl rfl hn (fun a w hS _ => by simp [execOp, hS.eval hx, hS.eval hy, eqGuard, binOp, Op.intCmp]) h
theorem TOps.geq {d x y T T' U p e rest} {k : IntKind} {a b : Int} (hx : opv S x = some (.int k a)) (hy : opv S y = some (.int k b)) (hn : Nat.blt d n = true)
    (h : TOps P n ((d, .bool (decide (b ≤ a))) :: S) H rest A Q) : TOps P n S H (⟨some d, .binOp .geq T x y T', U, p, e, none⟩ :: rest) A Q :=
  TOps.pure rfl rfl hn (fun a w hS _ => by simp [execOp, hS.eval hx, hS.eval hy, eqGuard, binOp, Op.intCmp]) h
theorem TOps.eqlI {d x y T T' U p e rest} {k : IntKind} {a b : Int} (hx : opv S x = some (.int k a)) (hy : opv S y = some (.int k b)) (hn : Nat.blt d n = true)
    (h : TOps P n ((d, .bool (decide (a = b))) :: S) H rest A Q) : TOps P n S H (⟨some d, .binOp .eql T x y T', U, p, e, none⟩ :: rest) A Q :=
  TOps.pure rfl rfl hn (fun a w hS _ => by simp [execOp, hS.eval hx, hS.eval hy, eqGuard, binOp, Op.intCmp]; rfl) h
theorem TOps.neqI {d x y T T' U p e rest} {k : IntKind} {a b : Int} (hx : opv S x = some (.int k a)) (hy : opv S y = some (.int k b)) (hn : Nat.blt d n = true)
    (h : TOps P n ((d, .bool (decide (a ≠ b))) :: S) H rest A Q) : TOps P n S H (⟨some d, .binOp .neq T x y T', U, p, e, none⟩ :: rest) A Q :=
  TOps.pure rfl rfl hn (fun a w hS _ => by
    simp only [execOp, hS.eval hx, hS.eval hy, eqGuard, binOp, Op.intCmp, bne]
    simp [BEq.beq, instBEqOfDecidableEq]) h
theorem TOps.not {d x T U p e rest} {a : Bool} (hx : opv S x = some (.bool a)) (hn : Nat.blt d n = true)
    (h : TOps P n ((d, .bool (!a)) :: S) H rest A Q) : TOps P n S H (⟨some d, .unOp .not T x, U, p, e, none⟩ :: rest) A Q :=
  TOps.pure rfl rfl hn (fun a w hS _ => by simp [execOp, hS.eval hx, Op.unary]) h
theorem TOps.pick {d c x y U p e rest} {t : Bool} {u v : Value} (hc : opv S c = some (.bool t)) (hx : opv S x = some u) (hy : opv S y = some v) (hn : Nat.blt d n = true)
    (h : TOps P n ((d, bif t then u else v) :: S) H rest A Q) : TOps P n S H (⟨some d, .pick c x y, U, p, e, none⟩ :: rest) A Q :=
  TOps.pure rfl rfl hn (fun a w hS _ => by cases t <;> simp [execOp, hS.eval hx, hS.eval hy, hS.eval hc, asBool]) h
theorem TOps.fieldAddr {d s x f U p e rest} {fs : Array Field} {fl : Field} {b off off' : Nat} (hx : opv S x = some (.pointer (some ⟨b, off, none⟩))) (hs : P.underlying s = some (.struct fs))
    (hf : fs[f]? = some fl) {g : Bool} {zv : List Value} {sz y : Nat} (ht : TI P fl.type g zv sz y) (hz : sz ≠ 0) (ho : off + fl.offset = off') (hn : Nat.blt d n = true)
    (h : TOps P n ((d, .pointer (some ⟨b, off', none⟩)) :: S) H rest A Q) : TOps P n S H (⟨some d, .fieldAddr s x f, U, p, e, none⟩ :: rest) A Q :=
  TOps.pure rfl rfl hn (fun a w hS _ => by
    subst ho
    have : (⟨b, off, none⟩ : Addr).add fl.offset = ⟨b, off + fl.offset, none⟩ := by
      by_cases h0 : fl.offset = 0 <;> simp [Addr.add, h0]
    simp [execOp, hS.eval hx, Instr.fieldAt, run_underlying hs, hf, Instr.sureAddr, fieldPlace, ht.size, hz, this]) h
theorem TOps.indexAddr {d s x i U p e rest} {E : TypeId} {b off m cap off' : Nat} {k : IntKind} {z : Int} (hx : opv S x = some (slV (some b) off m cap)) (hi : opv S i = some (.int k z))
    (hs : P.underlying s = some (.slice E)) {g : Bool} {zv : List Value} {sz y : Nat} (ht : TI P E g zv sz y) (h0 : 0 ≤ z) (h1 : z < m) (ho : off + z.toNat * sz = off') (hn : Nat.blt d n = true)
    (h : TOps P n ((d, .pointer (some ⟨b, off', none⟩)) :: S) H rest A Q) : TOps P n S H (⟨some d, .indexAddr s x i, U, p, e, none⟩ :: rest) A Q :=
  TOps.pure rfl rfl hn (fun a w hS _ => by
    subst ho
    have : (⟨b, off, none⟩ : Addr).add (z.toNat * sz) = ⟨b, off + z.toNat * sz, none⟩ := by
      by_cases h0 : z.toNat * sz = 0 <;> simp [Addr.add, h0]
    simp [execOp, hS.eval hx, hS.eval hi, slV, Instr.indexAt, asIntOf, run_underlying hs, h0, h1, ht.size, this]) h
theorem TOps.len {d x s U p e rest} {a sp : Option Nat} {off m cap : Nat} {E : TypeId} (hx : opv S x = some (slV a off m cap sp)) (hs : P.underlying s = some (.slice E)) (hn : Nat.blt d n = true)
    (h : TOps P n ((d, .int .i64 m) :: S) H rest A Q) : TOps P n S H (⟨some d, .call ⟨.builtin .len, #[x], #[s]⟩, U, p, e, none⟩ :: rest) A Q :=
  TOps.pure rfl rfl hn (fun a w hS _ => by
    simp [execOp, hS.eval hx, slV, resolve, invoke, builtin, Builtin.len_, run_underlying hs, goInt]) h
theorem run_loadCells (w : World) (b off : Nat) (l : List Value) : ∀ (i : Nat) (acc : Array Value), (∀ j v, l[j]? = some v → w.cell? ⟨b, off + (i + j), none⟩ = some v) →
    (loadCellsFrom ⟨b, off, none⟩ i l.length acc).run P w = .ok (acc ++ l.toArray) w := by
  induction l with
  | nil => intro i acc h; simp [loadCellsFrom]
  | cons v l ih =>
    intro i acc h
    have e : (⟨b, off, none⟩ : Addr).add i = ⟨b, off + i, none⟩ := by
      by_cases h0 : i = 0 <;> simp [Addr.add, h0]
    have h0 := h 0 v rfl
    rw [Nat.add_zero] at h0
    simp only [List.length_cons, loadCellsFrom, Sem.run_bind, run_load, e, h0, Result.andThen_ok]
    rw [ih (i + 1) (acc.push v) (fun j u hj => by have := h (j + 1) u (by simpa using hj); rwa [show i + (j + 1) = i + 1 + j by omega] at this)]
    simp
theorem TOps.load1 {d T x U p e rest} {b off : Nat} {v : Value} {zv : List Value} {sz y : Nat} (hx : opv S x = some (.pointer (some ⟨b, off, none⟩))) (ht : TI P T false zv sz y) (hr : Rd H b off [v]) (hn : Nat.blt d n = true)
    (h : TOps P n ((d, v) :: S) H rest A Q) : TOps P n S H (⟨some d, .load T x, U, p, e, none⟩ :: rest) A Q :=
  TOps.pure rfl rfl hn (fun a w hS hM => by
    have hc := hr w hM 0 v rfl
    simp only [Nat.add_zero] at hc
    simp [execOp, hS.eval hx, Instr.loadAt, Instr.sureAddr, loadVar, ht.ag, hc]) h
theorem TOps.loadN {d T x U p e rest} {b off : Nat} {vs : List Value} {zv : List Value} {sz y : Nat} (hx : opv S x = some (.pointer (some ⟨b, off, none⟩))) (ht : TI P T true zv sz y) (hr : Rd H b off vs) (hl : vs.length = sz) (hn : Nat.blt d n = true)
    (h : TOps P n ((d, .agg vs.toArray) :: S) H rest A Q) : TOps P n S H (⟨some d, .load T x, U, p, e, none⟩ :: rest) A Q :=
  TOps.pure rfl rfl hn (fun a w hS hM => by
    have hc := run_loadCells (P := P) w b off vs 0 #[] (fun j v hj => by simpa using hr w hM j v hj)
    rw [hl] at hc
    simp [execOp, hS.eval hx, Instr.loadAt, Instr.sureAddr, loadVar, ht.ag, ht.size, loadCells, hc]) h
theorem Mem.alloc {w : World} (hM : Mem H w) (E : TypeId) (sz cap : Nat) (xs sp : List Value) (hl : xs.length + sp.length = cap * sz) (hc : cap ≤ 9223372036854775807) :
    Mem (row (some w.heap.size) E sz cap xs :: H) (w.alloc (.cells (xs ++ sp).toArray E)) := by
  refine Mem.cons (hM.same fun e he => ⟨rfl, rfl, rfl, by simp, fun k hk => ?_⟩) ?_ ?_ ?_
  · have := hM.lt e he k hk
    exact Go.RowKit.Below.heap_alloc w _ k this
  · exact ⟨sp, heap_alloc_new w _, hl, hc⟩
  · intro k hk
    cases hk
    simp
  · intro e he k hk hk'
    cases hk
    exact absurd (hM.lt e he _ hk') (by simp)
theorem TOps.newRow {o : Oper} {rest : List Oper} {d : Nat} {E sz cap : Nat} {xs sp : List Value} {val : Nat → Value} (ho : o.guard = none) (hd : o.dst = some d) (hn : Nat.blt d n = true) (hl : xs.length + sp.length = cap * sz) (hc : cap ≤ 9223372036854775807)
    (hrun : ∀ a w, Sl n S a → Mem H w → (execOp a.eval o).run P w = .ok (.value (val w.heap.size)) (w.alloc (.cells (xs ++ sp).toArray E)))
    (h : ∀ b, TOps P n ((d, val b) :: S) (row (some b) E sz cap xs :: H) rest A Q) : TOps P n S H (o :: rest) A Q := by
  refine TOps.worldEx (R := fun u H' => ∃ b, u = val b ∧ H' = row (some b) E sz cap xs :: H) ho hd hn (fun a w hS hM => ?_) (fun u H' hR => ?_)
  · exact ⟨val w.heap.size, _, w.alloc (.cells (xs ++ sp).toArray E), ⟨w.heap.size, rfl, rfl⟩, hrun a w hS hM, hM.alloc E sz cap xs sp hl hc⟩
  · obtain ⟨b, rfl, rfl⟩ := hR
    exact h b
theorem TOps.boxN {d E x U p e rest} {xs zv : List Value} {g : Bool} {sz y : Nat} (hx : opv S x = some (.agg xs.toArray)) (ht : TI P E g zv sz y) (hl : xs.length = sz) (hn : Nat.blt d n = true)
    (h : ∀ b, TOps P n ((d, .pointer (some ⟨b, 0, none⟩)) :: S) (row (some b) E sz 1 xs :: H) rest A Q) :
    TOps P n S H (⟨some d, .box E x, U, p, e, none⟩ :: rest) A Q :=
  TOps.newRow (sp := []) (val := fun b => .pointer (some ⟨b, 0, none⟩)) rfl rfl hn (by simp [hl]) (by decide) (fun a w hS hM => by
    simp [execOp, hS.eval hx, Instr.box, newVar, Go.newRow, Value.cells]) h
theorem TOps.box1 {d E x U p e rest} {v : Value} {zv : List Value} {g : Bool} {y : Nat} (hx : opv S x = some v) (hv : v.cells = #[v]) (ht : TI P E g zv 1 y) (hn : Nat.blt d n = true)
    (h : ∀ b, TOps P n ((d, .pointer (some ⟨b, 0, none⟩)) :: S) (row (some b) E 1 1 [v] :: H) rest A Q) :
    TOps P n S H (⟨some d, .box E x, U, p, e, none⟩ :: rest) A Q :=
  TOps.newRow (sp := []) (val := fun b => .pointer (some ⟨b, 0, none⟩)) rfl rfl hn (by simp) (by decide) (fun a w hS hM => by
    simp [execOp, hS.eval hx, Instr.box, newVar, Go.newRow, hv]) h
theorem TOps.alloc {d E U p e rest} {zv : List Value} {g : Bool} {sz y : Nat} (ht : TI P E g zv sz y) (hn : Nat.blt d n = true)
    (h : ∀ b, TOps P n ((d, .pointer (some ⟨b, 0, none⟩)) :: S) (row (some b) E sz 1 zv :: H) rest A Q) :
    TOps P n S H (⟨some d, .alloc E, U, p, e, none⟩ :: rest) A Q := by
  obtain ⟨z, hz, hzr⟩ := ht.zero
  exact TOps.newRow (sp := []) (val := fun b => .pointer (some ⟨b, 0, none⟩)) rfl rfl hn (by simp [ht.zs]) (by decide) (fun a w hS hM => by
    simp [execOp, Instr.alloc, hzr, newVar, Go.newRow, hz]) h
end
end Go.GL
namespace Go.GL
set_option linter.unusedVariables false
set_option linter.unusedSimpArgs false
inductive Upd : List Ent → Ent → Ent → List Ent → Prop
  | here {e e' H} : Upd (e :: H) e e' (e' :: H)
  | there {x e e' H H'} : Upd H e e' H' → Upd (x :: H) e e' (x :: H')
theorem Upd.mem {H e e' H'} (u : Upd H e e' H') : e ∈ H := by
  induction u with
  | here => simp
  | there _ ih => exact List.mem_cons_of_mem _ ih
theorem Upd.mem' {H e e' H'} (u : Upd H e e' H') : ∀ x ∈ H', x = e' ∨ x ∈ H := by
  induction u with
  | here =>
    intro x hx
    cases hx with
    | head => exact .inl rfl
    | tail _ hx => exact .inr (List.mem_cons_of_mem _ hx)
  | there _ ih =>
    intro x hx
    cases hx with
    | head => exact .inr (by simp)
    | tail _ hx => exact (ih x hx).imp id (fun h => List.mem_cons_of_mem _ h)
structure Turn (foot : Nat → Prop) (w w' : World) : Prop where
  os : w'.os = w.os
  tape : w'.tape = w.tape
  output : w'.output = w.output
  size : w.heap.size ≤ w'.heap.size
  block : ∀ k, k < w.heap.size → ¬ foot k → w'.heap[k]? = w.heap[k]?
theorem Turn.same {foot w w'} (t : Turn foot w w') {e : Ent} (hl : ∀ k, e.foot k → k < w.heap.size) (hd : ∀ k, e.foot k → ¬ foot k) : Same e.foot w w' :=
  ⟨t.os, t.tape, t.output, t.size, fun k hk => t.block k (hl k hk) (hd k hk)⟩
theorem Upd.sound {H e e' H' w w'} (u : Upd H e e' H') (hM : Mem H w) (t : Turn e.foot w w') (hok : e'.ok w')
    (hf : ∀ k, e'.foot k → e.foot k ∨ w.heap.size ≤ k) (hl : ∀ k, e'.foot k → k < w'.heap.size) : Mem H' w' := by
  induction u with
  | here =>
    obtain ⟨h1, h2, h3, h4⟩ := hM
    rename_i e e' H
    refine ⟨hok, hl, ?_, ?_⟩
    · intro x hx k hk hk'
      rcases hf k hk with h | h
      · exact h3 x hx k h hk'
      · exact absurd (Mem.lt h4 x hx k hk') (by omega)
    · exact h4.same fun x hx => t.same (h4.lt x hx) (fun k hk hk' => h3 x hx k hk' hk)
  | there u ih =>
    rename_i x e e' H H'
    obtain ⟨h1, h2, h3, h4⟩ := hM
    have hx := h3 e u.mem
    refine ⟨?_, ?_, ?_, ih h4 t hok hf hl⟩
    · exact x.st _ _ (t.same h2 hx) h1
    · exact fun k hk => Nat.lt_of_lt_of_le (h2 k hk) t.size
    · intro y hy k hk hk'
      rcases u.mem' y hy with rfl | hy
      · rcases hf k hk' with h | h
        · exact hx k hk h
        · exact absurd (h2 k hk) (by omega)
      · exact h3 y hy k hk hk'
def RdS (H : List Ent) (a : Option Nat) (off : Nat) (vs : List Value) (sp : Option Nat := none) : Prop := vs = [] ∨ ∃ b, a = some b ∧ sp = none ∧ Rd H b off vs
theorem RdS.le {H H' a off vs sp} (h : RdS H a off vs sp) (hl : Le H' H) : RdS H' a off vs sp := h.imp id fun ⟨b, h1, h3, h2⟩ => ⟨b, h1, h3, h2.le hl⟩
theorem RdS.up {e H a off vs sp} (h : RdS H a off vs sp) : RdS (e :: H) a off vs sp := h.le (Le.drop (Le.refl H))
theorem RdS.ofRowS {H : List Ent} {b : Nat} {E sz cap : Nat} {xs : List Value} (hm : row (some b) E sz cap xs ∈ H) : RdS H (some b) 0 xs :=
  .inr ⟨b, rfl, rfl, Rd.ofRow hm 0 xs (fun j v h => by simpa using h)⟩
section
variable {P : Program} {n : Nat} {S : List (Nat × Value)} {H : List Ent} {A : Array Oper} {Q : Exit → Act → World → Prop}
theorem Le.addNil {E sz : Nat} : Le H (row none E sz 0 [] :: H) := by
  intro w h
  exact Mem.cons h ⟨rfl, rfl⟩ (fun k hk => by cases hk) (fun _ _ k hk => by cases hk)
theorem row_set {b E sz cap : Nat} {xs : List Value} {w : World} {i : Nat} {v : Value} (hok : (row (some b) E sz cap xs).ok w) (hi : i < xs.length) :
    (row (some b) E sz cap (xs.set i v)).ok (w.setCell ⟨b, i, none⟩ v) := by
  obtain ⟨sp, h1, h2⟩ := hok
  refine ⟨sp, ?_, by simpa using h2.1, h2.2⟩
  simp only [World.setCell, Array.getElem?_modify, ↓reduceIte, h1, Option.map_some]
  congr 2
  simp [List.set_append_left _ _ hi]
theorem turn_setCell {b i : Nat} {w : World} {v : Value} : Turn (fun k => some b = some k) w (w.setCell ⟨b, i, none⟩ v) :=
  ⟨rfl, rfl, rfl, by simp, fun k _ hk => Go.RowKit.Below.heap_setCell _ _ _ _ (fun e => hk (by simp [e]))⟩
theorem Upd.setCell {H H' b E sz cap} {xs : List Value} {w : World} {i : Nat} {v : Value} (u : Upd H (row (some b) E sz cap xs) (row (some b) E sz cap (xs.set i v)) H') (hM : Mem H w) (hi : i < xs.length) :
    Mem H' (w.setCell ⟨b, i, none⟩ v) :=
  u.sound hM turn_setCell (row_set (hM.ok _ u.mem) hi) (fun k hk => .inl hk) (fun k hk => by simpa using hM.lt _ u.mem k hk)
theorem run_store_row {b E sz cap : Nat} {xs : List Value} {w : World} {i : Nat} {v : Value} (hok : (row (some b) E sz cap xs).ok w) (hi : i < xs.length) (hv : v.oneCell' = true) :
    (store ⟨b, i, none⟩ v).run P w = .ok () (w.setCell ⟨b, i, none⟩ v) := by
  obtain ⟨sp, h1, h2⟩ := hok
  rw [run_store P w _ _ _ hv, cell?_row h1, List.getElem?_append_left hi, List.getElem?_eq_getElem hi]
  simp [World.frozen?, h1]
theorem TOps.store1 {T x v U p e rest} {H' : List Ent} {b off E sz cap : Nat} {xs : List Value} {u : Value} {g : Bool} {zv : List Value} {y : Nat} (hx : opv S x = some (.pointer (some ⟨b, off, none⟩))) (hv : opv S v = some u)
    (ht : TI P T g zv 1 y) (hc : u.cells = #[u]) (h1 : u.oneCell' = true) (hu : Upd H (row (some b) E sz cap xs) (row (some b) E sz cap (xs.set off u)) H') (hi : off < xs.length)
    (h : TOps P n S H' rest A Q) : TOps P n S H (⟨none, .store T x v, U, p, e, none⟩ :: rest) A Q :=
  TOps.unit rfl rfl (fun a w hS hM => by
    refine ⟨w.setCell ⟨b, off, none⟩ u, ?_, hu.setCell hM hi⟩
    have hr := run_store_row (P := P) (i := off) (v := u) (hM.ok _ hu.mem) hi h1
    have ha : (⟨b, off, none⟩ : Addr).add 0 = ⟨b, off, none⟩ := rfl
    simp [execOp, hS.eval hx, hS.eval hv, Instr.storeAt, Instr.sureAddr, storeVar, hc, ht.size, storeCells, ha, hr]) h
def setL : List Value → Nat → List Value → List Value
  | xs, _, [] => xs
  | xs, i, v :: vs => setL (xs.set i v) (i + 1) vs
theorem run_storeCells_row {b off E sz cap : Nat} (vs : List Value) : ∀ (xs : List Value) (w : World) (i : Nat), (row (some b) E sz cap xs).ok w → off + i + vs.length ≤ xs.length → (∀ u ∈ vs, u.oneCell' = true) →
    ∃ w', (storeCells ⟨b, off, none⟩ vs i).run P w = .ok () w' ∧ (row (some b) E sz cap (setL xs (off + i) vs)).ok w' ∧ Turn (fun k => some b = some k) w w' ∧ w'.heap.size = w.heap.size := by
  induction vs with
  | nil => intro xs w i hok hl h1; exact ⟨w, by simp [storeCells], hok, ⟨rfl, rfl, rfl, Nat.le_refl _, fun _ _ _ => rfl⟩, rfl⟩
  | cons v vs ih =>
    intro xs w i hok hl h1
    simp only [List.length_cons] at hl
    have hi : off + i < xs.length := by omega
    have hr := run_store_row (P := P) (i := off + i) (v := v) hok hi (h1 v (by simp))
    have ha : (⟨b, off, none⟩ : Addr).add i = ⟨b, off + i, none⟩ := by
      by_cases h0 : i = 0 <;> simp [Addr.add, h0]
    obtain ⟨w', h2, h3, h4, h5⟩ := ih (xs.set (off + i) v) (w.setCell ⟨b, off + i, none⟩ v) (i + 1) (row_set hok hi) (by simp; omega) (fun u hu => h1 u (List.mem_cons_of_mem _ hu))
    refine ⟨w', ?_, h3, ?_, by simpa using h5⟩
    · simp only [storeCells, Sem.run_bind, ha, hr, Result.andThen_ok, h2]
    · have ht := turn_setCell (b := b) (i := off + i) (w := w) (v := v)
      exact ⟨h4.os.trans ht.os, h4.tape.trans ht.tape, h4.output.trans ht.output, Nat.le_trans ht.size h4.size, fun k hk hf => (h4.block k (by simpa using hk) hf).trans (ht.block k hk hf)⟩
theorem TOps.storeN {T x v U p e rest} {H' : List Ent} {b off E sz cap m : Nat} {xs vs : List Value} {g : Bool} {zv : List Value} {y : Nat} (hx : opv S x = some (.pointer (some ⟨b, off, none⟩))) (hv : opv S v = some (.agg vs.toArray))
    (ht : TI P T g zv m y) (hc : vs.length = m) (h1 : vs.all (fun u => u.oneCell') = true) (hu : Upd H (row (some b) E sz cap xs) (row (some b) E sz cap (setL xs off vs)) H') (hi : off + m ≤ xs.length)
    (h : TOps P n S H' rest A Q) : TOps P n S H (⟨none, .store T x v, U, p, e, none⟩ :: rest) A Q :=
  TOps.unit rfl rfl (fun a w hS hM => by
    obtain ⟨w', h2, h3, h4, h5⟩ := run_storeCells_row (P := P) (off := off) vs xs w 0 (hM.ok _ hu.mem) (by omega) (by simpa using h1)
    refine ⟨w', ?_, hu.sound hM h4 h3 (fun k hk => .inl hk) (fun k hk => by rw [h5]; exact hM.lt _ hu.mem k hk)⟩
    simp [execOp, hS.eval hx, hS.eval hv, Instr.storeAt, Instr.sureAddr, storeVar, Value.cells, ht.size, hc, h2]) h
theorem madeCells_one (z : Value) (k : Nat) : (madeCells #[z] k) = (List.replicate k z).toArray := by
  apply Array.ext
  · simp [size_madeCells]
  · intro i h1 h2
    simp [madeCells, Nat.mod_one]
theorem TOps.make1 {d s l c U p e rest} {E : TypeId} {L C : Nat} {k k' : IntKind} {z : Value} {g : Bool} {y : Nat} (hl : opv S l = some (.int k L)) (hc : opv S c = some (.int k' C)) (hs : P.underlying s = some (.slice E))
    (ht : TI P E g [z] 1 y) (hle : L ≤ C) (hb : y * C ≤ 281474976710656) (hC : C ≤ 9223372036854775807) (hn : Nat.blt d n = true)
    (h : ∀ b, TOps P n ((d, slV (some b) 0 L C) :: S) (row (some b) E 1 C (List.replicate L z) :: H) rest A Q) :
    TOps P n S H (⟨some d, .makeSlice s l c, U, p, e, none⟩ :: rest) A Q :=
  TOps.newRow (sp := List.replicate (C - L) z) (val := fun b => slV (some b) 0 L C) rfl rfl hn (by simp; omega) hC (fun a w hS hM => by
    obtain ⟨i, zz, h1, h2, h3, h4, h5⟩ := ht.i
    have hb' : ((i.bytes * C : Nat) : Int) ≤ 281474976710656 := by rw [h5]; omega
    rw [Int.natCast_mul] at hb'
    have hr := run_make (P := P) w s E i zz hs h1 h2 k k' L C (by omega) (by omega) hb' (by omega)
    simp only [Int.toNat_natCast, h4, Nat.mul_one, h3, madeCells_one] at hr
    rw [List.replicate_append_replicate, show L + (C - L) = C by omega]
    simp [execOp, hS.eval hl, hS.eval hc, hr, slV]) h
def PartsAre (S : List (Nat × Value)) : List (Nat × Operand) → List (Nat × Value) → Prop
  | [], [] => True
  | (i, x) :: r, (j, v) :: s => i = j ∧ opv S x = some v ∧ PartsAre S r s
  | _, _ => False
theorem PartsAre.eval {a : Act} (hS : Sl n S a) : ∀ {l : List (Nat × Operand)} {m : List (Nat × Value)}, PartsAre S l m → l.map (fun (i, x) => (i, a.eval x)) = m
  | [], [], _ => rfl
  | (i, x) :: r, (j, v) :: s, ⟨h1, h2, h3⟩ => by simp [h1, hS.eval h2, PartsAre.eval hS h3]
def zeroRow (zs : List Value) (k : Nat) : Array Value := (Array.range k).map (fun j => zs.toArray[j % zs.toArray.size]!)
theorem foldl_set (cs : List Value) : ∀ (k : Nat) (done rest : List Value) (off : Nat), off + k = done.length → cs.length ≤ rest.length →
    (cs.zipIdx k).foldl (fun (acc : Array Value) (q : Value × Nat) => acc.setIfInBounds (off + q.2) q.1) (done ++ rest).toArray = (done ++ cs ++ rest.drop cs.length).toArray := by
  induction cs with
  | nil => intro k done rest off _ _; simp
  | cons c cs ih =>
    intro k done rest off h1 h2
    cases rest with
    | nil => simp at h2
    | cons r rest =>
      simp only [List.zipIdx_cons, List.foldl_cons]
      have e : (done ++ r :: rest).toArray.setIfInBounds (off + k) c = ((done ++ [c]) ++ rest).toArray := by
        rw [h1]
        simp
      rw [e, ih (k + 1) (done ++ [c]) rest off (by simp; omega) (by simpa using h2)]
      simp
def numb : Nat → List Value → List (Nat × Value)
  | _, [] => []
  | i, v :: r => (i, v) :: numb (i + 1) r
theorem fill_seq (sz : Nat) : ∀ (vs : List Value) (j : Nat) (done rest : List Value), (∀ v ∈ vs, v.cells.toList.length = sz) → done.length = j * sz → rest.length = vs.length * sz →
    Instr.fill (fun i => some (i * sz, sz)) (done ++ rest).toArray (numb j vs) = some (done ++ vs.flatMap (fun v => v.cells.toList)).toArray := by
  intro vs
  induction vs with
  | nil =>
    intro j done rest _ _ h
    have : rest = [] := List.eq_nil_of_length_eq_zero (by simpa using h)
    subst this
    simp [numb, Instr.fill]
  | cons v vs ih =>
    intro j done rest hv hd hr
    have hv0 := hv v (by simp)
    simp only [List.length_cons, Nat.add_mul, Nat.one_mul] at hr
    have c1 : ¬ (v.cells.size ≠ sz ∨ j * sz + v.cells.size > (done ++ rest).toArray.size) := by
      simp only [Array.length_toList] at hv0
      simp [hv0, hd]
      omega
    simp only [numb, Instr.fill]
    have hb : (v.cells.size ≠ sz || decide (j * sz + v.cells.size > (done ++ rest).toArray.size)) = false := by
      simp only [Array.length_toList] at hv0
      simp [hv0, hd]
      omega
    have hz : v.cells.zipIdx.foldl (fun (acc : Array Value) (q : Value × Nat) => acc.setIfInBounds (j * sz + q.2) q.1) (done ++ rest).toArray = ((done ++ v.cells.toList) ++ rest.drop sz).toArray := by
      rw [← Array.foldl_toList, Array.toList_zipIdx]
      have := foldl_set v.cells.toList 0 done rest (j * sz) (by omega) (by omega)
      rw [this, hv0]
    have step : (if v.cells.size ≠ sz || j * sz + v.cells.size > (done ++ rest).toArray.size then (none : Option (Array Value))
      else Instr.fill (fun i => some (i * sz, sz)) (v.cells.zipIdx.foldl (fun cs (x : Value × Nat) => match x with | (c, k) => cs.setIfInBounds (j * sz + k) c) (done ++ rest).toArray) (numb (j + 1) vs))
      = some (done ++ (v :: vs).flatMap (fun v => v.cells.toList)).toArray := by
      rw [if_neg (by rw [hb]; decide)]
      have := ih (j + 1) (done ++ v.cells.toList) (rest.drop sz) (fun u hu => hv u (List.mem_cons_of_mem _ hu)) (by simp only [List.length_append, hd, hv0, Nat.add_mul, Nat.one_mul]) (by rw [List.length_drop]; omega)
      have hz' : (v.cells.zipIdx.foldl (fun cs (x : Value × Nat) => match x with | (c, k) => cs.setIfInBounds (j * sz + k) c) (done ++ rest).toArray) = ((done ++ v.cells.toList) ++ rest.drop sz).toArray := hz
      rw [hz', this]
      simp
    exact step
theorem TOps.buildSlice {d s m U p e rest} {parts : List (Nat × Operand)} {vs : List Value} {E sz y : Nat} {g : Bool} {zs xs : List Value} (hs : P.underlying s = some (.slice E)) (ht : TI P E g zs sz y)
    (hp : PartsAre S parts (numb 0 vs)) (hm : Nat.ble (m * sz) 16777216 = true) (h0 : Nat.blt 0 (m * sz) = true) (hvl : vs.length = m) (hcells : (vs.all fun v => Nat.beq v.cells.toList.length sz) = true) (hxs : vs.flatMap (fun v => v.cells.toList) = xs) (hl : xs.length = m * sz) (hC : m ≤ 9223372036854775807) (hn : Nat.blt d n = true)
    (h : ∀ b, TOps P n ((d, slV (some b) 0 m m) :: S) (row (some b) E sz m xs :: H) rest A Q) :
    TOps P n S H (⟨some d, .buildSlice s m parts.toArray, U, p, e, none⟩ :: rest) A Q :=
  TOps.newRow (sp := []) (val := fun b => slV (some b) 0 m m) rfl rfl hn (by simpa using hl) hC (fun a w hS hM => by
    obtain ⟨i, z, h1, h2, h3, h4, h5⟩ := ht.i
    have h0' : ¬ (m = 0 ∨ sz = 0) := by
      have : 0 < m * sz := by simpa [Nat.blt_eq] using h0
      rintro (rfl | rfl) <;> simp at this
    have hm2 : m * sz ≤ 16777216 := by simpa [Nat.ble_eq] using hm
    have hm' : ¬ (16777216 < m * sz) := by omega
    have he := hp.eval hS
    have hq : (Array.map (fun x : Nat × Operand => (x.1, a.eval x.2)) parts.toArray).toList = numb 0 vs := by simpa using he
    have hfill := fill_seq sz vs 0 [] (zeroRow zs (m * sz)).toList (fun v hv => by simpa using List.all_eq_true.1 hcells v hv) (by simp) (by simp [zeroRow, hvl])
    simp only [List.nil_append, Array.toArray_toList, hxs] at hfill
    unfold zeroRow at hfill
    simp only [execOp, Instr.buildSlice, Sem.run_bind, run_underlying hs, Result.andThen_ok, ht.size, hm', if_false, Sem.run_pure]
    simp only [h0', Nat.mul_eq_zero, if_false, Sem.run_bind, zeroValue, typeInfo, run_program, Result.andThen_ok, h1, h2, Sem.run_pure, h3]
    rw [hq, hfill]
    simp [Go.newRow, slV]) h
theorem TOps.buildSlice0 {d s U p e rest} {E sz y : Nat} {g : Bool} {zs : List Value} (hs : P.underlying s = some (.slice E)) (ht : TI P E g zs sz y) (hn : Nat.blt d n = true)
    (h : ∀ b, TOps P n ((d, slV (some b) 0 0 0) :: S) (row (some b) E sz 0 [] :: H) rest A Q) :
    TOps P n S H (⟨some d, .buildSlice s 0 (List.toArray []), U, p, e, none⟩ :: rest) A Q :=
  TOps.newRow (sp := []) (val := fun b => slV (some b) 0 0 0) rfl rfl hn (by simp) (by decide) (fun a w hS hM => by
    obtain ⟨i, z, h1, h2, h3, h4, h5⟩ := ht.i
    simp [execOp, Instr.buildSlice, run_underlying hs, sizeOf, zeroValue, typeInfo, h1, h2, h3, h4, Instr.fill, Go.newRow, slV, Array.range_zero']) h
end
end Go.GL
namespace Go.GL
set_option linter.unusedVariables false
set_option linter.unusedSimpArgs false
section
variable {P : Program} {n : Nat} {S : List (Nat × Value)} {H : List Ent} {A : Array Oper} {Q : Exit → Act → World → Prop}
theorem addr_add (b off i : Nat) : (⟨b, off, none⟩ : Addr).add i = ⟨b, off + i, none⟩ := by
  by_cases h0 : i = 0 <;> simp [Addr.add, h0]
theorem run_append_empty (w : World) (t ty E : TypeId) {zs : List Value} {g : Bool} {sz y : Nat} (hs : P.underlying t = some (.slice E)) (ht : TI P E g zs sz y) (a : Option Nat) (m cap c2 : Nat) (hm : m ≤ cap) :
    (Builtin.append_ #[t, t] ty #[slV a 0 m cap, .slice none 0 c2]).run P w = .ok (slV a 0 m cap) w := by
  cases a with
  | none => simp [Builtin.append_, run_underlying hs, ht.size, Builtin.lenOf, Builtin.firstCells, slV, hm]
  | some b => simp [Builtin.append_, run_underlying hs, ht.size, Builtin.lenOf, Builtin.firstCells, slV, hm, storeCells]
structure Appended (P : Program) (w : World) (t ty E sz cap : Nat) (a : Option Nat) (m m2 : Nat) (xs ys : List Value) (yv : Value) (a' : Option Nat) (cap' : Nat) (w' : World) : Prop where
  run : (Builtin.append_ #[t, t] ty #[slV a 0 m cap, yv]).run P w = .ok (slV a' 0 (m + m2) cap') w'
  ok : (row a' E sz cap' (xs ++ ys)).ok w'
  turn : Turn (fun k => a = some k) w w'
  new : ∀ k, a' = some k → a = some k ∨ w.heap.size ≤ k
  lt : ∀ k, a' = some k → k < w'.heap.size
  isSome : ys ≠ [] → ∃ b, a' = some b
theorem run_append (w : World) (t ty : Nat) {E : Nat} {zs : List Value} {g : Bool} {sz y : Nat} (hs : P.underlying t = some (.slice E)) (ht : TI P E g zs sz y) (hsz : 0 < sz)
    {a : Option Nat} {m cap m2 : Nat} {xs ys : List Value} (hok : (row a E sz cap xs).ok w) (hlt : ∀ k, a = some k → k < w.heap.size) (hxl : xs.length = m * sz) (hyl : ys.length = m2 * sz)
    (h1 : ∀ u ∈ ys, u.oneCell' = true) (hb : (m + m2) * y ≤ 140737488355328) (h63 : m + m2 ≤ 9223372036854775807)
    {a2 sp2 : Option Nat} {off2 c2 : Nat} (hr : ys = [] ∨ ∃ b, a2 = some b ∧ sp2 = none ∧ ∀ j v, ys[j]? = some v → w.cell? ⟨b, off2 + j, none⟩ = some v) :
    ∃ a' cap' w', Appended P w t ty E sz cap a m m2 xs ys (slV a2 off2 m2 c2 sp2) a' cap' w' := by
  have h63m : m + m2 ≤ maxLen := by simp only [maxLen]; omega
  have hmc : m ≤ cap := by
    cases a with
    | none =>
      obtain ⟨rfl, rfl⟩ := hok
      have : m = 0 := by
        rcases Nat.eq_zero_or_pos m with h | h
        · exact h
        · have := Nat.mul_pos h hsz; simp at hxl; omega
      omega
    | some b =>
      obtain ⟨sp, _, h3, _⟩ := hok
      have : m * sz ≤ cap * sz := by omega
      exact Nat.le_of_mul_le_mul_right this hsz
  have hstill : ∀ c2', m2 = 0 → ∃ a' cap' w', Appended P w t ty E sz cap a m m2 xs ys (.slice none 0 c2') a' cap' w' := by
    intro c2' h0
    subst h0
    have hy0 : ys = [] := List.eq_nil_of_length_eq_zero (by simpa using hyl)
    subst hy0
    exact ⟨a, cap, w, run_append_empty w t ty E hs ht a m cap c2' hmc, by simpa using hok, ⟨rfl, rfl, rfl, Nat.le_refl _, fun _ _ _ => rfl⟩, fun k hk => .inl hk, hlt, fun h => absurd rfl h⟩
  cases a2 with
  | none =>
    have hy0 : ys = [] := by
      rcases hr with h | ⟨b, h, _, _⟩
      · exact h
      · cases h
    have h0 : m2 = 0 := by
      rcases Nat.eq_zero_or_pos m2 with h | h
      · exact h
      · have := Nat.mul_pos h hsz; subst hy0; simp at hyl; omega
    have := hstill c2 h0
    rw [h0] at *
    exact this
  | some b2 =>
    have hnews : ∀ j u, ys[j]? = some u → w.cell? ((⟨b2, off2, sp2⟩ : Addr).add j) = some u := by
      intro j u hj
      rcases hr with h | ⟨b, h, hsp, h2⟩
      · subst h; simp at hj
      · cases h; subst hsp; rw [addr_add]; exact h2 j u hj
    obtain ⟨i, z, i1, i2, i3, i4, i5⟩ := ht.i
    have hyl' : ys.length = m2 * i.size := by rw [i4]; exact hyl
    have hxl' : xs.length = m * i.size := by rw [i4]; exact hxl
    have hzs : z.cells.size = sz := by simp [i3, ht.zs]
    have grown : ∀ old, old < m + m2 → (row (some w.heap.size) E sz (grownCap w (m + m2) old E) (xs ++ ys)).ok
        (w.drew.alloc (.cells (xs.toArray ++ ys.toArray ++ Builtin.zeroCells z.cells (grownCap w (m + m2) old E - (m + m2))) E)) := by
      intro old ho
      have hge := grownCap_ge w (m + m2) old E
      have hcm := grownCap_le_maxLen w (m + m2) old E h63m
      refine ⟨(Builtin.zeroCells z.cells (grownCap w (m + m2) old E - (m + m2))).toList, ?_, ?_, by simpa [maxLen] using hcm⟩
      · have := heap_alloc_new w.drew (.cells (xs.toArray ++ ys.toArray ++ Builtin.zeroCells z.cells (grownCap w (m + m2) old E - (m + m2))) E)
        simp only [World.size_drew] at this
        rw [this]
        congr 2
        apply Array.toList_inj.1
        simp
      · simp only [List.length_append, Array.length_toList, size_zeroCells, hzs, hxl, hyl, ← Nat.add_mul]
        congr 1
        omega
    have tn : ∀ o, Turn (fun k => a = some k) w (w.drew.alloc o) := fun o =>
      ⟨rfl, rfl, rfl, by simp, fun k hk _ => Go.RowKit.Below.heap_alloc w.drew o k (by simpa using hk)⟩
    cases a with
    | none =>
      obtain ⟨rfl, rfl⟩ := hok
      have hm0 : m = 0 := by omega
      subst hm0
      rcases Nat.eq_zero_or_pos m2 with h0 | hp
      · subst h0
        have hy0 : ys = [] := List.eq_nil_of_length_eq_zero (by simpa using hyl)
        subst hy0
        refine ⟨none, 0, w, ?_, ⟨rfl, rfl⟩, ⟨rfl, rfl, rfl, Nat.le_refl _, fun _ _ _ => rfl⟩, (fun k hk => by cases hk), (fun k hk => by cases hk), fun h => absurd rfl h⟩
        simp [Builtin.append_, run_underlying hs, sizeOf, typeInfo, i1, Builtin.lenOf, Builtin.firstCells, slV, loadCells, loadCellsFrom]
      · have hrn := run_append_nil (P := P) w t ty E i z hs i1 i2 ⟨b2, off2, sp2⟩ m2 c2 ys hyl' hnews hp (by omega) (by rw [i5]; simp at hb; omega)
        have hg := grown 0 (by omega)
        simp only [Nat.zero_add, List.nil_append] at hg hrn ⊢
        refine ⟨some w.heap.size, _, _, ?_, hg, tn _, (fun k hk => .inr (by cases hk; exact Nat.le_refl _)), (fun k hk => by cases hk; simp), fun _ => ⟨_, rfl⟩⟩
        simpa [slV] using hrn
    | some b =>
      obtain ⟨sp, g1, g2, g3⟩ := hok
      have hbl := hlt b rfl
      rcases Nat.lt_or_ge cap (m + m2) with hg | hroom
      · have holds : ∀ j v, xs[j]? = some v → w.cell? ((⟨b, 0, none⟩ : Addr).add j) = some v := by
          intro j v hj
          rw [addr_add, cell?_row g1, Nat.zero_add, List.getElem?_append_left (List.getElem?_eq_some_iff.1 hj).1]
          exact hj
        have hrg := run_append_grow (P := P) w t ty E i z hs i1 i2 ⟨b, 0, none⟩ m cap xs hxl' holds ⟨b2, off2, sp2⟩ m2 c2 ys hyl' hnews hg (by omega) (by rw [i5]; exact growslice_fits hg hb)
        refine ⟨some w.heap.size, _, _, ?_, grown cap hg, tn _, (fun k hk => .inr (by cases hk; exact Nat.le_refl _)), (fun k hk => by cases hk; simp), fun _ => ⟨_, rfl⟩⟩
        simpa [slV] using hrg
      · have hfit : m * i.size + ys.length ≤ (xs ++ sp).toArray.size := by
          rw [hyl', i4, ← Nat.add_mul]
          simp only [List.size_toArray, List.length_append, g2]
          exact Nat.mul_le_mul_right _ hroom
        have hrr := run_append_room (P := P) w t ty E i hs i1 b m cap (xs ++ sp).toArray g1 ⟨b2, off2, sp2⟩ m2 c2 ys hyl' hnews h1 hroom hfit
        refine ⟨some b, cap, w.setRow b ((xs ++ sp).toArray.toList.take (m * i.size) ++ ys ++ (xs ++ sp).toArray.toList.drop (m * i.size + ys.length)).toArray, (by simpa [slV] using hrr), ⟨(sp.drop ys.length), ?_, ?_, g3⟩, ⟨rfl, rfl, rfl, by simp, fun k _ hk => setRow_other w b k _ (fun e => hk (by simp [e]))⟩, (fun k hk => .inl hk), (fun k hk => ?_), fun _ => ⟨_, rfl⟩⟩
        · rw [setRow_heap w b _ _ E _ g1, ← hxl']
          simp only [List.take_left, List.append_assoc]
          congr 4
          rw [List.drop_append, List.drop_of_length_le (by omega)]
          simp
        · simp only [List.length_append, List.length_drop]
          simp only [List.size_toArray, List.length_append] at hfit
          omega
        · cases hk
          simpa using hbl
theorem TOps.append {d x yo t U p e rest} {a a2 sp2 : Option Nat} {m cap off2 m2 c2 E : Nat} {zs xs ys : List Value} {g : Bool} {sz y : Nat} {H' : Option Nat → Nat → List Ent}
    (hx : opv S x = some (slV a 0 m cap)) (hy : opv S yo = some (slV a2 off2 m2 c2 sp2)) (hs : P.underlying t = some (.slice E)) (ht : TI P E g zs sz y) (hsz : Nat.blt 0 sz = true) (hu : ∀ a' cap', Upd H (row a E sz cap xs) (row a' E sz cap' (xs ++ ys)) (H' a' cap'))
    (hr : RdS H a2 off2 ys sp2) (hyl : ys.length = m2 * sz) (hxl : xs.length = m * sz) (h1 : ∀ u ∈ ys, u.oneCell' = true) (hb : (m + m2) * y ≤ 140737488355328) (h63 : m + m2 ≤ 9223372036854775807)
    (hn : Nat.blt d n = true)
    (h : ∀ a' cap', (ys ≠ [] → ∃ b, a' = some b) → TOps P n ((d, slV a' 0 (m + m2) cap') :: S) (H' a' cap') rest A Q) :
    TOps P n S H (⟨some d, .call ⟨.builtin .append, #[x, yo], #[t, t]⟩, U, p, e, none⟩ :: rest) A Q := by
  refine TOps.worldEx (R := fun u K => ∃ a' cap', (ys ≠ [] → ∃ b, a' = some b) ∧ u = slV a' 0 (m + m2) cap' ∧ K = H' a' cap') rfl rfl hn (fun ac w hS hM => ?_) (fun u K hR => ?_)
  · have hsz' : 0 < sz := by simpa [Nat.blt_eq] using hsz
    obtain ⟨a', cap', w', hA⟩ := run_append (P := P) w t U hs ht hsz' (hM.ok _ (hu none 0).mem) (hM.lt _ (hu none 0).mem) hxl hyl h1 hb h63 (a2 := a2) (off2 := off2) (c2 := c2)
      (hr.imp id fun ⟨b, h1, h3, h2⟩ => ⟨b, h1, h3, fun j v hj => h2 w hM j v hj⟩)
    refine ⟨_, _, w', ⟨a', cap', hA.isSome, rfl, rfl⟩, ?_, (hu a' cap').sound hM hA.turn hA.ok hA.new hA.lt⟩
    simp only [execOp, resolve, invoke, builtin, List.map_toArray, List.map_cons, List.map_nil, hS.eval hx, hS.eval hy, Sem.run_bind, Sem.run_pure, Result.andThen_ok, hA.run]
  · obtain ⟨a', cap', h0, rfl, rfl⟩ := hR
    exact h a' cap' h0
theorem TOps.appendLit {d x yo t U p e rest} {a : Option Nat} {b2 m cap m2 c2 cc E : Nat} {zs xs ys : List Value} {g : Bool} {sz y : Nat} {H' : Option Nat → Nat → List Ent}
    (hx : opv S x = some (slV a 0 m cap)) (hy : opv S yo = some (slV (some b2) 0 m2 c2)) (hs : P.underlying t = some (.slice E)) (ht : TI P E g zs sz y) (hsz : Nat.blt 0 sz = true) (hu : ∀ a' cap', Upd H (row a E sz cap xs) (row a' E sz cap' (xs ++ ys)) (H' a' cap'))
    (hyl : ys.length = m2 * sz) (hxl : xs.length = m * sz) (h1 : ys.all (fun u => u.oneCell') = true) (hb : (m + m2) * y ≤ 140737488355328) (h63 : m + m2 ≤ 9223372036854775807) (hne : ys ≠ [])
    (hn : Nat.blt d n = true)
    (h : ∀ b' cap', TOps P n ((d, slV (some b') 0 (m + m2) cap') :: S) (H' (some b') cap') rest A Q) :
    TOps P n S (row (some b2) E sz cc ys :: H) (⟨some d, .call ⟨.builtin .append, #[x, yo], #[t, t]⟩, U, p, e, none⟩ :: rest) A Q := by
  refine TOps.append (H' := fun a' cap' => row (some b2) E sz cc ys :: H' a' cap') hx hy hs ht hsz (fun a' cap' => .there (hu a' cap')) (RdS.ofRowS (E := E) (sz := sz) (cap := cc) (by simp)) hyl hxl (by simpa using h1) hb h63 hn ?_
  intro a' cap' hsome
  obtain ⟨b', rfl⟩ := hsome hne
  exact TOps.le (Le.drop (Le.refl _)) (h b' cap')
end
end Go.GL
namespace Go.GL
set_option linter.unusedVariables false
set_option linter.unusedSimpArgs false
section
variable {P : Program} {n : Nat} {S : List (Nat × Value)} {H : List Ent} {A : Array Oper} {Q : Exit → Act → World → Prop}
theorem TOps.sliceLo {d s x lo U p e rest} {a : Option Nat} {off m cap l E sz y : Nat} {k : IntKind} {zs : List Value} {g : Bool} (hx : opv S x = some (slV a off m cap)) (hl : opv S lo = some (.int k l))
    (hs : P.underlying s = some (.slice E)) (ht : TI P E g zs sz y) (h1 : l ≤ m) (hn : Nat.blt d n = true)
    (h : TOps P n ((d, slV a (bif cap == l then off else off + l * sz) (m - l) (cap - l)) :: S) H rest A Q) : TOps P n S H (⟨some d, .slice s x (some lo) none none, U, p, e, none⟩ :: rest) A Q :=
  TOps.pure rfl rfl hn (fun ac w hS _ => by
    have h1' : (l : Int) ≤ m := by omega
    cases a with
    | none => by_cases hc : cap = l <;> simp [execOp, hS.eval hx, hS.eval hl, slV, Instr.sliceAt, Instr.slice, run_underlying hs, Instr.sliceBounds, Instr.sliceBound, asIntOf, h1, ht.size]
    | some b => by_cases hc : cap = l <;> simp [execOp, hS.eval hx, hS.eval hl, slV, Instr.sliceAt, Instr.slice, run_underlying hs, Instr.sliceBounds, Instr.sliceBound, asIntOf, h1, ht.size, hc, addr_add]
              <;> (try (have hcb : (cap == l) = false := by simpa using hc
                        simp [hcb]))) h
theorem TOps.sliceHi {d s x hi U p e rest} {a : Option Nat} {off m cap u E sz y : Nat} {k : IntKind} {zs : List Value} {g : Bool} (hx : opv S x = some (slV a off m cap)) (hu : opv S hi = some (.int k u))
    (hs : P.underlying s = some (.slice E)) (ht : TI P E g zs sz y) (h1 : u ≤ cap) (hn : Nat.blt d n = true)
    (h : TOps P n ((d, slV a off u cap) :: S) H rest A Q) : TOps P n S H (⟨some d, .slice s x none (some hi) none, U, p, e, none⟩ :: rest) A Q :=
  TOps.pure rfl rfl hn (fun ac w hS _ => by
    have h1' : (u : Int) ≤ cap := by omega
    cases a with
    | none => by_cases hc : cap = 0 <;> simp [execOp, hS.eval hx, hS.eval hu, slV, Instr.sliceAt, Instr.slice, run_underlying hs, Instr.sliceBounds, Instr.sliceBound, asIntOf, h1, ht.size]
    | some b => by_cases hc : cap = 0 <;> simp [execOp, hS.eval hx, hS.eval hu, slV, Instr.sliceAt, Instr.slice, run_underlying hs, Instr.sliceBounds, Instr.sliceBound, asIntOf, h1, ht.size, addr_add]) h
theorem TOps.makeInterface {d T x U p e rest} {v : Value} {td : TypeDesc} (hx : opv S x = some v) (hs : P.underlying T = some td) (hi : (match td with | .interface _ => false | _ => true) = true) (hn : Nat.blt d n = true)
    (h : TOps P n ((d, .iface T v) :: S) H rest A Q) : TOps P n S H (⟨some d, .makeInterface T x, U, p, e, none⟩ :: rest) A Q :=
  TOps.pure rfl rfl hn (fun ac w hS _ => by
    cases td <;> first | (simp at hi; done) | simp [execOp, hS.eval hx, Instr.makeInterface, run_underlying hs]) h
def errV (T : TypeId) : Option Int → Value
  | none => .nilIface
  | some c => .iface T (.int .i64 c)
theorem run_equal_err {T I : TypeId} {ms : Array (String × TypeId)} (hI : P.underlying I = some (.interface ms)) (o : Option Int) (w : World) :
    (Op.equal I (errV T o) .nilIface).run P w = .ok o.isNone w := by
  have key : ∀ d, (Op.equalIn (d + 1) I (errV T o) .nilIface).run P w = .ok o.isNone w := by
    intro d
    cases o <;> simp [Op.equalIn, errV, run_underlying hI]
  unfold Op.equal
  rw [show Op.maxDepth = 9999 + 1 from rfl]
  exact key 9999
theorem TOps.eqlNil {d I x T' U p e rest} {T : TypeId} {o : Option Int} {ms : Array (String × TypeId)} (hx : opv S x = some (errV T o)) (hI : P.underlying I = some (.interface ms)) (hn : Nat.blt d n = true)
    (h : TOps P n ((d, .bool o.isNone) :: S) H rest A Q) : TOps P n S H (⟨some d, .binOp .eql I x (.const .nilIface) T', U, p, e, none⟩ :: rest) A Q :=
  TOps.pure rfl rfl hn (fun ac w hS _ => by
    have he := run_equal_err (P := P) (T := T) hI o w
    have hk : ac.eval (.const .nilIface) = .nilIface := rfl
    cases o <;> simp [errV] at he <;> simp [execOp, hS.eval hx, hk, eqGuard, binOp, errV, he]) h
theorem TOps.neqNil {d I x T' U p e rest} {T : TypeId} {o : Option Int} {ms : Array (String × TypeId)} (hx : opv S x = some (errV T o)) (hI : P.underlying I = some (.interface ms)) (hn : Nat.blt d n = true)
    (h : TOps P n ((d, .bool o.isSome) :: S) H rest A Q) : TOps P n S H (⟨some d, .binOp .neq I x (.const .nilIface) T', U, p, e, none⟩ :: rest) A Q :=
  TOps.pure rfl rfl hn (fun ac w hS _ => by
    have he := run_equal_err (P := P) (T := T) hI o w
    have hk : ac.eval (.const .nilIface) = .nilIface := rfl
    cases o <;> simp [errV] at he <;> simp [execOp, hS.eval hx, hk, eqGuard, binOp, errV, he]) h
theorem TOps.typeAssertErr {d x I T U p e rest} {o : Option Int} {td : TypeDesc} {zv : Value} (hx : opv S x = some (errV T o)) (hT : P.underlying T = some td) (hi : (match td with | .interface _ => false | _ => true) = true)
    (hz : ∀ w, (zeroValue T).run P w = .ok (.int .i64 0) w) (hn : Nat.blt d n = true)
    (h : TOps P n ((d, .tuple #[.int .i64 (o.getD 0), .bool o.isSome]) :: S) H rest A Q) : TOps P n S H (⟨some d, .typeAssert x I T true, U, p, e, none⟩ :: rest) A Q :=
  TOps.pure rfl rfl hn (fun ac w hS _ => by
    cases o <;> cases td <;> first | (simp at hi; done) | simp [execOp, hS.eval hx, errV, Instr.typeAssert, run_underlying hT, hz]) h
theorem TOps.extract {d x i U p e rest} {vs : List Value} {v : Value} (hx : opv S x = some (.tuple vs.toArray)) (hv : vs[i]? = some v) (hn : Nat.blt d n = true)
    (h : TOps P n ((d, v) :: S) H rest A Q) : TOps P n S H (⟨some d, .extract x i, U, p, e, none⟩ :: rest) A Q :=
  TOps.pure rfl rfl hn (fun ac w hS _ => by simp [execOp, hS.eval hx, Instr.extract, hv]) h
theorem run_equal_bool {T : TypeId} (hT : P.underlying T = some .bool) (a b : Bool) (w : World) : (Op.equal T (.bool a) (.bool b)).run P w = .ok (a == b) w := by
  have key : ∀ d, (Op.equalIn (d + 1) T (.bool a) (.bool b)).run P w = .ok (a == b) w := by
    intro d
    simp [Op.equalIn, run_underlying hT]
  unfold Op.equal
  rw [show Op.maxDepth = 9999 + 1 from rfl]
  exact key 9999
theorem TOps.eqlB {d T x y T' U p e rest} {a b : Bool} (hx : opv S x = some (.bool a)) (hy : opv S y = some (.bool b)) (hT : P.underlying T = some .bool) (hn : Nat.blt d n = true)
    (h : TOps P n ((d, .bool (a == b)) :: S) H rest A Q) : TOps P n S H (⟨some d, .binOp .eql T x y T', U, p, e, none⟩ :: rest) A Q :=
  TOps.pure rfl rfl hn (fun ac w hS _ => by simp [execOp, hS.eval hx, hS.eval hy, eqGuard, binOp, run_equal_bool hT]) h
theorem Sl.yielded {a : Act} (hS : Sl n S a) {A : Array Oper} {j d : Nat} {b : Bool} (hA : (A[j]?).bind (·.dst) = some d) (hb : get S d = some (.bool b)) : yielded A a.tmps j = some b := by
  obtain ⟨h1, h2⟩ := hS.g d _ hb
  have : a.tmps[d]? = some (.bool b) := by
    rw [Array.getElem?_eq_getElem (by rw [hS.sz]; exact h1)]
    rw [Array.getD_eq_getD_getElem?, Array.getElem?_eq_getElem (by rw [hS.sz]; exact h1)] at h2
    simpa using h2
  simp only [Go.yielded, hA, Option.bind_some, this]
def ArgsAre (S : List (Nat × Value)) : List Operand → List Value → Prop
  | [], [] => True
  | x :: r, v :: s => opv S x = some v ∧ ArgsAre S r s
  | _, _ => False
theorem ArgsAre.eval {a : Act} (hS : Sl n S a) : ∀ {l : List Operand} {m : List Value}, ArgsAre S l m → l.map a.eval = m
  | [], [], _ => rfl
  | x :: r, v :: s, ⟨h1, h2⟩ => by simp [hS.eval h1, ArgsAre.eval hS h2]
theorem TOps.call {d f ts U p e rest} {args : List Operand} {vs : List Value} {R : Value → List Ent → Prop} (hc : ∀ as w, (callFunc f as).run P w = .ok (.enter f as) w)
    (ha : ArgsAre S args vs) (hg : Gives P f vs H R) (hn : Nat.blt d n = true)
    (h : ∀ v H', R v H' → TOps P n ((d, v) :: S) H' rest A Q) : TOps P n S H (⟨some d, .call ⟨.value (.func f), args.toArray, ts⟩, U, p, e, none⟩ :: rest) A Q := by
  intro a w hS hM
  refine wpList_plain rfl fun K hK => ?_
  have he := ha.eval hS
  have hr : (execOp a.eval ⟨some d, .call ⟨.value (.func f), args.toArray, ts⟩, U, p, e, none⟩).run P w = .ok (.enter f vs.toArray) w := by
    simp [execOp, resolve, Act.eval, Deferred.ofValue, invoke, hc, he]
  unfold Oper.wp
  rw [hr, Oper.upon_enter]
  refine (hg w hM).mono fun en w' h' => ?_
  obtain ⟨v, H', hR, rfl, hM'⟩ := h'
  exact hK _ _ (h v H' hR _ _ (hS.put v (by simpa [Nat.blt_eq] using hn)) hM')
def numbered : Nat → List Value → List (Nat × Value)
  | _, [] => []
  | i, v :: r => (i, v) :: numbered (i + 1) r
theorem get_numbered : ∀ (l : List Value) (i k : Nat) (v : Value), get (numbered i l) k = some v → i ≤ k ∧ l[k - i]? = some v
  | [], i, k, v, h => by simp [numbered, get] at h
  | x :: r, i, k, v, h => by
    by_cases e : i = k
    · subst e
      rw [numbered, get_cons_same] at h
      cases h
      exact ⟨Nat.le_refl _, by simp⟩
    · rw [numbered, get_cons_ne e] at h
      obtain ⟨h1, h2⟩ := get_numbered r (i + 1) k v h
      refine ⟨by omega, ?_⟩
      rw [show k - i = (k - (i + 1)) + 1 by omega]
      simpa using h2
def Post (R : Value → List Ent → Prop) : Ending → World → Prop := fun e w' => ∃ v H', R v H' ∧ e = .returned v ∧ Mem H' w'
theorem Gives.enter {f N : Nat} {fn : Func} {c : Code} {args : List Value} {R : Value → List Ent → Prop} (hf : P.funcs[f]? = some fn) (hb : fn.body = some c) (hn : fn.ntmps = N) (hl : Nat.ble args.length N = true)
    (h : Tri P N (numbered 0 args) H c (bodyPost P fn (Post R))) : Gives P f args H R := by
  intro w hM
  refine calls_of_wp hf hb (h _ _ ?_ hM)
  have hl' : args.length ≤ N := by simpa [Nat.ble_eq] using hl
  refine ⟨by simp [hn]; omega, rfl, fun k v hk => ?_⟩
  obtain ⟨_, h2⟩ := get_numbered _ _ _ _ hk
  simp only [Nat.sub_zero] at h2
  obtain ⟨h3, h4⟩ := List.getElem?_eq_some_iff.1 h2
  refine ⟨by omega, ?_⟩
  simp [Array.getElem?_append, h3, h4]
inductive ResIs (P : Program) (S : List (Nat × Value)) (H : List Ent) : ResultVar → Value → Prop
  | tmp {t v} : get S t = some v → ResIs P S H (.tmp t) v
  | cell1 {t T b off v g zv y} : get S t = some (.pointer (some ⟨b, off, none⟩)) → g = false → TI P T g zv 1 y → Rd H b off [v] → ResIs P S H (.cell t T) v
  | cellN {t T b off vs g zv sz y} : get S t = some (.pointer (some ⟨b, off, none⟩)) → g = true → TI P T g zv sz y → Rd H b off vs → vs.length = sz → ResIs P S H (.cell t T) (.agg vs.toArray)
def resRun (tmps : Array Value) : ResultVar → Sem Value
  | .tmp t => pure (tmps.getD t undef)
  | .cell a t => do loadVar t (← asAddr (tmps.getD a undef))
theorem ResIs.run {r : ResultVar} {v : Value} (h : ResIs P S H r v) {a : Act} {w : World} (hS : Sl n S a) (hM : Mem H w) : (resRun a.tmps r).run P w = .ok v w := by
  cases h with
  | tmp h => simp [resRun, (hS.g _ _ h).2]
  | cell1 h hg ht hr =>
    subst hg
    have hc := hr w hM 0 v rfl
    simp only [Nat.add_zero] at hc
    simp only [resRun, (hS.g _ _ h).2]
    simp [asAddr, loadVar, ht.ag, hc]
  | @cellN t T b off vs g zv sz y h hg ht hr hl =>
    subst hg
    have hc := run_loadCells (P := P) w b off vs 0 #[] (fun j v hj => by simpa using hr w hM j v hj)
    rw [hl] at hc
    simp only [resRun, (hS.g _ _ h).2]
    simp [asAddr, loadVar, ht.ag, ht.size, loadCells, hc]
theorem results_eq (fn : Func) (tmps : Array Value) : results fn tmps = (do let vs ← fn.results.mapM (resRun tmps); pure (if h : vs.size = 1 then vs[0] else .tuple vs)) := by
  unfold results
  congr 1
theorem Tri.ret1 {fn : Func} {r : ResultVar} {v : Value} {R : Value → List Ent → Prop} {H' : List Ent} (hres : fn.results = #[r]) (hq : ∀ a w, bodyPost P fn (Post R) .ret a w → Q .ret a w)
    (hr : ResIs P S H r v) (hl : Le H H') (hR : R v H') : Tri P n S H .ret Q :=
  Tri.ret fun a w hS hM => hq a w ⟨hS.df, v, by rw [results_eq, hres]; simp [hr.run hS hM], v, H', hR, rfl, hl w hM⟩
theorem Tri.ret2 {fn : Func} {r1 r2 : ResultVar} {v1 v2 : Value} {R : Value → List Ent → Prop} {H' : List Ent} (hres : fn.results = #[r1, r2]) (hq : ∀ a w, bodyPost P fn (Post R) .ret a w → Q .ret a w)
    (hr1 : ResIs P S H r1 v1) (hr2 : ResIs P S H r2 v2) (hl : Le H H') (hR : R (.tuple #[v1, v2]) H') : Tri P n S H .ret Q :=
  Tri.ret fun a w hS hM => hq a w ⟨hS.df, _, by rw [results_eq, hres]; simp [hr1.run hS hM, hr2.run hS hM], _, H', hR, rfl, hl w hM⟩
theorem Tri.ret3 {fn : Func} {r1 r2 r3 : ResultVar} {v1 v2 v3 : Value} {R : Value → List Ent → Prop} {H' : List Ent} (hres : fn.results = #[r1, r2, r3]) (hq : ∀ a w, bodyPost P fn (Post R) .ret a w → Q .ret a w)
    (hr1 : ResIs P S H r1 v1) (hr2 : ResIs P S H r2 v2) (hr3 : ResIs P S H r3 v3) (hl : Le H H') (hR : R (.tuple #[v1, v2, v3]) H') : Tri P n S H .ret Q :=
  Tri.ret fun a w hS hM => hq a w ⟨hS.df, _, by rw [results_eq, hres]; simp [hr1.run hS hM, hr2.run hS hM, hr3.run hS hM], _, H', hR, rfl, hl w hM⟩
end
end Go.GL
namespace Go.GL
set_option linter.unusedVariables false
set_option linter.unusedSimpArgs false
section
variable {P : Program} {n : Nat} {S : List (Nat × Value)} {H : List Ent} {A : Array Oper} {Q : Exit → Act → World → Prop}
def Is {X : Type} (n : Nat) (Sx : X → List (Nat × Value)) (Hx : X → List Ent) (p : X → Prop) (a : Act) (w : World) : Prop :=
  ∃ x, p x ∧ Sl n (Sx x) a ∧ Mem (Hx x) w
theorem Is.mk {X : Type} {Sx : X → List (Nat × Value)} {Hx : X → List Ent} {p : X → Prop} {a : Act} {w : World} (hS : Sl n S a) (hM : Mem H w) (x : X) (hp : p x) (hs : Has S (Sx x)) (hl : Le H (Hx x)) : Is n Sx Hx p a w :=
  ⟨x, hp, hS.weak hs, hl w hM⟩
theorem Tri.seqMid {X : Type} {x y : Code} (Sx : X → List (Nat × Value)) (Hx : X → List Ent) (p : X → Prop)
    (h1 : Tri P n S H x (Exit.then (Is n Sx Hx p) Q)) (h2 : ∀ x, p x → Tri P n (Sx x) (Hx x) y Q) : Tri P n S H (.seq x y) Q := by
  intro a w hS hM
  refine wp_seq (wp_mono (h1 a w hS hM) ?_)
  intro e a' w' hq
  cases e with
  | normal =>
    obtain ⟨x, hp, hS', hM'⟩ := hq
    exact h2 x hp a' w' hS' hM'
  | _ => exact hq
def LoopQ {X : Type} (n : Nat) (Sx : X → List (Nat × Value)) (Hx : X → List Ent) (p : X → Prop) (μ : X → Nat) (x : X) (Q : Exit → Act → World → Prop) : Exit → Act → World → Prop
  | .normal, a, w => Is n Sx Hx (fun y => p y ∧ μ y < μ x) a w
  | e, a, w => Q e a w
theorem exists_min {q : Nat → Prop} (h : ∃ m, q m) : ∃ m, q m ∧ ∀ k, q k → m ≤ k := by
  obtain ⟨m, hm⟩ := h
  induction m using Nat.strongRecOn with
  | _ m ih =>
    by_cases hk : ∃ k, k < m ∧ q k
    · obtain ⟨k, h1, h2⟩ := hk
      exact ih k h1 h2
    · refine ⟨m, hm, fun k hq => ?_⟩
      rcases Nat.lt_or_ge k m with h | h
      · exact absurd ⟨k, h, hq⟩ hk
      · exact h
open Classical in
theorem Tri.loop {X : Type} {c : Code} (Sx : X → List (Nat × Value)) (Hx : X → List Ent) (p : X → Prop) (μ : X → Nat)
    (x0 : X) (hp : p x0) (hs : Has S (Sx x0)) (hl : Le H (Hx x0)) (hb : ∀ x, p x → Tri P n (Sx x) (Hx x) c (LoopQ n Sx Hx p μ x Q)) : Tri P n S H (.loop c) Q := by
  intro a w hS hM
  let D : Act → World → Nat → Prop := fun a w m => ∃ x, p x ∧ Sl n (Sx x) a ∧ Mem (Hx x) w ∧ μ x = m
  let f : Act → World → Nat := fun a w => if h : ∃ m, D a w m then Classical.choose (exists_min h) else 0
  refine wp_loop (fun a w => ∃ m, D a w m) f ⟨_, x0, hp, hS.weak hs, hl w hM, rfl⟩ ?_
  intro a w hI
  have hf : f a w = Classical.choose (exists_min hI) := by simp only [f]; rw [dif_pos hI]
  obtain ⟨⟨x, h1, h2, h3, h4⟩, _⟩ := Classical.choose_spec (exists_min hI)
  refine wp_mono (hb x h1 a w h2 h3) ?_
  intro e a' w' hq
  cases e with
  | normal =>
    obtain ⟨y, ⟨hy1, hy2⟩, hy3, hy4⟩ := hq
    have hI' : ∃ m, D a' w' m := ⟨_, y, hy1, hy3, hy4, rfl⟩
    refine ⟨hI', ?_⟩
    have hf' : f a' w' = Classical.choose (exists_min hI') := by simp only [f]; rw [dif_pos hI']
    rw [hf, hf', ← h4]
    exact Nat.lt_of_le_of_lt ((Classical.choose_spec (exists_min hI')).2 _ ⟨y, hy1, hy3, hy4, rfl⟩) hy2
  | _ => exact hq
def BodyQ {X : Type} (n id id2 ti tn m k : Nat) (Sx : X → Nat → List (Nat × Value)) (Hx : X → Nat → List Ent) (p : X → Nat → Prop) (Q : Exit → Act → World → Prop) : Exit → Act → World → Prop
  | .normal, a, w => Is n (fun x => (ti, .int .i64 k) :: (tn, .int .i64 m) :: Sx x (k + 1)) (fun x => Hx x (k + 1)) (fun x => p x (k + 1)) a w
  | .exit i, a, w => if i = id2 then Is n (fun x => (ti, .int .i64 k) :: (tn, .int .i64 m) :: Sx x (k + 1)) (fun x => Hx x (k + 1)) (fun x => p x (k + 1)) a w
      else if i = id then Q .normal a w else Q (.exit i) a w
  | e, a, w => Q e a w
theorem has_self_aux : ∀ (T S : List (Nat × Value)), (T.map (·.1)).Nodup → (∀ k v, get T k = some v → get S k = some v) → Has S T
  | [], S, _, _ => trivial
  | (k, v) :: r, S, hd, h => by
    simp only [List.map_cons, List.nodup_cons] at hd
    refine ⟨h k v (get_cons_same k v r), has_self_aux r S hd.2 (fun i u hi => ?_)⟩
    refine h i u ?_
    have hne : k ≠ i := by
      intro e
      subst e
      have : ∀ (l : List (Nat × Value)) (i : Nat) (u : Value), get l i = some u → i ∈ l.map (·.1) := by
        intro l
        induction l with
        | nil => intro i u h; simp [get] at h
        | cons q l ih =>
          intro i u h
          obtain ⟨k0, v0⟩ := q
          by_cases e : k0 = i
          · simp [e]
          · rw [get_cons_ne e] at h
            exact List.mem_cons_of_mem _ (ih i u h)
      exact hd.1 (this r k u hi)
    rwa [get_cons_ne hne]
theorem Sl.putNe {S' : List (Nat × Value)} {a : Act} (h : Sl n S' a) {d : Nat} (v : Value) (hd : d < n) (hne : get S' d = none) : Sl n S' (a.put (some d) v) := by
  refine ⟨by simp [Act.put, h.sz], h.df, ?_⟩
  intro k u hk
  have e : d ≠ k := by
    intro e
    subst e
    rw [hne] at hk
    cases hk
  obtain ⟨h1, h2⟩ := h.g k u hk
  refine ⟨h1, ?_⟩
  rw [← h2]
  simp [Act.put, Array.getElem?_setIfInBounds_ne e]
theorem Tri.range {X : Type} {id id2 r1 r2 ti tn tc tt T1 T2 T3 T4 T5 T6 T7 : Nat} {p1 p2 p3 : String} {e1 e2 e3 : Array Edge} {body : Code} {m : Nat}
    (Sx : X → Nat → List (Nat × Value)) (Hx : X → Nat → List Ent) (p : X → Nat → Prop) (hm : m ≤ 9223372036854775807)
    (hi : get S ti = some (.int .i64 0)) (hn : get S tn = some (.int .i64 m))
    (hd : (tc != ti && tc != tn && tt != ti && tt != tn && ti != tn && Nat.blt tc n && Nat.blt tt n && Nat.blt ti n && id2 != id) = true)
    (hfr : ∀ x k, get (Sx x k) tc = none ∧ get (Sx x k) tt = none ∧ get (Sx x k) ti = none ∧ get (Sx x k) tn = none)
    (x0 : X) (hp : p x0 0) (hs : Has S (Sx x0 0)) (hl : Le H (Hx x0 0))
    (hb : ∀ k x, k < m → p x k → Tri P n ((ti, .int .i64 k) :: (tn, .int .i64 m) :: Sx x k) (Hx x k) body (BodyQ n id id2 ti tn m k Sx Hx p Q))
    (he : ∀ x a w, p x m → Sl n (Sx x m) a → Mem (Hx x m) w → Q .normal a w) :
    Tri P n S H (.block id (.loop (.seq (.region r1 (List.toArray [⟨some tc, .binOp .lss T1 (.tmp ti) (.tmp tn) T2, T3, p1, e1, none⟩]) false)
      (.seq (.cond (.tmp tc) .skip (.exit id)) (.seq (.block id2 body)
        (.region r2 (List.toArray [⟨some tt, .binOp .add T4 (.tmp ti) (.const (.int .i64 1)) T5, T6, p2, e2, none⟩, ⟨some ti, .move (.tmp tt), T7, p3, e3, none⟩]) false)))))) Q := by
  simp only [Bool.and_eq_true, bne_iff_ne, ne_eq, Nat.blt_eq] at hd
  obtain ⟨⟨⟨⟨⟨⟨⟨⟨d1, d2⟩, d3⟩, d4⟩, d5⟩, d6⟩, d7⟩, d8⟩, d9⟩ := hd
  refine Tri.block ?_
  refine Tri.loop (X := X × Nat) (fun x => (ti, .int .i64 x.2) :: (tn, .int .i64 m) :: Sx x.1 x.2) (fun x => Hx x.1 x.2) (fun x => x.2 ≤ m ∧ p x.1 x.2) (fun x => m - x.2)
    (x0, 0) ⟨Nat.zero_le _, hp⟩ ⟨hi, hn, hs⟩ hl ?_
  rintro ⟨x, k⟩ ⟨hk, hpx⟩
  refine Tri.seq (Tri.region ?_)
  have g1 : get ((ti, Value.int .i64 (k : Int)) :: (tn, .int .i64 m) :: Sx x k) ti = some (.int .i64 k) := get_cons_same _ _ _
  have g2 : get ((ti, Value.int .i64 (k : Int)) :: (tn, .int .i64 m) :: Sx x k) tn = some (.int .i64 m) := by rw [get_cons_ne d5, get_cons_same]
  refine TOps.lss (x := .tmp ti) (y := .tmp tn) g1 g2 (by simpa [Nat.blt_eq] using d6) (TOps.next ?_)
  refine Tri.seq ?_
  refine Tri.cond (c := .tmp tc) (get_cons_same _ _ _) (fun hlt => ?_) (fun hge => ?_)
  · have hlt' : k < m := by simpa using hlt
    refine Tri.skipNext ?_
    refine Tri.seq (Tri.block ?_)
    have hbk := hb k x hlt' hpx
    intro a w hS hM
    have hS' : Sl n ((ti, .int .i64 k) :: (tn, .int .i64 m) :: Sx x k) a := by
      refine ⟨hS.sz, hS.df, fun i v hv => hS.g i v ?_⟩
      have : tc ≠ i := by
        intro e
        subst e
        rw [get_cons_ne (fun e => d1 e.symm), get_cons_ne (fun e => d2 e.symm), (hfr x k).1] at hv
        cases hv
      rw [get_cons_ne this]
      exact hv
    refine wp_mono (hbk a w hS' hM) ?_
    have go : ∀ a' w', Is n (fun x => (ti, .int .i64 k) :: (tn, .int .i64 m) :: Sx x (k + 1)) (fun x => Hx x (k + 1)) (fun x => p x (k + 1)) a' w' →
        (Code.region r2 (List.toArray [⟨some tt, .binOp .add T4 (.tmp ti) (.const (.int .i64 1)) T5, T6, p2, e2, none⟩, ⟨some ti, .move (.tmp tt), T7, p3, e3, none⟩]) false).wp P
          (LoopQ n (fun x : X × Nat => (ti, .int .i64 x.2) :: (tn, .int .i64 m) :: Sx x.1 x.2) (fun x => Hx x.1 x.2) (fun x => x.2 ≤ m ∧ p x.1 x.2) (fun x => m - x.2) (x, k) (Exit.inBlock id Q)) a' w' := by
      rintro a' w' ⟨y, hy, hSy, hMy⟩
      have g3 : get ((ti, Value.int .i64 (k : Int)) :: (tn, .int .i64 m) :: Sx y (k + 1)) ti = some (.int .i64 k) := get_cons_same _ _ _
      refine Tri.region (n := n) (S := (ti, .int .i64 k) :: (tn, .int .i64 m) :: Sx y (k + 1)) (H := Hx y (k + 1)) ?_ a' w' hSy hMy
      refine TOps.add (x := .tmp ti) (y := .const (.int .i64 1)) (r := ((k + 1 : Nat) : Int)) g3 rfl (by rw [wrapI (by omega) (by omega)]; omega) (by simpa [Nat.blt_eq] using d7) ?_
      refine TOps.move (x := .tmp tt) (get_cons_same _ _ _) (by simpa [Nat.blt_eq] using d8) ?_
      refine TOps.done fun a2 w2 hS2 hM2 => ?_
      refine ⟨(y, k + 1), ⟨⟨hlt', hy⟩, by simp only; omega⟩, ?_, hM2⟩
      refine ⟨hS2.sz, hS2.df, fun i v hv => hS2.g i v ?_⟩
      by_cases e1 : ti = i
      · subst e1
        rw [get_cons_same] at hv ⊢
        exact hv
      · rw [get_cons_ne e1] at hv ⊢
        have e2 : tt ≠ i := by
          intro e
          subst e
          rw [get_cons_ne (fun e => d4 e.symm), (hfr y (k + 1)).2.1] at hv
          cases hv
        rw [get_cons_ne e2, get_cons_ne e1]
        exact hv
    intro e a' w' hq
    cases e with
    | normal => exact go a' w' hq
    | exit i =>
      simp only [BodyQ] at hq
      by_cases h2 : i = id2
      · subst h2
        simp only [if_true] at hq
        simp only [Exit.inBlock, if_true]
        exact go a' w' hq
      · simp only [h2, if_false] at hq
        simp only [Exit.inBlock, h2, if_false, Exit.then, LoopQ]
        by_cases h3 : i = id
        · simp only [h3, if_true] at hq ⊢
          exact hq
        · simp only [h3, if_false] at hq ⊢
          exact hq
    | goto l => exact hq
    | ret => exact hq
    | panic c => exact hq
    | outgrown => exact hq
  · have hkm : k = m := by
      have : ¬ k < m := by simpa using hge
      omega
    subst hkm
    refine Tri.exit fun a w hS hM => ?_
    simp only [Exit.then, LoopQ, Exit.inBlock, if_true]
    refine he x a w hpx ?_ hM
    refine ⟨hS.sz, hS.df, fun i v hv => hS.g i v ?_⟩
    have e1 : tc ≠ i := by
      intro e
      subst e
      rw [(hfr x k).1] at hv
      cases hv
    have e2 : ti ≠ i := by
      intro e
      subst e
      rw [(hfr x k).2.2.1] at hv
      cases hv
    rw [get_cons_ne e1, get_cons_ne e2]
    by_cases e3 : tn = i
    · subst e3
      rw [(hfr x k).2.2.2] at hv
      cases hv
    · rw [get_cons_ne e3]
      exact hv
section
variable {X : Type} {id id2 ti tn m k : Nat} {Sx : X → Nat → List (Nat × Value)} {Hx : X → Nat → List Ent} {p : X → Nat → Prop}
end
end
def iand (a b : Int) : Int := IntKind.i64.wrap (BitVec.ofInt 64 a &&& BitVec.ofInt 64 b).toNat
def ior (a b : Int) : Int := IntKind.i64.wrap (BitVec.ofInt 64 a ||| BitVec.ofInt 64 b).toNat
def ixor (a b : Int) : Int := IntKind.i64.wrap (BitVec.ofInt 64 a ^^^ BitVec.ofInt 64 b).toNat
def iandn (a b : Int) : Int := IntKind.i64.wrap (BitVec.ofInt 64 a &&& ~~~ BitVec.ofInt 64 b).toNat
def ishl (a : Int) (k : Nat) : Int := IntKind.i64.wrap (a * 2 ^ min k 64)
def ishr (a : Int) (k : Nat) : Int := a.fdiv (2 ^ min k 64)
section
variable {P : Program} {n : Nat} {S : List (Nat × Value)} {H : List Ent} {A : Array Oper} {Q : Exit → Act → World → Prop}
theorem TOps.and {d x y T T' U p e rest} {a b r : Int} (hx : opv S x = some (.int .i64 a)) (hy : opv S y = some (.int .i64 b)) (hr : iand a b = r) (hn : Nat.blt d n = true)
    (h : TOps P n ((d, .int .i64 r) :: S) H rest A Q) : TOps P n S H (⟨some d, .binOp .and T x y T', U, p, e, none⟩ :: rest) A Q :=
  TOps.pure rfl rfl hn (fun ac w hS _ => by
    subst hr
    have hb : binOp .and T (.int .i64 a) (.int .i64 b) = Pure.pure (.int .i64 (iand a b)) := rfl
    simp [execOp, hS.eval hx, hS.eval hy, eqGuard, hb]) h
theorem TOps.or {d x y T T' U p e rest} {a b r : Int} (hx : opv S x = some (.int .i64 a)) (hy : opv S y = some (.int .i64 b)) (hr : ior a b = r) (hn : Nat.blt d n = true)
    (h : TOps P n ((d, .int .i64 r) :: S) H rest A Q) : TOps P n S H (⟨some d, .binOp .or T x y T', U, p, e, none⟩ :: rest) A Q :=
  TOps.pure rfl rfl hn (fun ac w hS _ => by
    subst hr
    have hb : binOp .or T (.int .i64 a) (.int .i64 b) = Pure.pure (.int .i64 (ior a b)) := rfl
    simp [execOp, hS.eval hx, hS.eval hy, eqGuard, hb]) h
theorem TOps.andNot {d x y T T' U p e rest} {a b r : Int} (hx : opv S x = some (.int .i64 a)) (hy : opv S y = some (.int .i64 b)) (hr : iandn a b = r) (hn : Nat.blt d n = true)
    (h : TOps P n ((d, .int .i64 r) :: S) H rest A Q) : TOps P n S H (⟨some d, .binOp .andNot T x y T', U, p, e, none⟩ :: rest) A Q :=
  TOps.pure rfl rfl hn (fun ac w hS _ => by
    subst hr
    have hb : binOp .andNot T (.int .i64 a) (.int .i64 b) = Pure.pure (.int .i64 (iandn a b)) := rfl
    simp [execOp, hS.eval hx, hS.eval hy, eqGuard, hb]) h
theorem TOps.shl {d x y T T' U p e rest} {a b r : Int} {k : IntKind} (hx : opv S x = some (.int .i64 a)) (hy : opv S y = some (.int k b)) (hb : 0 ≤ b) (hr : ishl a b.toNat = r) (hn : Nat.blt d n = true)
    (h : TOps P n ((d, .int .i64 r) :: S) H rest A Q) : TOps P n S H (⟨some d, .binOp .shl T x y T', U, p, e, none⟩ :: rest) A Q :=
  TOps.pure rfl rfl hn (fun a w hS _ => by
    subst hr
    have hb' : ¬ b < 0 := by omega
    simp [execOp, hS.eval hx, hS.eval hy, eqGuard, binOp, Op.shift, ishl, IntKind.bits, hb']) h
theorem TOps.shr {d x y T T' U p e rest} {a b r : Int} {k : IntKind} (hx : opv S x = some (.int .i64 a)) (hy : opv S y = some (.int k b)) (hb : 0 ≤ b) (hr : ishr a b.toNat = r) (hn : Nat.blt d n = true)
    (h : TOps P n ((d, .int .i64 r) :: S) H rest A Q) : TOps P n S H (⟨some d, .binOp .shr T x y T', U, p, e, none⟩ :: rest) A Q :=
  TOps.pure rfl rfl hn (fun a w hS _ => by
    subst hr
    have hb' : ¬ b < 0 := by omega
    simp [execOp, hS.eval hx, hS.eval hy, eqGuard, binOp, Op.shift, ishr, IntKind.bits, hb']) h
theorem Rd.lit {b E sz cap off : Nat} {xs : List Value} {v : Value} (hm : row (some b) E sz cap xs ∈ H) (hv : xs[off]? = some v) : Rd H b off [v] :=
  Rd.ofRow hm off [v] (fun j u hj => by
    cases j with
    | zero => simp at hj; subst hj; simpa using hv
    | succ j => simp at hj)
theorem Rd.all {b E sz cap : Nat} {xs : List Value} (hm : row (some b) E sz cap xs ∈ H) : Rd H b 0 xs := Rd.ofRow hm 0 xs (fun j v h => by simpa using h)
theorem Rd.part {b off : Nat} {vs : List Value} {v : Value} (h : Rd H b off vs) (j : Nat) (hj : vs[j]? = some v) : Rd H b (off + j) [v] := by
  intro w hM i u hi
  cases i with
  | zero => simp at hi; subst hi; exact h w hM j v hj
  | succ i => simp at hi
theorem TOps.field0 {d s x f U p e rest} {fs : Array Field} {fl : Field} {b off : Nat} (hx : opv S x = some (.pointer (some ⟨b, off, none⟩))) (hs : P.underlying s = some (.struct fs))
    (hf : fs[f]? = some fl) {g : Bool} {zv : List Value} {sz y T : Nat} (hT : fl.type = T) (ht : TI P T g zv sz y) (hz : Nat.blt 0 sz = true) (ho : fl.offset = 0) (hn : Nat.blt d n = true)
    (h : TOps P n ((d, .pointer (some ⟨b, off, none⟩)) :: S) H rest A Q) : TOps P n S H (⟨some d, .fieldAddr s x f, U, p, e, none⟩ :: rest) A Q := by
  subst hT
  exact TOps.fieldAddr hx hs hf ht (by intro e; subst e; simp at hz) (by rw [ho]; rfl) hn h
theorem TOps.fieldB {d s x f U p e rest} {fs : Array Field} {fl : Field} {b : Nat} (o : Nat) (hx : opv S x = some (.pointer (some ⟨b, 0, none⟩))) (hs : P.underlying s = some (.struct fs))
    (hf : fs[f]? = some fl) {g : Bool} {zv : List Value} {sz y T : Nat} (hT : fl.type = T) (ht : TI P T g zv sz y) (hz : Nat.blt 0 sz = true) (ho : fl.offset = o) (hn : Nat.blt d n = true)
    (h : TOps P n ((d, .pointer (some ⟨b, o, none⟩)) :: S) H rest A Q) : TOps P n S H (⟨some d, .fieldAddr s x f, U, p, e, none⟩ :: rest) A Q := by
  subst hT
  exact TOps.fieldAddr hx hs hf ht (by intro e; subst e; simp at hz) (by rw [ho, Nat.zero_add]) hn h
theorem TOps.fieldN {d s x f U p e rest} {fs : Array Field} {fl : Field} {b off : Nat} (o : Nat) (hx : opv S x = some (.pointer (some ⟨b, off, none⟩))) (hs : P.underlying s = some (.struct fs))
    (hf : fs[f]? = some fl) {g : Bool} {zv : List Value} {sz y T : Nat} (hT : fl.type = T) (ht : TI P T g zv sz y) (hz : Nat.blt 0 sz = true) (ho : fl.offset = o) (hn : Nat.blt d n = true)
    (h : TOps P n ((d, .pointer (some ⟨b, off + o, none⟩)) :: S) H rest A Q) : TOps P n S H (⟨some d, .fieldAddr s x f, U, p, e, none⟩ :: rest) A Q := by
  subst hT
  exact TOps.fieldAddr hx hs hf ht (by intro e; subst e; simp at hz) (by rw [ho]) hn h
end
end Go.GL
namespace Go.GL
set_option linter.unusedVariables false
set_option linter.unusedSimpArgs false
def skipB (A : Array Oper) (n : Nat) (S0 : List (Nat × Value)) : List (Nat × Value) → List Oper → Bool
  | _, [] => true
  | S, o :: r =>
    match o.guard, o.dst with
    | some (j, b), some d =>
      (match (A[j]?).bind (·.dst) with
        | some dj => (match get S dj with
          | some (.bool g) => (match g, b with | true, true => false | false, false => false | _, _ => true)
          | some (.tuple _) => true
          | _ => false)
        | none => false) && (Nat.blt d n && ((get S0 d).isNone && skipB A n S0 ((d, undef) :: S) r))
    | _, _ => false
def Ext (S S' : List (Nat × Value)) : Prop := ∀ k v, get S k = some v → get S' k = some v
theorem Ext.refl (S : List (Nat × Value)) : Ext S S := fun _ _ h => h
theorem Ext.cons {S S' : List (Nat × Value)} {d : Nat} {v : Value} (hd : (get S d).isNone = true) (h : Ext S S') : Ext S ((d, v) :: S') := by
  intro k u hk
  have hne : d ≠ k := by
    intro e
    subst e
    rw [hk] at hd
    simp at hd
  rw [get_cons_ne hne]
  exact h k u hk
section
variable {P : Program} {n : Nat} {S : List (Nat × Value)} {H : List Ent} {A : Array Oper} {Q : Exit → Act → World → Prop}
theorem wpList_append (l1 l2 : List Oper) {a : Act} {w : World} (h : wpList P A (Exit.then (fun a w => wpList P A Q l2 a w) Q) l1 a w) : wpList P A Q (l1 ++ l2) a w := by
  induction l1 generalizing a w with
  | nil => exact h
  | cons o l ih =>
    unfold wpList at h
    simp only [List.cons_append]
    unfold wpList
    split
    · rename_i hw
      rw [if_pos hw] at h
      rcases h with h | h
      · refine .inl ?_
        unfold Oper.wp at *
        revert h
        generalize (execOp a.eval o).run P w = r
        intro h
        cases r with
        | ok x w' =>
          cases x <;> simp only [Oper.upon] at h ⊢ <;>
            first
              | exact ih h
              | exact Calls.mono h (fun e w'' he => by cases e <;> first | exact ih he | exact he)
              | exact Rows.mono h (fun _ _ he => ih he)
        | halt x w' => cases x <;> simp only [Oper.upon] at h ⊢ <;> exact h
      · refine .inr ⟨h.1, ?_⟩
        obtain ⟨a', w', h'⟩ := h.2
        exact ⟨a', w', h'⟩
    · rename_i hw
      rw [if_neg hw] at h
      exact ih h
theorem wanted_bool {a : Act} {j dj : Nat} {b g : Bool} {dst op ty p e} (hS : Sl n S a) (hA : (A[j]?).bind (·.dst) = some dj) (hb : get S dj = some (.bool g)) :
    Region.wanted ⟨dst, op, ty, p, e, some (j, b)⟩ (yielded A a.tmps) = (g == b) := by
  simp only [Region.wanted, hS.yielded hA hb]
  cases g <;> cases b <;> rfl
theorem wanted_undef {a : Act} {j dj : Nat} {b : Bool} {dst op ty p e} {vs : Array Value} (hS : Sl n S a) (hA : (A[j]?).bind (·.dst) = some dj) (hb : get S dj = some (.tuple vs)) :
    Region.wanted ⟨dst, op, ty, p, e, some (j, b)⟩ (yielded A a.tmps) = false := by
  obtain ⟨h1, h2⟩ := hS.g dj _ hb
  have : a.tmps[dj]? = some (.tuple vs) := by
    rw [Array.getElem?_eq_getElem (by rw [hS.sz]; exact h1)]
    rw [Array.getD_eq_getD_getElem?, Array.getElem?_eq_getElem (by rw [hS.sz]; exact h1)] at h2
    simpa using h2
  simp only [Region.wanted, Go.yielded, hA, Option.bind_some, this]
  rfl
theorem skipB_sound {S0 : List (Nat × Value)} : ∀ (l : List Oper) (S : List (Nat × Value)) (a : Act) (w : World), skipB A n S0 S l = true → Sl n S a → Ext S0 S → ∀ K : Act → World → Prop,
    (∀ a', Sl n S0 a' → K a' w) → wpList P A (Exit.then K Q) l a w := by
  intro l
  induction l with
  | nil =>
    intro S a w _ hS he K hK
    exact wpList_nil (hK a ⟨hS.sz, hS.df, fun k v hk => hS.g k v (he k v hk)⟩)
  | cons o l ih =>
    intro S a w h hS he K hK
    obtain ⟨dst, op, ty, p, e, gd⟩ := o
    cases gd with
    | none => simp [skipB] at h
    | some jb =>
      obtain ⟨j, b⟩ := jb
      cases dst with
      | none => simp [skipB] at h
      | some d =>
        simp only [skipB, Bool.and_eq_true] at h
        obtain ⟨h1, h2, h3, h4⟩ := h
        have hw : Region.wanted ⟨some d, op, ty, p, e, some (j, b)⟩ (yielded A a.tmps) = false := by
          cases hA : (A[j]?).bind (·.dst) with
          | none => simp [hA] at h1
          | some dj =>
            rw [hA] at h1
            cases hg : get S dj with
            | none => simp [hg] at h1
            | some v =>
              simp only [hg] at h1
              cases v with
              | bool g =>
                rw [wanted_bool hS hA hg]
                cases g <;> cases b <;> simp_all
              | tuple vs => exact wanted_undef hS hA hg
              | _ => simp at h1
        unfold wpList
        rw [hw]
        exact ih _ _ _ h4 (hS.put undef (by simpa [Nat.blt_eq] using h2)) (Ext.cons h3 he) K hK
theorem wpList_mono' : ∀ (l1 : List Oper) (K1 K2 : Act → World → Prop) (Q1 Q2 : Exit → Act → World → Prop), (∀ a w, K1 a w → K2 a w) → (∀ e a w, Exit.then K1 Q1 e a w → Exit.then K2 Q2 e a w) → ∀ a w, wpList P A (Exit.then K1 Q1) l1 a w → wpList P A (Exit.then K2 Q2) l1 a w := by
  intro l1
  induction l1 with
  | nil => intro K1 K2 Q1 Q2 _ hm a w h; exact hm _ _ _ h
  | cons o l1 ih =>
    intro K1 K2 Q1 Q2 hK hm a w h
    unfold wpList at h ⊢
    split
    · rename_i hw
      rw [if_pos hw] at h
      rcases h with h | h
      · refine .inl ?_
        unfold Oper.wp at *
        revert h
        generalize (execOp a.eval o).run P w = r
        intro h
        cases r with
        | ok x w' =>
          cases x <;> simp only [Oper.upon] at h ⊢ <;>
            first
              | exact ih _ _ _ _ hK hm _ _ h
              | exact Calls.mono h (fun e w'' he => by
                  cases e with
                  | returned v => exact ih _ _ _ _ hK hm _ _ he
                  | panicked c => exact hm _ _ _ he
                  | outgrown => obtain ⟨a', w', h'⟩ := he; exact ⟨a', w', hm _ _ _ h'⟩)
              | exact Rows.mono h (fun _ _ he => ih _ _ _ _ hK hm _ _ he)
        | halt x w' => cases x <;> simp only [Oper.upon] at h ⊢ <;> first | exact hm _ _ _ h | exact h
      · refine .inr ⟨h.1, ?_⟩
        obtain ⟨a', w', h'⟩ := h.2
        exact ⟨a', w', hm _ _ _ h'⟩
    · rename_i hw
      rw [if_neg hw] at h
      exact ih _ _ _ _ hK hm _ _ h
def stripG (j : Nat) (b : Bool) (o : Oper) : Oper :=
  match o.guard with
  | some (i, c) => match Nat.beq i j, c == b with | true, true => { o with guard := none } | _, _ => o
  | none => o
def notDst (d : Nat) : List Oper → Bool
  | [] => true
  | o :: r => (match o.dst with | some i => !(Nat.beq i d) | none => true) && notDst d r
theorem yielded_put {A : Array Oper} {a : Act} {j dj : Nat} {dst : Option Nat} {v : Value} (hA : (A[j]?).bind (·.dst) = some dj) (hne : dst ≠ some dj) : yielded A (a.put dst v).tmps j = yielded A a.tmps j := by
  cases dst with
  | none => rfl
  | some d =>
    have hd : d ≠ dj := fun e => hne (by rw [e])
    simp [Go.yielded, hA, Act.put, Array.getElem?_setIfInBounds_ne hd]
theorem wpList_strip {j dj : Nat} {b : Bool} (hA : (A[j]?).bind (·.dst) = some dj) : ∀ (l : List Oper) (a : Act) (w : World), notDst dj l = true → yielded A a.tmps j = some b →
    wpList P A Q (l.map (stripG j b)) a w → wpList P A Q l a w := by
  intro l
  induction l with
  | nil => intro a w _ _ h; exact h
  | cons o l ih =>
    intro a w hd hy h
    simp only [notDst, Bool.and_eq_true] at hd
    have hne : o.dst ≠ some dj := by
      intro e
      have := hd.1
      rw [e] at this
      simp at this
    simp only [List.map_cons] at h
    have hop : (stripG j b o).op = o.op ∧ (stripG j b o).dst = o.dst ∧ (stripG j b o).type = o.type := by
      unfold stripG
      split
      · split <;> exact ⟨rfl, rfl, rfl⟩
      · exact ⟨rfl, rfl, rfl⟩
    have hex : execOp a.eval (stripG j b o) = execOp a.eval o := by
      unfold execOp
      rw [hop.1, hop.2.2]
    have hwant : Region.wanted (stripG j b o) (yielded A a.tmps) = Region.wanted o (yielded A a.tmps) := by
      unfold stripG
      split
      · rename_i i c hgd
        split
        · rename_i h1 h2
          have e1 : i = j := Nat.eq_of_beq_eq_true h1
          have e2 : c = b := by simpa using h2
          subst e1
          subst e2
          simp only [Region.wanted, hgd, hy]
          simp
        · rfl
      · rfl
    unfold wpList at h ⊢
    rw [hwant, hop.2.1] at h
    split
    · rename_i hw
      rw [if_pos hw] at h
      have next : ∀ v w', wpList P A Q (l.map (stripG j b)) (a.put o.dst v) w' → wpList P A Q l (a.put o.dst v) w' :=
        fun v w' h => ih _ _ hd.2 (by rw [yielded_put hA hne]; exact hy) h
      rcases h with h | h
      · refine .inl ?_
        unfold Oper.wp at *
        rw [hex] at h
        revert h
        generalize (execOp a.eval o).run P w = r
        intro h
        cases r with
        | ok x w' =>
          cases x <;> simp only [Oper.upon, hop.2.1] at h ⊢ <;>
            first
              | exact next _ _ h
              | exact Calls.mono h (fun e w'' he => by cases e <;> first | exact next _ _ he | exact he)
              | exact Rows.mono h (fun _ _ he => next _ _ he)
              | (refine ih _ _ hd.2 ?_ h; rw [yielded_put hA hne]; exact hy)
        | halt x w' => cases x <;> simp only [Oper.upon] at h ⊢ <;> exact h
      · refine .inr ⟨?_, h.2⟩
        have h1 := h.1
        unfold Oper.asks at h1 ⊢
        rw [hex] at h1
        exact h1
    · rename_i hw
      rw [if_neg hw] at h
      exact ih _ _ hd.2 (by rw [yielded_put hA hne]; exact hy) h
theorem TOps.strip {l : List Oper} (j : Nat) (b : Bool) {dj : Nat} {g : Bool} (hA : (A[j]?).bind (·.dst) = some dj) (hb : get S dj = some (.bool g)) (hg : g = b) (hd : notDst dj l = true)
    (h : TOps P n S H (l.map (stripG j b)) A Q) : TOps P n S H l A Q := by
  intro a w hS hM
  subst hg
  exact wpList_strip hA l a w hd (hS.yielded hA hb) (h a w hS hM)
def BlkQ (n : Nat) (S : List (Nat × Value)) (H : List Ent) (ry : Operand) (q : Bool) (Q : Exit → Act → World → Prop) : Exit → Act → World → Prop :=
  Exit.then (fun a w => ∃ S', Ext S S' ∧ opv S' ry = some (.bool q) ∧ Sl n S' a ∧ Mem H w) Q
theorem TOps.blk {S0 : List (Nat × Value)} {H0 : List Ent} {ry : Operand} {q : Bool} (hx : opv S ry = some (.bool q)) (he : Ext S0 S) (hl : Le H H0) : TOps P n S H [] A (BlkQ n S0 H0 ry q Q) :=
  fun a w hS hM => wpList_nil ⟨S, he, hx, hS, hl w hM⟩
theorem TOps.andB {l : List Oper} (k : Nat) {d tg U p e rest} {ry : Operand} {g q : Bool} (hd : l.drop k = ⟨some d, .pick (.tmp tg) ry (.const (.bool false)), U, p, e, none⟩ :: rest) (hg : get S tg = some (.bool g)) (hn : Nat.blt d n = true)
    (hsk : skipB A n S ((tg, .bool false) :: S) (l.take k) = true)
    (h1 : g = true → TOps P n S H (l.take k) A (BlkQ n S H ry q (Exit.then (fun a w => wpList P A Q (l.drop k) a w) Q)))
    (h2 : TOps P n ((d, .bool (g && q)) :: S) H rest A Q) : TOps P n S H l A Q := by
  intro a w hS hM
  rw [← List.take_append_drop k l]
  refine wpList_append _ _ ?_
  have hn' : d < n := by simpa [Nat.blt_eq] using hn
  have fin : ∀ (a' : Act) (w' : World) (v : Bool), Sl n S a' → Mem H w' → a'.eval ry = .bool v ∨ g = false → (g = true → v = q) → wpList P A Q (l.drop k) a' w' := by
    intro a' w' v hS' hM' hv hq
    rw [hd]
    refine wpList_plain rfl fun K hK => ?_
    have hr : (execOp a'.eval ⟨some d, .pick (.tmp tg) ry (.const (.bool false)), U, p, e, none⟩).run P w' = .ok (.value (.bool (g && q))) w' := by
      have hgt : a'.eval (.tmp tg) = .bool g := hS'.eval (x := .tmp tg) hg
      have hf : a'.eval (.const (.bool false)) = .bool false := rfl
      cases hgb : g with
      | false => simp [execOp, hgt, hgb, asBool, hf]
      | true =>
        rcases hv with hv | hv
        · rw [hq hgb] at hv
          simp [execOp, hgt, hgb, asBool, hv]
        · rw [hgb] at hv; cases hv
    unfold Oper.wp
    rw [hr, Oper.upon_value]
    exact hK _ _ (h2 _ _ (hS'.put _ hn') hM')
  cases hgb : g with
  | false =>
    have hS2 : Sl n ((tg, .bool false) :: S) a := by
      refine ⟨hS.sz, hS.df, fun i v hv => ?_⟩
      by_cases e : tg = i
      · subst e
        rw [get_cons_same] at hv
        cases hv
        have := hS.g tg _ hg
        rw [hgb] at this
        exact this
      · rw [get_cons_ne e] at hv
        exact hS.g i v hv
    refine skipB_sound _ _ _ _ hsk hS2 ?_ _ (fun a' hS' => fin a' w false hS' hM (.inr hgb) (fun h => by rw [hgb] at h; cases h))
    intro i v hv
    by_cases e : tg = i
    · subst e
      rw [hg, hgb] at hv
      cases hv
      exact get_cons_same _ _ _
    · rw [get_cons_ne e]
      exact hv
  | true =>
    have hb := h1 hgb a w hS hM
    unfold BlkQ at hb
    refine wpList_mono' _ _ _ _ _ (fun a' w' h => ?_) (fun e a' w' h => ?_) _ _ hb
    · obtain ⟨S', he, hx, hS', hM'⟩ := h
      exact fin a' w' q ⟨hS'.sz, hS'.df, fun i v hv => hS'.g i v (he i v hv)⟩ hM' (.inl (hS'.eval hx)) (fun _ => rfl)
    · cases e with
      | normal =>
        obtain ⟨S', he, hx, hS', hM'⟩ := h
        exact fin a' w' q ⟨hS'.sz, hS'.df, fun i v hv => hS'.g i v (he i v hv)⟩ hM' (.inl (hS'.eval hx)) (fun _ => rfl)
      | _ => exact h
theorem TOps.orB {l : List Oper} (k : Nat) {d tg U p e rest} {ry : Operand} {g q : Bool} (hd : l.drop k = ⟨some d, .pick (.tmp tg) (.const (.bool true)) ry, U, p, e, none⟩ :: rest) (hg : get S tg = some (.bool g)) (hn : Nat.blt d n = true)
    (hsk : skipB A n S ((tg, .bool true) :: S) (l.take k) = true)
    (h1 : g = false → TOps P n S H (l.take k) A (BlkQ n S H ry q (Exit.then (fun a w => wpList P A Q (l.drop k) a w) Q)))
    (h2 : TOps P n ((d, .bool (g || q)) :: S) H rest A Q) : TOps P n S H l A Q := by
  intro a w hS hM
  rw [← List.take_append_drop k l]
  refine wpList_append _ _ ?_
  have hn' : d < n := by simpa [Nat.blt_eq] using hn
  have fin : ∀ (a' : Act) (w' : World) (v : Bool), Sl n S a' → Mem H w' → a'.eval ry = .bool v ∨ g = true → (g = false → v = q) → wpList P A Q (l.drop k) a' w' := by
    intro a' w' v hS' hM' hv hq
    rw [hd]
    refine wpList_plain rfl fun K hK => ?_
    have hr : (execOp a'.eval ⟨some d, .pick (.tmp tg) (.const (.bool true)) ry, U, p, e, none⟩).run P w' = .ok (.value (.bool (g || q))) w' := by
      have hgt : a'.eval (.tmp tg) = .bool g := hS'.eval (x := .tmp tg) hg
      have hf : a'.eval (.const (.bool true)) = .bool true := rfl
      cases hgb : g with
      | true => simp [execOp, hgt, hgb, asBool, hf]
      | false =>
        rcases hv with hv | hv
        · rw [hq hgb] at hv
          simp [execOp, hgt, hgb, asBool, hv]
        · rw [hgb] at hv; cases hv
    unfold Oper.wp
    rw [hr, Oper.upon_value]
    exact hK _ _ (h2 _ _ (hS'.put _ hn') hM')
  cases hgb : g with
  | true =>
    have hS2 : Sl n ((tg, .bool true) :: S) a := by
      refine ⟨hS.sz, hS.df, fun i v hv => ?_⟩
      by_cases e : tg = i
      · subst e
        rw [get_cons_same] at hv
        cases hv
        have := hS.g tg _ hg
        rw [hgb] at this
        exact this
      · rw [get_cons_ne e] at hv
        exact hS.g i v hv
    refine skipB_sound _ _ _ _ hsk hS2 ?_ _ (fun a' hS' => fin a' w true hS' hM (.inr hgb) (fun h => by rw [hgb] at h; cases h))
    intro i v hv
    by_cases e : tg = i
    · subst e
      rw [hg, hgb] at hv
      cases hv
      exact get_cons_same _ _ _
    · rw [get_cons_ne e]
      exact hv
  | false =>
    have hb := h1 hgb a w hS hM
    unfold BlkQ at hb
    refine wpList_mono' _ _ _ _ _ (fun a' w' h => ?_) (fun e a' w' h => ?_) _ _ hb
    · obtain ⟨S', he, hx, hS', hM'⟩ := h
      exact fin a' w' q ⟨hS'.sz, hS'.df, fun i v hv => hS'.g i v (he i v hv)⟩ hM' (.inl (hS'.eval hx)) (fun _ => rfl)
    · cases e with
      | normal =>
        obtain ⟨S', he, hx, hS', hM'⟩ := h
        exact fin a' w' q ⟨hS'.sz, hS'.df, fun i v hv => hS'.g i v (he i v hv)⟩ hM' (.inl (hS'.eval hx)) (fun _ => rfl)
      | _ => exact h
end
end Go.GL
namespace Go.GL
set_option linter.unusedVariables false
section
variable {P : Program} {n : Nat} {S : List (Nat × Value)} {H : List Ent} {A : Array Oper} {Q : Exit → Act → World → Prop}
def Nrm (n : Nat) (S : List (Nat × Value)) (H : List Ent) (Q : Exit → Act → World → Prop) : Prop := ∀ a w, Sl n S a → Mem H w → Q .normal a w
theorem TOps.fin (h : Nrm n S H Q) : TOps P n S H [] A Q := fun a w hS hM => wpList_nil (h a w hS hM)
theorem Tri.fin (h : Nrm n S H Q) : Tri P n S H .skip Q := fun a w hS hM => wp_skip (h a w hS hM)
theorem Nrm.unB {id : Nat} (h : Nrm n S H Q) : Nrm n S H (Exit.inBlock id Q) := h
theorem Nrm.next {y : Code} (h : Tri P n S H y Q) : Nrm n S H (Exit.then (fun a w => y.wp P Q a w) Q) := h
theorem Nrm.mid {X : Type} {Sx : X → List (Nat × Value)} {Hx : X → List Ent} {p : X → Prop} (x : X) (hp : p x) (hs : Has S (Sx x)) (hl : Le H (Hx x)) : Nrm n S H (Exit.then (Is n Sx Hx p) Q) :=
  fun a w hS hM => Is.mk hS hM x hp hs hl
theorem Nrm.body {X : Type} {id id2 ti tn m k : Nat} {Sx : X → Nat → List (Nat × Value)} {Hx : X → Nat → List Ent} {p : X → Nat → Prop} (x : X) (hp : p x (k + 1)) (hs : Has S ((ti, .int .i64 k) :: (tn, .int .i64 m) :: Sx x (k + 1))) (hl : Le H (Hx x (k + 1))) :
    Nrm n S H (BodyQ n id id2 ti tn m k Sx Hx p Q) := fun a w hS hM => ⟨x, hp, hS.weak hs, hl w hM⟩
theorem Nrm.loop {X : Type} {Sx : X → List (Nat × Value)} {Hx : X → List Ent} {p : X → Prop} {μ : X → Nat} {x : X} (y : X) (hp : p y) (hm : μ y < μ x) (hs : Has S (Sx y)) (hl : Le H (Hx y)) :
    Nrm n S H (LoopQ n Sx Hx p μ x Q) := fun a w hS hM => ⟨y, ⟨hp, hm⟩, hS.weak hs, hl w hM⟩
theorem Nrm.of {a : Act} {w : World} (hS : Sl n S a) (hM : Mem H w) (h : Nrm n S H Q) : Q .normal a w := h a w hS hM
theorem TOps.hide {b E sz cap : Nat} {xs : List Value} {l : List Oper} (h : ∀ H', Le H' H → H.Sublist H' → Rd H' b 0 xs → TOps P n S H' l A Q) : TOps P n S (row (some b) E sz cap xs :: H) l A Q :=
  h _ (Le.drop (Le.refl H)) (List.sublist_cons_self _ _) (Rd.all (E := E) (sz := sz) (cap := cap) (by simp))
theorem Le.consOf {e : Ent} {H' H : List Ent} (s : H.Sublist H') : Le (e :: H') (e :: H) := Le.keep s
end
theorem Rd.fld {H : List Ent} {b : Nat} {vs : List Value} {v : Value} (h : Rd H b 0 vs) (j : Nat) (hj : vs[j]? = some v) : Rd H b j [v] := by
  have := h.part j hj
  rwa [Nat.zero_add] at this
theorem Le.rowEq {a : Option Nat} {E sz cap : Nat} {xs xs' : List Value} {H : List Ent} (h : xs = xs') : Le (row a E sz cap xs :: H) (row a E sz cap xs' :: H) := by
  subst h; exact Le.refl _
structure Nd where
  kind : Int
  k : Int
  args : List Int
structure Fm where
  vars : Int
  nodes : List Nd
  top : Int
def I64 (z : Int) : Prop := -9223372036854775808 ≤ z ∧ z ≤ 9223372036854775807
def Nd.ok (d : Nd) : Prop := I64 d.kind ∧ I64 d.k ∧ (∀ a ∈ d.args, I64 a) ∧ d.args.length ≤ 9223372036854775807
def Fm.ok (F : Fm) : Prop := I64 F.vars ∧ I64 F.top ∧ (∀ d ∈ F.nodes, d.ok) ∧ F.nodes.length ≤ 9223372036854775807
abbrev ints (l : List Int) : List Value := l.map (Value.int .i64)
def RInts (H : List Ent) (a : Option Nat) (off : Nat) (xs : List Int) (sp : Option Nat := none) : Prop := RdS H a off (ints xs) sp
structure NdAt (H : List Ent) (b off : Nat) (d : Nd) (a : Option Nat) (o cap : Nat) (sp : Option Nat) : Prop where
  cells : Rd H b off [.int .i64 d.kind, .int .i64 d.k, slV a o d.args.length cap sp]
  args : RInts H a o d.args sp
def RNodes (H : List Ent) (a : Option Nat) (off : Nat) (ns : List Nd) (sp : Option Nat := none) : Prop :=
  ns = [] ∨ ∃ b, a = some b ∧ sp = none ∧ ∀ (i : Nat) (d : Nd), ns[i]? = some d → ∃ aa o cap asp, NdAt H b (off + i * 3) d aa o cap asp
def RF (H : List Ent) (v : Value) (F : Fm) : Prop :=
  ∃ a off cap sp, v = .agg (List.toArray [.int .i64 F.vars, slV a off F.nodes.length cap sp, .int .i64 F.top]) ∧ RNodes H a off F.nodes sp
theorem NdAt.le {H H' b off d a o cap sp} (h : NdAt H b off d a o cap sp) (hl : Le H' H) : NdAt H' b off d a o cap sp := ⟨h.cells.le hl, RdS.le h.args hl⟩
theorem RNodes.le {H H' a off ns sp} (h : RNodes H a off ns sp) (hl : Le H' H) : RNodes H' a off ns sp := by
  rcases h with h | ⟨b, h1, h3, h2⟩
  · exact .inl h
  · exact .inr ⟨b, h1, h3, fun i d hi => by obtain ⟨aa, o, cap, asp, h⟩ := h2 i d hi; exact ⟨aa, o, cap, asp, h.le hl⟩⟩
theorem RF.le {H H' v F} (h : RF H v F) (hl : Le H' H) : RF H' v F := by
  obtain ⟨a, off, cap, sp, h1, h2⟩ := h
  exact ⟨a, off, cap, sp, h1, h2.le hl⟩
theorem RNodes.at {H a off ns sp} (h : RNodes H a off ns sp) {i : Nat} (hi : i < ns.length) : ∃ b aa o cap asp, a = some b ∧ sp = none ∧ NdAt H b (off + i * 3) ns[i] aa o cap asp := by
  rcases h with h | ⟨b, h1, h3, h2⟩
  · subst h; simp at hi
  · obtain ⟨aa, o, cap, asp, h⟩ := h2 i ns[i] (List.getElem?_eq_getElem hi)
    exact ⟨b, aa, o, cap, asp, h1, h3, h⟩
theorem RdS.at {H a off sp} {vs : List Value} (h : RdS H a off vs sp) {i : Nat} (hi : i < vs.length) : ∃ b, a = some b ∧ sp = none ∧ Rd H b (off + i) [vs[i]] := by
  rcases h with h | ⟨b, h1, h3, h2⟩
  · subst h; simp at hi
  · exact ⟨b, h1, h3, h2.part i (List.getElem?_eq_getElem hi)⟩
theorem RInts.at {H a off xs sp} (h : RInts H a off xs sp) {i : Nat} (hi : i < xs.length) : ∃ b, a = some b ∧ sp = none ∧ Rd H b (off + i) [.int .i64 xs[i]] := by
  have := RdS.at h (i := i) (by simpa using hi)
  simpa using this
abbrev R1 (v : Value) (H : List Ent) : Value → List Ent → Prop := fun u H' => u = v ∧ H = H'
def Fm.valid (F : Fm) (arg : Int) : Bool := decide (0 ≤ F.vars) && decide (0 ≤ arg) && (decide (arg < F.vars) || decide (arg - F.vars < F.nodes.length))
theorem mem_take_succ {α : Type} {l : List α} {k : Nat} (hk : k < l.length) {a : α} (h : a ∈ l.take (k + 1)) : a ∈ l.take k ∨ a = l[k] := by
  rw [List.take_succ_eq_append_getElem hk, List.mem_append, List.mem_singleton] at h
  exact h
theorem ball_take_succ {α : Type} {l : List α} {k : Nat} {p : α → Prop} (hk : k < l.length) (h : ∀ a ∈ l.take k, p a) (h1 : p l[k]) : ∀ a ∈ l.take (k + 1), p a := by
  intro a ha
  rcases mem_take_succ hk ha with ha | rfl
  · exact h a ha
  · exact h1
def argsB (kind n : Int) : Bool := if kind = 0 then decide (n = 0) else if kind = 1 then decide (n = 1) else decide (1 ≤ n) && decide (n ≤ 16)
def nodeErr (vars i : Int) (d : Nd) : Option Int :=
  if d.kind < 0 ∨ 5 < d.kind then some 7
  else if argsB d.kind d.args.length = false then some 11
  else if d.args.any (fun a => decide (a < 0) || decide (vars + i ≤ a)) then some 10
  else if d.kind = 0 then (if d.k ≠ 0 ∧ d.k ≠ 1 then some 3 else none)
  else if d.kind = 4 then (if d.k < 1 ∨ (d.args.length : Int) < d.k then some 3 else none)
  else if d.k ≠ 0 then some 2 else none
def nodesErr (vars : Int) : Nat → List Nd → Option Int
  | _, [] => none
  | i, d :: r => match nodeErr vars i d with | some e => some e | none => nodesErr vars (i + 1) r
def Fm.err (F : Fm) : Option Int :=
  if F.vars < 0 ∨ 24 < F.vars then some 3
  else if 128 < F.nodes.length then some 4
  else match nodesErr F.vars 0 F.nodes with
    | some e => some e
    | none => if F.valid F.top then none else some 10
theorem nodesErr_none (vars : Int) : ∀ (l : List Nd) (i : Nat), (∀ j (h : j < l.length), nodeErr vars ((i + j : Nat) : Int) l[j] = none) → nodesErr vars i l = none
  | [], _, _ => rfl
  | d :: r, i, h => by
    have h0 := h 0 (by simp)
    simp only [Nat.add_zero, List.getElem_cons_zero] at h0
    simp only [nodesErr, h0]
    refine nodesErr_none vars r (i + 1) (fun j hj => ?_)
    have := h (j + 1) (by simpa using hj)
    rwa [show i + (j + 1) = i + 1 + j by omega] at this
theorem nodesErr_some (vars : Int) (e : Int) : ∀ (l : List Nd) (i k : Nat) (hk : k < l.length), (∀ j (h : j < l.length), j < k → nodeErr vars ((i + j : Nat) : Int) l[j] = none) → nodeErr vars ((i + k : Nat) : Int) l[k] = some e → nodesErr vars i l = some e
  | d :: r, i, 0, hk, h, he => by
    simp only [Nat.add_zero, List.getElem_cons_zero] at he
    simp only [nodesErr, he]
  | d :: r, i, k + 1, hk, h, he => by
    have h0 := h 0 (by simp) (by omega)
    simp only [Nat.add_zero, List.getElem_cons_zero] at h0
    simp only [nodesErr, h0]
    refine nodesErr_some vars e r (i + 1) k (by simpa using hk) (fun j hj hjk => ?_) ?_
    · have := h (j + 1) (by simpa using hj) (by omega)
      rwa [show i + (j + 1) = i + 1 + j by omega] at this
    · rw [show i + (k + 1) = i + 1 + k by omega] at he
      exact he
end Go.GL
namespace Go.GL
set_option linter.unusedVariables false
set_option linter.unusedSimpArgs false
def afters (o : Oper) : List Nat := (o.after.toList.filter (fun e => Region.binds .any e)).map (·.on)
def maskOf (ms : List Nat) (as : List Nat) : Nat := as.foldl (fun m j => m ||| ms.getD j 0 ||| 2 ^ j) 0
def masksFrom : List Nat → List Oper → List Nat
  | ms, [] => ms
  | ms, o :: r => masksFrom (ms ++ [maskOf ms (afters o)]) r
def clo (l : List Oper) (j i : Nat) : Bool := ((masksFrom [] l).getD j 0).testBit i
theorem maskOf_bit {ms : List Nat} {i : Nat} : ∀ (as : List Nat) (m : Nat), (as.foldl (fun m j => m ||| ms.getD j 0 ||| 2 ^ j) m).testBit i = true → m.testBit i = true ∨ ∃ k ∈ as, i = k ∨ (ms.getD k 0).testBit i = true
  | [], m, h => .inl h
  | a :: r, m, h => by
    rcases maskOf_bit r _ h with h | ⟨k, hk, h⟩
    · rw [Nat.testBit_or, Nat.testBit_or, Bool.or_eq_true, Bool.or_eq_true] at h
      rcases h with (h | h) | h
      · exact .inl h
      · exact .inr ⟨a, by simp, .inr h⟩
      · refine .inr ⟨a, by simp, .inl ?_⟩
        rcases Decidable.em (a = i) with e | e
        · exact e.symm
        · rw [Nat.testBit_two_pow_of_ne e] at h; cases h
    · exact .inr ⟨k, List.mem_cons_of_mem _ hk, h⟩
def MaskOk (l : List Oper) (ms : List Nat) : Prop := ∀ (j i : Nat), (ms.getD j 0).testBit i = true → ∃ o, l[j]? = some o ∧ ∃ k ∈ afters o, i = k ∨ (ms.getD k 0).testBit i = true
theorem masksFrom_ok (l : List Oper) : ∀ (r done : List Oper) (ms : List Nat), l = done ++ r → ms.length = done.length → MaskOk l ms → MaskOk l (masksFrom ms r)
  | [], done, ms, _, _, h => h
  | o :: r, done, ms, hl, hm, h => by
    refine masksFrom_ok l r (done ++ [o]) _ (by simp [hl]) (by simp [hm]) ?_
    intro j i hj
    have up : ∀ k, (ms.getD k 0).testBit i = true → ((ms ++ [maskOf ms (afters o)]).getD k 0).testBit i = true := by
      intro k hk
      rcases Nat.lt_or_ge k ms.length with hlt | hge
      · rw [List.getD_eq_getElem?_getD, List.getElem?_append_left hlt, ← List.getD_eq_getElem?_getD]; exact hk
      · rw [List.getD_eq_getElem?_getD, List.getElem?_eq_none hge] at hk; simp at hk
    rcases Nat.lt_trichotomy j ms.length with hlt | heq | hgt
    · rw [List.getD_eq_getElem?_getD, List.getElem?_append_left hlt, ← List.getD_eq_getElem?_getD] at hj
      obtain ⟨o', ho', k, hk, h'⟩ := h j i hj
      exact ⟨o', ho', k, hk, h'.imp id (up k)⟩
    · subst heq
      rw [List.getD_eq_getElem?_getD, List.getElem?_append_right (Nat.le_refl _)] at hj
      simp only [Nat.sub_self, List.getElem?_cons_zero, Option.getD_some] at hj
      have ho : l[ms.length]? = some o := by rw [hl, hm]; simp
      rcases maskOf_bit (ms := ms) _ _ hj with h0 | ⟨k, hk, h0⟩
      · simp at h0
      · exact ⟨o, ho, k, hk, h0.imp id (up k)⟩
    · rw [List.getD_eq_getElem?_getD, List.getElem?_eq_none (by simp; omega)] at hj
      simp at hj
theorem clo_spec {l : List Oper} {j i : Nat} (h : clo l j i = true) : ∃ o, l[j]? = some o ∧ ∃ k ∈ afters o, i = k ∨ clo l k i = true :=
  masksFrom_ok l l [] [] rfl rfl (fun j i h => by simp at h) j i h
def dstOf (l : List Oper) (i : Nat) : Option Nat := (l[i]?).bind (·.dst)
def early (l : List Oper) (S1 : List (Nat × Value)) (i : Nat) : List (Nat × Value) := S1.filter fun q => (List.range l.length).all fun w => dstOf l w != some q.1 || clo l w i
def drawOk (n : Nat) (S0 : List (Nat × Value)) (l : List Oper) : Bool :=
  (List.range l.length).all fun i => match l[i]? with
    | none => false
    | some o => (afters o).all (fun j => Nat.blt j i) &&
      (match o.guard with | none => true | some (j, _) => (afters o).contains j && (dstOf l j).isSome) &&
      (match o.dst with
        | none => true
        | some d => Nat.blt d n && (get S0 d).isNone && (List.range i).all (fun j => dstOf l j != some d))
def DepsAre (S : List (Nat × Value)) (l : List Oper) (v : Nat → Value) : List Nat → Prop
  | [] => True
  | j :: r => (match dstOf l j with | some d => get S d = some (v j) | none => True) ∧ DepsAre S l v r
section
variable {P : Program} {n : Nat} {S : List (Nat × Value)} {H : List Ent} {A : Array Oper} {Q : Exit → Act → World → Prop}
def DQ {X : Type} (n : Nat) (S : List (Nat × Value)) (l : List Oper) (V : X → Nat → Value) (Hs : X → Nat → List Ent) (i c' : Nat) (x : X) (Q : Exit → Act → World → Prop) : Exit → Act → World → Prop :=
  Exit.then (fun a w => ∃ x', (∀ j, j ≠ i → clo l j i = false → V x' j = V x j) ∧
    Sl n (match dstOf l i with | some d => (d, V x' i) :: S | none => S) a ∧ Mem (Hs x' c') w) Q
def Ob {X : Type} (P : Program) (n : Nat) (S0 S1 : List (Nat × Value)) (l : List Oper) (V : X → Nat → Value) (Hs : X → Nat → List Ent) (isM : List Nat) (Q : Exit → Act → World → Prop) (i : Nat) (o : Oper) : Prop :=
  (∀ x S c, Ext S0 S → Ext (early l S1 i) S → DepsAre S l (V x) (afters o) → (isM.filter (fun m => clo l i m)).length ≤ c → c ≤ (isM.filter (fun m => !clo l m i)).length → (isM.contains i = true → c = (isM.filter (fun m => Nat.blt m i)).length) →
      (match o.guard with | none => True | some (j, b) => V x j = .bool b) →
      TOps P n S (Hs x c) [{ o with guard := none }] l.toArray (DQ n S l V Hs i (bif isM.contains i then c + 1 else c) x Q)) ∧
  (match o.guard with
    | none => True
    | some (j, b) => (∃ d, o.dst = some d) ∧ ((isM.contains i = false ∧ ∀ x, V x j = .bool b ∨ ((V x j = .bool (!b) ∨ ∃ vs, V x j = .tuple vs) ∧ V x i = undef)) ∨ ∀ x, V x j = .bool b))
def Obs {X : Type} (P : Program) (n : Nat) (S0 S1 : List (Nat × Value)) (l : List Oper) (V : X → Nat → Value) (Hs : X → Nat → List Ent) (isM : List Nat) (Q : Exit → Act → World → Prop) : Nat → List Oper → Prop
  | _, [] => True
  | i, o :: r => Ob P n S0 S1 l V Hs isM Q i o ∧ Obs P n S0 S1 l V Hs isM Q (i + 1) r
theorem Obs.at {X : Type} {S0 S1 : List (Nat × Value)} {l : List Oper} {V : X → Nat → Value} {Hs : X → Nat → List Ent} {isM : List Nat} :
    ∀ (r : List Oper) (k : Nat), Obs P n S0 S1 l V Hs isM Q k r → ∀ i o, r[i]? = some o → Ob P n S0 S1 l V Hs isM Q (k + i) o
  | [], k, _, i, o, h => by simp at h
  | o' :: r, k, ⟨h1, h2⟩, 0, o, h => by
    simp at h
    subst h
    exact h1
  | o' :: r, k, ⟨h1, h2⟩, i + 1, o, h => by
    have := Obs.at r (k + 1) h2 i o (by simpa using h)
    rwa [show k + (i + 1) = k + 1 + i by omega]
def allS (l : List Oper) (v : Nat → Value) : Nat → List Oper → List (Nat × Value) → List (Nat × Value)
  | _, [], S => S
  | i, o :: r, S => allS l v (i + 1) r (match o.dst with | some d => (d, v i) :: S | none => S)
theorem wpOp_of {o : Oper} {i : Nat} {l : List Oper} (hi : l[i]? = some o) {a : Act} {w : World} {K : Act → World → Prop} {Q' : Exit → Act → World → Prop} :
    wpOp P l.toArray Q' i K a w = if Region.wanted o (yielded l.toArray a.tmps) then o.wp P a w K Q' ∨ (o.asks P a w ∧ LetsOut Q') else K (a.put o.dst undef) w := by
  unfold wpOp
  simp [hi]
theorem get_append (A B : List (Nat × Value)) (k : Nat) : get (A ++ B) k = (get A k).or (get B k) := by
  induction A with
  | nil => simp [get]
  | cons q r ih =>
    obtain ⟨k0, v0⟩ := q
    by_cases e : k0 = k
    · subst e
      rw [List.cons_append, get_cons_same, get_cons_same]; rfl
    · rw [List.cons_append, get_cons_ne e, get_cons_ne e, ih]
theorem get_filter_early {l : List Oper} {S1 : List (Nat × Value)} {i k : Nat} {v : Value} (h : get (early l S1 i) k = some v) : get S1 k = some v ∧ ∀ w, dstOf l w = some k → clo l w i = true := by
  induction S1 with
  | nil => simp [early, get] at h
  | cons q r ih =>
    obtain ⟨k0, v0⟩ := q
    unfold early at h ih
    rw [List.filter_cons] at h
    by_cases e : k0 = k
    · subst e
      split at h
      · rename_i hp
        rw [get_cons_same] at h
        refine ⟨by rw [get_cons_same]; exact h, fun w hw => ?_⟩
        have hwl : w < l.length := by
          rcases Nat.lt_or_ge w l.length with h' | h'
          · exact h'
          · simp [dstOf, List.getElem?_eq_none h'] at hw
        have := List.all_eq_true.1 hp w (List.mem_range.2 hwl)
        rw [hw] at this
        simpa using this
      · rename_i hp
        obtain ⟨h1, h2⟩ := ih h
        exfalso
        apply hp
        rw [List.all_eq_true]
        intro w hw
        cases hdw : dstOf l w with
        | none => simp
        | some d =>
          by_cases e : d = k0
          · subst e; simp [h2 w hdw]
          · simp [e]
    · split at h
      · rw [get_cons_ne e] at h
        rw [get_cons_ne e]
        exact ih h
      · rw [get_cons_ne e]
        exact ih h
structure DInv {X : Type} (n : Nat) (S0 S1 : List (Nat × Value)) (l : List Oper) (V : X → Nat → Value) (Hs : X → Nat → List Ent) (isM : List Nat) (L : Array Bool) (x : X) (a : Act) (w : World) : Prop where
  size : L.size = l.length
  closed : ∀ (j : Nat) (o : Oper), l[j]? = some o → L[j]? = some true → ∀ i ∈ afters o, L[i]? = some true
  s0 : Sl n S0 a
  s1 : ∀ (k : Nat) (v : Value), get S1 k = some v → (∀ w, dstOf l w = some k → ¬ L[w]? = some true) → k < n ∧ a.tmps.getD k undef = v
  vals : ∀ (j d : Nat), L[j]? = some true → dstOf l j = some d → d < n ∧ a.tmps.getD d undef = V x j
  mem : Mem (Hs x (isM.filter (fun m => L[m]? == some true)).length) w
theorem drawOk.back {S0 : List (Nat × Value)} {l : List Oper} (hok : drawOk n S0 l = true) {i : Nat} {o : Oper} (ho : l[i]? = some o) : ∀ j ∈ afters o, j < i := by
  have hil : i < l.length := (List.getElem?_eq_some_iff.1 ho).1
  have h := List.all_eq_true.1 hok i (List.mem_range.2 hil)
  simp only [ho, Bool.and_eq_true] at h
  obtain ⟨⟨h1, h2⟩, h3⟩ := h
  intro j hj
  have := List.all_eq_true.1 h1 j hj
  simpa [Nat.blt_eq] using this
theorem DInv.closure {X : Type} {S0 S1 l} {V : X → Nat → Value} {Hs isM L x a w} (h : DInv n S0 S1 l V Hs isM L x a w) (hok : drawOk n S0 l = true) : ∀ (j : Nat), L[j]? = some true → ∀ i, clo l j i = true → L[i]? = some true := by
  intro j
  induction j using Nat.strongRecOn with
  | _ j ih =>
    intro hj i hi
    obtain ⟨o, ho, k, hk, hki⟩ := clo_spec hi
    have hkL := h.closed j o ho hj k hk
    rcases hki with rfl | hki
    · exact hkL
    · exact ih k (drawOk.back hok ho k hk) hkL i hki
theorem filter_len_le {p q : Nat → Bool} : ∀ (l : List Nat), (∀ m ∈ l, p m = true → q m = true) → (l.filter p).length ≤ (l.filter q).length
  | [], _ => by simp
  | m :: r, h => by
    have ih := filter_len_le r (fun m hm => h m (List.mem_cons_of_mem _ hm))
    have h0 := h m (by simp)
    cases hp : p m <;> cases hq : q m <;> simp [List.filter_cons, hp, hq] <;> first | omega | (rw [hp, hq] at h0; simp at h0)
theorem filter_len_eq {p q : Nat → Bool} (l : List Nat) (h : ∀ m ∈ l, p m = q m) : (l.filter p).length = (l.filter q).length := by
  rw [List.filter_congr h]
theorem Oper.wp_then {o : Oper} {a : Act} {w : World} {K K' : Act → World → Prop} (h : o.wp P a w K (Exit.then K' Q)) : o.wp P a w K Q := by
  unfold Oper.wp at *
  revert h
  generalize (execOp a.eval o).run P w = r
  intro h
  cases r with
  | ok x w' =>
    cases x <;> simp only [Oper.upon] at h ⊢ <;>
      first
        | exact h
        | exact Calls.mono h (fun e w'' he => by cases e <;> first | exact he | (obtain ⟨a', w', h'⟩ := he; exact ⟨a', w', h'⟩))
  | halt x w' => cases x <;> simp only [Oper.upon] at h ⊢ <;> exact h
theorem one_of_TOps {o : Oper} {K : Act → World → Prop} (h : TOps P n S H [{ o with guard := none }] A (Exit.then K Q)) {a : Act} {w : World} (hS : Sl n S a) (hM : Mem H w) :
    o.wp P a w K Q ∨ (o.asks P a w ∧ LetsOut Q) := by
  have h1 := h a w hS hM
  unfold wpList at h1
  simp only [Region.wanted, if_true] at h1
  rcases h1 with h1 | ⟨h1, a', w', h2⟩
  · refine .inl ?_
    cases o
    exact Oper.wp_then h1
  · refine .inr ⟨?_, a', w', h2⟩
    cases o
    exact h1
theorem setB {L : Array Bool} {i : Nat} (j : Nat) (hi : i < L.size) : ((L.setIfInBounds i true)[j]? = some true) ↔ (j = i ∨ L[j]? = some true) := by
  by_cases e : i = j
  · subst e
    simp [hi]
  · rw [Array.getElem?_setIfInBounds_ne e]
    exact ⟨.inr, fun h => h.resolve_left (fun e' => e e'.symm)⟩
theorem DInv.step {X : Type} {S0 S1 : List (Nat × Value)} {l : List Oper} {V : X → Nat → Value} {Hs : X → Nat → List Ent} {isM : List Nat} {L : Array Bool} {x x' : X} {a : Act} {w w' : World} {i : Nat} {o : Oper} {v : Value}
    (h : DInv n S0 S1 l V Hs isM L x a w) (hok : drawOk n S0 l = true) (ho : l[i]? = some o) (hL : ∀ j ∈ afters o, L[j]? = some true) (hn : ¬ L[i]? = some true)
    (hx : ∀ j, j ≠ i → clo l j i = false → V x' j = V x j) (hv : ∀ d, o.dst = some d → v = V x' i)
    (hM : Mem (Hs x' (isM.filter (fun m => (L.setIfInBounds i true)[m]? == some true)).length) w') : DInv n S0 S1 l V Hs isM (L.setIfInBounds i true) x' (a.put o.dst v) w' := by
  have hil : i < l.length := (List.getElem?_eq_some_iff.1 ho).1
  have hi : i < L.size := by rw [h.size]; exact hil
  have hok' := List.all_eq_true.1 hok i (List.mem_range.2 hil)
  simp only [ho, Bool.and_eq_true] at hok'
  obtain ⟨⟨hok1, _⟩, hok3⟩ := hok'
  refine ⟨by simp [h.size], ?_, ?_, ?_, ?_, hM⟩
  · intro j o' ho' hj k hk
    rw [setB _ hi] at hj ⊢
    rcases hj with rfl | hj
    · rw [ho] at ho'
      cases ho'
      exact .inr (hL k hk)
    · exact .inr (h.closed j o' ho' hj k hk)
  · cases hd : o.dst with
    | none => exact h.s0.putNone v
    | some d =>
      rw [hd] at hok3
      simp only [Bool.and_eq_true] at hok3
      exact h.s0.putNe v (by simpa [Nat.blt_eq] using hok3.1.1) (by simpa using hok3.1.2)
  · intro k v' hk hw
    obtain ⟨h1, h2⟩ := h.s1 k v' hk (fun w hwk hL' => hw w hwk ((setB _ hi).2 (.inr hL')))
    refine ⟨h1, ?_⟩
    cases hd : o.dst with
    | none => simpa [Act.put, hd] using h2
    | some d =>
      have hne : d ≠ k := by
        intro e
        subst e
        exact hw i (by simp [dstOf, ho, hd]) ((setB _ hi).2 (.inl rfl))
      rw [← h2]
      simp [Act.put, Array.getElem?_setIfInBounds_ne hne]
  · intro j d hj hjd
    rw [setB _ hi] at hj
    by_cases e : j = i
    · subst e
      have hd : o.dst = some d := by simpa [dstOf, ho] using hjd
      rw [hd] at hok3
      simp only [Bool.and_eq_true] at hok3
      have hdn : d < n := by simpa [Nat.blt_eq] using hok3.1.1
      refine ⟨hdn, ?_⟩
      rw [hd, hv d hd]
      simp [Act.put, h.s0.sz, hdn]
    · have hj' := hj.resolve_left e
      obtain ⟨h1, h2⟩ := h.vals j d hj' hjd
      refine ⟨h1, ?_⟩
      have hne : o.dst ≠ some d := by
        intro hd
        rcases Nat.lt_trichotomy j i with hlt | heq | hgt
        · rw [hd] at hok3
          simp only [Bool.and_eq_true] at hok3
          have := List.all_eq_true.1 hok3.2 j (List.mem_range.2 hlt)
          rw [hjd] at this
          simp at this
        · exact e heq
        · have hjl : j < l.length := by
            have : j < L.size := by
              rcases Nat.lt_or_ge j L.size with h' | h'
              · exact h'
              · rw [Array.getElem?_eq_none h'] at hj'; cases hj'
            rw [h.size] at this
            exact this
          have hokj := List.all_eq_true.1 hok j (List.mem_range.2 hjl)
          have hlj : l[j]? = some l[j] := List.getElem?_eq_getElem hjl
          simp only [hlj, Bool.and_eq_true] at hokj
          have hdj : l[j].dst = some d := by simpa [dstOf, hlj] using hjd
          rw [hdj] at hokj
          simp only [Bool.and_eq_true] at hokj
          have := List.all_eq_true.1 hokj.2.2 i (List.mem_range.2 hgt)
          have hdi : dstOf l i = some d := by simp [dstOf, ho, hd]
          rw [hdi] at this
          simp at this
      have hput : (a.put o.dst v).tmps.getD d undef = a.tmps.getD d undef := by
        cases hd : o.dst with
        | none => rfl
        | some d' =>
          have : d' ≠ d := fun e => hne (by rw [hd, e])
          simp [Act.put, Array.getElem?_setIfInBounds_ne this]
      rw [hput, h2, hx j e]
      cases hc : clo l j i with
      | false => rfl
      | true =>
        exact absurd (h.closure hok _ hj' i hc) hn
def isMOk (l : List Oper) (isM : List Nat) : Bool :=
  decide isM.Nodup && isM.all (fun m => Nat.blt m l.length) && isM.all (fun m => isM.all (fun k => !(Nat.blt m k) || clo l k m))
theorem filter_add {p q : Nat → Bool} {i : Nat} : ∀ (l : List Nat), l.Nodup → i ∈ l → p i = false → q i = true → (∀ m ∈ l, m ≠ i → q m = p m) → (l.filter q).length = (l.filter p).length + 1
  | [], _, h, _, _, _ => by simp at h
  | m :: r, hnd, hi, hp, hq, hpq => by
    simp only [List.nodup_cons] at hnd
    by_cases e : m = i
    · subst e
      have : (r.filter q).length = (r.filter p).length :=
        filter_len_eq r (fun k hk => hpq k (List.mem_cons_of_mem _ hk) (fun e => hnd.1 (e ▸ hk)))
      simp [List.filter_cons, hp, hq, this]
    · have hir : i ∈ r := by
        cases hi with
        | head => exact absurd rfl e
        | tail _ h => exact h
      have ih := filter_add r hnd.2 hir hp hq (fun k hk => hpq k (List.mem_cons_of_mem _ hk))
      have h0 := hpq m (by simp) e
      cases hpm : p m <;> simp [List.filter_cons, h0, hpm, ih]
theorem drawOk.at {S0 : List (Nat × Value)} {l : List Oper} (hok : drawOk n S0 l = true) {i : Nat} {o : Oper} (ho : l[i]? = some o) :
    (∀ j ∈ afters o, j < i) ∧ (∀ j b, o.guard = some (j, b) → j ∈ afters o ∧ ∃ dj, dstOf l j = some dj) ∧ (∀ d, o.dst = some d → d < n ∧ get S0 d = none ∧ ∀ j, j < i → dstOf l j ≠ some d) := by
  have hil : i < l.length := (List.getElem?_eq_some_iff.1 ho).1
  have h := List.all_eq_true.1 hok i (List.mem_range.2 hil)
  simp only [ho, Bool.and_eq_true] at h
  obtain ⟨⟨h1, h2⟩, h3⟩ := h
  refine ⟨fun j hj => ?_, fun j b hg => ?_, fun d hd => ?_⟩
  · have := List.all_eq_true.1 h1 j hj
    simpa [Nat.blt_eq] using this
  · rw [hg] at h2
    simp only [Bool.and_eq_true] at h2
    exact ⟨by simpa using h2.1, Option.isSome_iff_exists.1 h2.2⟩
  · rw [hd] at h3
    simp only [Bool.and_eq_true] at h3
    refine ⟨by simpa [Nat.blt_eq] using h3.1.1, by simpa using h3.1.2, fun j hj e => ?_⟩
    have := List.all_eq_true.1 h3.2 j (List.mem_range.2 hj)
    rw [e] at this
    simp at this
theorem mem_ready {l : List Oper} {L : Array Bool} (hsz : L.size = l.length) (i : Nat) : i ∈ Region.ready .any l.toArray L ↔ ∃ o, l[i]? = some o ∧ ¬ L[i]? = some true ∧ ∀ j ∈ afters o, L[j]? = some true := by
  unfold Region.ready
  simp only [List.mem_filter, List.mem_range, List.size_toArray, List.getElem?_toArray]
  constructor
  · rintro ⟨hi, h⟩
    have hlo : l[i]? = some l[i] := List.getElem?_eq_getElem hi
    simp only [hlo, Option.map_some, Option.getD_some, Bool.and_eq_true] at h
    have hiL : i < L.size := by omega
    refine ⟨_, hlo, ?_, fun j hj => ?_⟩
    · have h1 := h.1
      rw [Array.getElem?_eq_getElem hiL]
      simp [hiL] at h1
      simp [h1]
    · simp only [afters, List.mem_map, List.mem_filter] at hj
      obtain ⟨e, ⟨he, hb⟩, rfl⟩ := hj
      have h2 := Array.all_eq_true_iff_forall_mem.1 h.2 e (by simpa using he)
      simp only [hb, Bool.not_true, Bool.false_or] at h2
      rcases Nat.lt_or_ge e.on L.size with h' | h'
      · rw [Array.getElem?_eq_getElem h']
        simpa [h'] using h2
      · have : ¬ e.on < L.size := by omega
        simp [this] at h2
  · rintro ⟨o, ho, hn, h⟩
    have hi : i < l.length := (List.getElem?_eq_some_iff.1 ho).1
    have hiL : i < L.size := by omega
    refine ⟨hi, ?_⟩
    simp only [ho, Option.map_some, Option.getD_some, Bool.and_eq_true]
    constructor
    · rw [Array.getElem?_eq_getElem hiL] at hn
      simp [hiL]
      simpa using hn
    · rw [Array.all_eq_true_iff_forall_mem]
      intro e he
      cases hb : Region.binds .any e with
      | false => simp
      | true =>
        have := h e.on (by simp only [afters, List.mem_map, List.mem_filter]; exact ⟨e, ⟨by simpa using he, hb⟩, rfl⟩)
        obtain ⟨h1, h2⟩ := Array.getElem?_eq_some_iff.1 this
        simp [h1, h2]
theorem Tri.draw {X : Type} {id : Nat} {l : List Oper} (hm : P.follows .mixedOrders = true) (S0 S1 : List (Nat × Value)) (V : X → Nat → Value) (Hs : X → Nat → List Ent) (isM : List Nat) (x0 : X)
    (hok : drawOk n S0 l = true) (hMok : isMOk l isM = true) (hs : Has S S0) (hs1 : Has S S1) (hl : Le H (Hs x0 0))
    (hob : Obs P n S0 S1 l V Hs isM Q 0 l)
    (hq : ∀ x a w, Sl n S0 a → (∀ j d, dstOf l j = some d → d < n ∧ a.tmps.getD d undef = V x j) → Mem (Hs x isM.length) w → Q .normal a w) : Tri P n S H (.region id l.toArray true) Q := by
  simp only [isMOk, Bool.and_eq_true, decide_eq_true_eq] at hMok
  obtain ⟨⟨m1, m2⟩, m3⟩ := hMok
  have m2' : ∀ m ∈ isM, m < l.length := fun m hm => by simpa [Nat.blt_eq] using List.all_eq_true.1 m2 m hm
  have m3' : ∀ m ∈ isM, ∀ k ∈ isM, m < k → clo l k m = true := by
    intro m hm k hk hlt
    have := List.all_eq_true.1 (List.all_eq_true.1 m3 m hm) k hk
    have hb : Nat.blt m k = true := by simpa [Nat.blt_eq] using hlt
    simpa [hb] using this
  intro a0 w0 hS hM
  refine wp_region_any hm ?_
  have full : ∀ (L : Array Bool) x a w, DInv n S0 S1 l V Hs isM L x a w → (∀ i, i < l.length → L[i]? = some true) → Q .normal a w := by
    intro L x a w h hall
    refine hq x a w h.s0 (fun j d hj => ?_) ?_
    · have hjl : j < l.length := by
        rcases Nat.lt_or_ge j l.length with h' | h'
        · exact h'
        · simp [dstOf, List.getElem?_eq_none h'] at hj
      exact h.vals j d (hall j hjl) hj
    · have hfil : (isM.filter (fun m => L[m]? == some true)) = isM := by
        rw [List.filter_eq_self]
        intro m hm
        simp [hall m (m2' m hm)]
      have := h.mem
      rwa [hfil] at this
  have allL : ∀ (L : Array Bool), L.size = l.length → Region.ready .any l.toArray L = [] → ∀ i, i < l.length → L[i]? = some true := by
    intro L hsz hr i
    induction i using Nat.strongRecOn with
    | _ i ih =>
      intro hi
      by_cases hL : L[i]? = some true
      · exact hL
      · have ho : l[i]? = some l[i] := List.getElem?_eq_getElem hi
        have hmem : i ∈ Region.ready .any l.toArray L := (mem_ready hsz i).2 ⟨_, ho, hL, fun j hj => by
          have hji := (drawOk.at hok ho).1 j hj
          exact ih j hji (by omega)⟩
        rw [hr] at hmem
        cases hmem
  have main : ∀ (fuel : Nat) (U : List Nat) (L : Array Bool) x a w, U.Nodup → (∀ i, i < l.length → ¬ L[i]? = some true → i ∈ U) → U.length ≤ fuel → DInv n S0 S1 l V Hs isM L x a w →
      wpAny P .any l.toArray Q fuel L a w := by
    intro fuel
    induction fuel with
    | zero =>
      intro U L x a w hU hm hf h
      have hall : ∀ i, i < l.length → L[i]? = some true := by
        intro i hi
        by_cases hL : L[i]? = some true
        · exact hL
        · have := hm i hi hL
          have h0 : U = [] := List.eq_nil_of_length_eq_zero (by omega)
          rw [h0] at this
          cases this
      refine ⟨?_, full L x a w h hall⟩
      refine List.eq_nil_iff_forall_not_mem.2 fun i hi => ?_
      obtain ⟨o, ho, hn, _⟩ := (mem_ready h.size i).1 hi
      exact hn (hall i (List.getElem?_eq_some_iff.1 ho).1)
    | succ fuel ih =>
      intro U L x a w hU hm hf h
      refine ⟨fun hr => full L x a w h (allL L h.size hr), fun i hi => ?_⟩
      obtain ⟨o, ho, hn, hL⟩ := (mem_ready h.size i).1 hi
      have hil : i < l.length := (List.getElem?_eq_some_iff.1 ho).1
      have hiL : i < L.size := by rw [h.size]; exact hil
      have hiU := hm i hil hn
      have next : ∀ x' a' w', DInv n S0 S1 l V Hs isM (L.setIfInBounds i true) x' a' w' → wpAny P .any l.toArray Q fuel (L.setIfInBounds i true) a' w' := by
        intro x' a' w' h'
        refine ih (U.erase i) _ x' a' w' (hU.erase i) (fun k hk hLk => ?_) ?_ h'
        · rw [setB _ hiL] at hLk
          exact (List.mem_erase_of_ne (fun e => hLk (.inl e))).2 (hm k hk (fun h => hLk (.inr h)))
        · rw [List.length_erase_of_mem hiU]
          omega
      obtain ⟨a1, a2, a3⟩ := drawOk.at hok ho
      have hO := Obs.at l 0 hob i o ho
      rw [Nat.zero_add] at hO
      obtain ⟨hO1, hO2⟩ := hO
      have hclo : ∀ k, clo l i k = true → L[k]? = some true := by
        intro k hk
        obtain ⟨o', ho', j, hj, hjk⟩ := clo_spec hk
        rw [ho] at ho'
        cases ho'
        rcases hjk with rfl | hjk
        · exact hL k hj
        · exact h.closure hok j (hL j hj) k hjk
      have hearly : ∀ k v, get (early l S1 i) k = some v → get S1 k = some v ∧ k < n ∧ a.tmps.getD k undef = v := by
        intro k v hk
        obtain ⟨g1, g2⟩ := get_filter_early hk
        refine ⟨g1, h.s1 k v g1 (fun w hw hLw => ?_)⟩
        exact hn (h.closure hok w hLw i (g2 w hw))
      have hc1 : (isM.filter (fun m => clo l i m)).length ≤ (isM.filter (fun m => L[m]? == some true)).length :=
        filter_len_le isM (fun m _ hp => by simp [hclo m hp])
      have hc3 : (isM.filter (fun m => L[m]? == some true)).length ≤ (isM.filter (fun m => !clo l m i)).length :=
        filter_len_le isM (fun m _ hp => by
          cases hcm : clo l m i with
          | false => rfl
          | true => exact absurd (h.closure hok m (by simpa using hp) i hcm) hn)
      have hc2 : isM.contains i = true → (isM.filter (fun m => L[m]? == some true)).length = (isM.filter (fun m => Nat.blt m i)).length := by
        intro hc
        have hiM : i ∈ isM := by simpa using hc
        refine filter_len_eq isM (fun m hmM => ?_)
        rcases Nat.lt_trichotomy m i with hlt | heq | hgt
        · have h1 := hclo m (m3' m hmM i hiM hlt)
          simp [h1, Nat.blt_eq, hlt]
        · subst heq
          have h2 : (L[m]? == some true) = false := by simpa using hn
          rw [h2]
          cases hb : Nat.blt m m with
          | false => rfl
          | true =>
            simp at hb
        · have h2 : ¬ L[m]? = some true := fun hLm => hn (h.closure hok _ hLm i (by simpa using m3' i hiM m hmM hgt))
          have h3 : (L[m]? == some true) = false := by simpa using h2
          have h4 : Nat.blt m i = false := by
            cases hb : Nat.blt m i with
            | false => rfl
            | true =>
              have : m < i := by simpa [Nat.blt_eq] using hb
              omega
          rw [h3, h4]
      have hcount : ∀ c', (bif isM.contains i then (isM.filter (fun m => L[m]? == some true)).length + 1 else (isM.filter (fun m => L[m]? == some true)).length) = c' →
          (isM.filter (fun m => (L.setIfInBounds i true)[m]? == some true)).length = c' := by
        intro c' hc'
        cases hc : isM.contains i with
        | true =>
          rw [hc] at hc'
          simp only [cond_true] at hc'
          rw [← hc']
          refine filter_add isM m1 (by simpa using hc) (by simpa using hn) (by simp [setB _ hiL]) (fun m _ hne => ?_)
          rw [Array.getElem?_setIfInBounds_ne (fun e => hne e.symm)]
        | false =>
          rw [hc] at hc'
          simp only [cond_false] at hc'
          rw [← hc']
          refine filter_len_eq isM (fun m hmM => ?_)
          have hne : i ≠ m := by
            intro e
            subst e
            have : isM.contains i = true := by simpa using hmM
            rw [this] at hc
            cases hc
          rw [Array.getElem?_setIfInBounds_ne hne]
      rw [wpOp_of ho]
      have hdeps : ∃ S9, Ext S0 S9 ∧ Ext (early l S1 i) S9 ∧ DepsAre S9 l (V x) (afters o) ∧ Sl n S9 a := by
        have build : ∀ (ds : List Nat), (∀ j ∈ ds, L[j]? = some true) → ∃ S9, Ext S0 S9 ∧ Ext (early l S1 i) S9 ∧ DepsAre S9 l (V x) ds ∧ Sl n S9 a := by
          intro ds
          induction ds with
          | nil =>
            intro _
            have hg : ∀ k v, get (early l S1 i ++ S0) k = some v → k < n ∧ a.tmps.getD k undef = v := by
              intro k v hk
              rw [get_append] at hk
              cases he : get (early l S1 i) k with
              | none => rw [he] at hk; exact h.s0.g k v hk
              | some v' => rw [he] at hk; cases hk; exact (hearly k v he).2
            refine ⟨early l S1 i ++ S0, fun k v hk => ?_, fun k v hk => ?_, trivial, ⟨h.s0.sz, h.s0.df, hg⟩⟩
            · rw [get_append]
              cases he : get (early l S1 i) k with
              | none => exact hk
              | some v' =>
                have h1 := (hearly k v' he).2.2
                have h2 := (h.s0.g k v hk).2
                rw [← h1, h2]; rfl
            · rw [get_append, hk]; rfl
          | cons j ds ihd =>
            intro hds
            obtain ⟨S9, e1, e5, e2, e3⟩ := ihd (fun k hk => hds k (List.mem_cons_of_mem _ hk))
            cases hd : dstOf l j with
            | none => exact ⟨S9, e1, e5, ⟨by simp [hd], e2⟩, e3⟩
            | some d =>
              obtain ⟨v1, v2⟩ := h.vals j d (hds j (by simp)) hd
              have key : ∀ k v, get ((d, V x j) :: S9) k = some v → k < n ∧ a.tmps.getD k undef = v := by
                intro k v hk
                by_cases e : d = k
                · subst e
                  rw [get_cons_same] at hk
                  cases hk
                  exact ⟨v1, v2⟩
                · rw [get_cons_ne e] at hk
                  exact e3.g k v hk
              have hext : ∀ k v, get S9 k = some v → get ((d, V x j) :: S9) k = some v := by
                intro k v hk
                by_cases e : d = k
                · subst e
                  rw [get_cons_same]
                  rw [← (e3.g d v hk).2, v2]
                · rw [get_cons_ne e]
                  exact hk
              refine ⟨(d, V x j) :: S9, fun k v hk => hext k v (e1 k v hk), fun k v hk => hext k v (e5 k v hk), ⟨by simp only [hd]; exact get_cons_same _ _ _, ?_⟩, ⟨e3.sz, e3.df, key⟩⟩
              have up : ∀ (ds' : List Nat), DepsAre S9 l (V x) ds' → DepsAre ((d, V x j) :: S9) l (V x) ds' := by
                intro ds'
                induction ds' with
                | nil => intro _; trivial
                | cons q ds' ihq =>
                  intro hq
                  refine ⟨?_, ihq hq.2⟩
                  have := hq.1
                  cases hdq : dstOf l q with
                  | none => trivial
                  | some dq =>
                    rw [hdq] at this
                    exact hext _ _ this
              exact up ds e2
        exact build (afters o) hL
      obtain ⟨S9, e1, e5, e2, e3⟩ := hdeps
      have run : (match o.guard with | none => True | some (j, b) => V x j = .bool b) →
          o.wp P a w (wpAny P .any l.toArray Q fuel (L.setIfInBounds i true)) Q ∨ (o.asks P a w ∧ LetsOut Q) := by
        intro hg
        have h1 := one_of_TOps (hO1 x S9 _ e1 e5 e2 hc1 hc3 hc2 hg) e3 h.mem
        rcases h1 with h1 | h1
        · refine .inl ?_
          have hw : ∀ (r : Result Next), o.upon P a (fun a' w' => ∃ x', (∀ j, j ≠ i → clo l j i = false → V x' j = V x j) ∧
              Sl n (match dstOf l i with | some d => (d, V x' i) :: S9 | none => S9) a' ∧ Mem (Hs x' (bif isM.contains i then (isM.filter (fun m => L[m]? == some true)).length + 1 else (isM.filter (fun m => L[m]? == some true)).length)) w') Q r →
              (∀ d, r ≠ .ok (.defer d) w → True) → o.upon P a (wpAny P .any l.toArray Q fuel (L.setIfInBounds i true)) Q r := by
            intro r hr _
            have put : ∀ v w', (∃ x', (∀ j, j ≠ i → clo l j i = false → V x' j = V x j) ∧
              Sl n (match dstOf l i with | some d => (d, V x' i) :: S9 | none => S9) (a.put o.dst v) ∧ Mem (Hs x' (bif isM.contains i then (isM.filter (fun m => L[m]? == some true)).length + 1 else (isM.filter (fun m => L[m]? == some true)).length)) w') →
              wpAny P .any l.toArray Q fuel (L.setIfInBounds i true) (a.put o.dst v) w' := by
              rintro v w' ⟨x', hx', hS', hM'⟩
              refine next x' _ w' (h.step hok ho hL hn hx' (fun d hd => ?_) (by rw [hcount _ rfl]; exact hM'))
              have hdi : dstOf l i = some d := by simp [dstOf, ho, hd]
              rw [hdi] at hS'
              have := (hS'.g d _ (get_cons_same _ _ _)).2
              rw [hd] at this
              have hdn := (a3 d hd).1
              simp [Act.put, e3.sz, hdn] at this
              exact this
            cases r with
            | ok y w' =>
              cases y <;> simp only [Oper.upon] at hr ⊢ <;>
                first
                  | exact put _ _ hr
                  | exact Calls.mono hr (fun e w'' he => by cases e <;> first | exact put _ _ he | exact he)
                  | exact Rows.mono hr (fun _ _ he => put _ _ he)
                  | (exfalso
                     obtain ⟨x', _, hS', _⟩ := hr
                     have := hS'.df
                     cases hdd : o.dst <;> simp [Act.put, hdd] at this)
            | halt y w' => cases y <;> simp only [Oper.upon] at hr ⊢ <;> exact hr
          exact hw _ h1 (fun _ _ => trivial)
        · exact .inr h1
      cases hgd : o.guard with
      | none =>
        have hw : Region.wanted o (yielded l.toArray a.tmps) = true := by simp [Region.wanted, hgd]
        rw [if_pos hw]
        exact run (by rw [hgd]; trivial)
      | some jb =>
        obtain ⟨j, b⟩ := jb
        rw [hgd] at hO2
        obtain ⟨⟨d, hd⟩, hO3⟩ := hO2
        have hjL := hL j (a2 j b hgd).1
        obtain ⟨dj, hdj⟩ := (a2 j b hgd).2
        have hyld : ∀ g, V x j = .bool g → dstOf l j = some dj → Region.wanted o (yielded l.toArray a.tmps) = (g == b) := by
          intro g hg hdj
          obtain ⟨v1, v2⟩ := h.vals j dj hjL hdj
          have : a.tmps[dj]? = some (.bool g) := by
            rw [Array.getElem?_eq_getElem (by rw [h.s0.sz]; exact v1)]
            rw [Array.getD_eq_getD_getElem?, Array.getElem?_eq_getElem (by rw [h.s0.sz]; exact v1), hg] at v2
            simpa using v2
          have hA : (l.toArray[j]?).bind (·.dst) = some dj := by simpa [dstOf] using hdj
          simp only [Region.wanted, hgd, Go.yielded, hA, Option.bind_some, this]
          cases g <;> cases b <;> rfl
        have hyldT : ∀ vs, V x j = .tuple vs → Region.wanted o (yielded l.toArray a.tmps) = false := by
          intro vs hg
          obtain ⟨v1, v2⟩ := h.vals j dj hjL hdj
          have : a.tmps[dj]? = some (.tuple vs) := by
            rw [Array.getElem?_eq_getElem (by rw [h.s0.sz]; exact v1)]
            rw [Array.getD_eq_getD_getElem?, Array.getElem?_eq_getElem (by rw [h.s0.sz]; exact v1), hg] at v2
            simpa using v2
          have hA : (l.toArray[j]?).bind (·.dst) = some dj := by simpa [dstOf] using hdj
          simp only [Region.wanted, hgd, Go.yielded, hA, Option.bind_some, this]
          rfl
        have skip : isM.contains i = false → V x i = undef → Region.wanted o (yielded l.toArray a.tmps) = false → (if Region.wanted o (yielded l.toArray a.tmps) then o.wp P a w (wpAny P .any l.toArray Q fuel (L.setIfInBounds i true)) Q ∨ (o.asks P a w ∧ LetsOut Q) else wpAny P .any l.toArray Q fuel (L.setIfInBounds i true) (a.put o.dst undef) w) := by
          intro hnm hu hw
          rw [hw]
          simp only [Bool.false_eq_true, if_false]
          refine next x _ w (h.step hok ho hL hn (fun _ _ _ => rfl) (fun _ _ => hu.symm) ?_)
          rw [hcount (isM.filter (fun m => L[m]? == some true)).length (by rw [hnm]; rfl)]
          exact h.mem
        rcases hO3 with ⟨hnm, hv⟩ | hv
        · rcases hv x with hv | ⟨hv | ⟨vs, hv⟩, hu⟩
          · rw [if_pos (by rw [hyld b hv hdj]; simp)]
            exact run (by rw [hgd]; exact hv)
          · exact skip hnm hu (by rw [hyld _ hv hdj]; cases b <;> rfl)
          · exact skip hnm hu (hyldT vs hv)
        · rw [if_pos (by rw [hyld b (hv x) hdj]; simp)]
          exact run (by rw [hgd]; exact hv x)
  refine main l.toArray.size (List.range l.length) (Array.replicate l.toArray.size false) x0 a0 _ List.nodup_range (fun i hi _ => List.mem_range.2 hi) (by simp) ⟨by simp, ?_, ⟨(hS.weak hs).sz, (hS.weak hs).df, (hS.weak hs).g⟩, fun k v hk _ => (hS.weak hs1).g k v hk, ?_, ?_⟩
  · intro j o hj hLj
    simp [Array.getElem?_replicate] at hLj
  · intro j d hLj
    simp [Array.getElem?_replicate] at hLj
  · have hz : (isM.filter (fun m => (Array.replicate l.toArray.size false)[m]? == some true)).length = 0 := by
      rw [List.length_eq_zero_iff, List.filter_eq_nil_iff]
      intro m _
      simp [Array.getElem?_replicate]
    rw [hz]
    exact (hl w0 hM).same (fun e _ => ⟨rfl, rfl, rfl, Nat.le_refl _, fun _ _ => rfl⟩)
def selS (l : List Oper) (v : Nat → Value) (S0 : List (Nat × Value)) : List Nat → List (Nat × Value)
  | [] => S0
  | j :: r => match dstOf l j with | some d => (d, v j) :: selS l v S0 r | none => selS l v S0 r
theorem Tri.drawN {X : Type} {id : Nat} {l : List Oper} (hm : P.follows .mixedOrders = true) (S0 S1 : List (Nat × Value)) (V : X → Nat → Value) (Hs : X → Nat → List Ent) (isM : List Nat) (x0 : X) (sel : List Nat)
    (hok : drawOk n S0 l = true) (hMok : isMOk l isM = true) (hs : Has S S0) (hs1 : Has S S1) (hl : Le H (Hs x0 0))
    (hob : Obs P n S0 S1 l V Hs isM Q 0 l)
    (hq : ∀ x, Nrm n (selS l (V x) S0 sel) (Hs x isM.length) Q) : Tri P n S H (.region id l.toArray true) Q := by
  refine Tri.draw hm S0 S1 V Hs isM x0 hok hMok hs hs1 hl hob (fun x a w hS hv hM => hq x a w ?_ hM)
  refine ⟨hS.sz, hS.df, ?_⟩
  clear hq
  induction sel with
  | nil => exact hS.g
  | cons j r ih =>
    intro k v hk
    unfold selS at hk
    cases hd : dstOf l j with
    | none => rw [hd] at hk; exact ih k v hk
    | some d =>
      rw [hd] at hk
      by_cases e : d = k
      · subst e
        rw [get_cons_same] at hk
        cases hk
        exact hv j d hd
      · rw [get_cons_ne e] at hk
        exact ih k v hk
theorem Nrm.draw {X : Type} {l : List Oper} {V : X → Nat → Value} {Hs : X → Nat → List Ent} {i c' : Nat} {x : X} {S1 : List (Nat × Value)} {H1 : List Ent} (x' : X)
    (hx : ∀ j, j ≠ i → clo l j i = false → V x' j = V x j) (hS : S1 = (match dstOf l i with | some d => (d, V x' i) :: S | none => S)) (hl : Le H1 (Hs x' c')) :
    Nrm n S1 H1 (DQ n S l V Hs i c' x Q) := by
  intro a w h1 h2
  refine ⟨x', hx, ?_, hl w h2⟩
  rw [← hS]
  exact h1
end
end Go.GL
namespace Go.GL
set_option linter.unusedVariables false
structure Fm.Good (F : Fm) : Prop where
  v0 : 0 ≤ F.vars
  v1 : F.vars ≤ 24
  n1 : F.nodes.length ≤ 128
  node : ∀ i (h : i < F.nodes.length), nodeErr F.vars i F.nodes[i] = none
  top : F.valid F.top = true
theorem nodesErr_none_iff (vars : Int) : ∀ (l : List Nd) (i : Nat), nodesErr vars i l = none ↔ ∀ j (h : j < l.length), nodeErr vars ((i + j : Nat) : Int) l[j] = none := by
  intro l i
  refine ⟨?_, nodesErr_none vars l i⟩
  induction l generalizing i with
  | nil => intro _ j h; simp at h
  | cons d r ih =>
    intro h j hj
    cases he : nodeErr vars i d with
    | some e => simp [nodesErr, he] at h
    | none =>
      simp only [nodesErr, he] at h
      cases j with
      | zero => simpa using he
      | succ j =>
        have := ih (i + 1) h j (by simpa using hj)
        rw [show i + 1 + j = i + (j + 1) by omega] at this
        simpa using this
theorem Fm.good_iff (F : Fm) : F.err = none ↔ F.Good := by
  unfold Fm.err
  constructor
  · intro h
    split at h
    · cases h
    · split at h
      · cases h
      · rename_i h1 h2
        cases hn : nodesErr F.vars 0 F.nodes with
        | some e => rw [hn] at h; cases h
        | none =>
          rw [hn] at h
          simp only at h
          split at h
          · rename_i h3
            have h4 := (nodesErr_none_iff F.vars F.nodes 0).1 hn
            exact ⟨by omega, by omega, by omega, fun i hi => by simpa using h4 i hi, h3⟩
          · cases h
  · intro h
    have hn := (nodesErr_none_iff F.vars F.nodes 0).2 (fun j hj => by simpa using h.node j hj)
    have h0 := h.v0; have h1 := h.v1; have h2 := h.n1
    rw [if_neg (by omega), if_neg (by omega), hn]
    simp [h.top]
structure Nd.Fits (d : Nd) (m : Int) : Prop where
  k0 : 0 ≤ d.kind
  k1 : d.kind ≤ 5
  ar : argsB d.kind d.args.length = true
  args : ∀ a ∈ d.args, 0 ≤ a ∧ a < m
  kk : (d.kind = 0 → d.k = 0 ∨ d.k = 1) ∧ (d.kind = 4 → 1 ≤ d.k ∧ d.k ≤ d.args.length) ∧ (d.kind ≠ 0 → d.kind ≠ 4 → d.k = 0)
theorem nodeErr_none {vars i : Int} {d : Nd} : nodeErr vars i d = none ↔ d.Fits (vars + i) := by
  unfold nodeErr
  constructor
  · intro h
    split at h
    · cases h
    rename_i h1
    split at h
    · cases h
    rename_i h2
    split at h
    · cases h
    rename_i h3
    refine ⟨by omega, by omega, by simpa using h2, ?_, ?_⟩
    · intro a ha
      have : ¬ (d.args.any fun a => decide (a < 0) || decide (vars + i ≤ a)) = true := h3
      rw [List.any_eq_true] at this
      have h4 : ¬ ((decide (a < 0) || decide (vars + i ≤ a)) = true) := fun h => this ⟨a, ha, h⟩
      simp at h4
      omega
    · split at h
      · rename_i h4
        split at h
        · cases h
        · refine ⟨fun _ => by omega, fun h => by omega, fun h => absurd h4 h⟩
      · split at h
        · split at h
          · cases h
          · refine ⟨fun h => by omega, fun _ => by omega, fun _ h => absurd ‹_› h⟩
        · split at h
          · cases h
          · refine ⟨fun h => by omega, fun h => by omega, fun _ _ => by omega⟩
  · intro h
    have h0 := h.k0; have h1 := h.k1
    rw [if_neg (by omega), if_neg (by rw [h.ar]; decide), if_neg]
    · obtain ⟨a, b, c⟩ := h.kk
      split
      · rename_i h4
        have := a h4
        rw [if_neg (by omega)]
      · split
        · rename_i h5
          have := b h5
          rw [if_neg (by omega)]
        · rename_i h4 h5
          rw [if_neg (by have := c h4 h5; omega)]
    · rw [List.any_eq_true]
      rintro ⟨a, ha, h2⟩
      have := h.args a ha
      simp at h2
      omega
theorem Fm.Good.fits {F : Fm} (h : F.Good) (i : Nat) (hi : i < F.nodes.length) : F.nodes[i].Fits (F.vars + i) := nodeErr_none.1 (h.node i hi)
theorem Nd.Fits.len {d : Nd} {m : Int} (h : d.Fits m) : d.args.length ≤ 16 := by
  have := h.ar
  unfold argsB at this
  split at this
  · simp at this; simp [this]
  · split at this <;> simp at this <;> omega
theorem Fm.Good.topLt {F : Fm} (h : F.Good) : 0 ≤ F.top ∧ F.top < F.vars + F.nodes.length := by
  have := h.top
  simp [Fm.valid] at this
  omega
def bitB (z : Int) (i : Nat) : Bool := decide (iand (ishr z i) 1 = 1)
def nodeVal (d : Nd) (c : Int) : Bool :=
  if d.kind = 0 then decide (d.k = 1) else if d.kind = 1 then decide (c = 0) else if d.kind = 2 then decide (c = d.args.length)
  else if d.kind = 3 then decide (0 < c) else if d.kind = 4 then decide (d.k ≤ c) else if d.kind = 5 then decide (c.tmod 2 = 1) else false
def cnt (v : List Bool) (args : List Int) : Nat := args.countP (fun a => v.getD a.toNat false)
def valsFrom (v : List Bool) : List Nd → List Bool
  | [] => v
  | d :: r => valsFrom (v ++ [nodeVal d (cnt v d.args)]) r
def events (v : Nat) (failed : Int) : List Bool := (List.range v).map (bitB failed)
def Fm.values (F : Fm) (failed : Int) : List Bool := valsFrom (events F.vars.toNat failed) F.nodes
theorem valsFrom_append (l1 l2 : List Nd) : ∀ v, valsFrom v (l1 ++ l2) = valsFrom (valsFrom v l1) l2 := by
  induction l1 with
  | nil => intro v; rfl
  | cons d r ih => intro v; exact ih _
theorem valsFrom_length (l : List Nd) : ∀ v, (valsFrom v l).length = v.length + l.length := by
  induction l with
  | nil => intro v; rfl
  | cons d r ih => intro v; simp [valsFrom, ih]; omega
theorem events_length (v : Nat) (f : Int) : (events v f).length = v := by simp [events]
theorem values_take_succ {v : List Bool} {l : List Nd} {k : Nat} (hk : k < l.length) :
    valsFrom v (l.take (k + 1)) = valsFrom v (l.take k) ++ [nodeVal l[k] (cnt (valsFrom v (l.take k)) l[k].args)] := by
  rw [List.take_succ_eq_append_getElem hk, valsFrom_append]
  rfl
theorem cnt_take_succ {v : List Bool} {l : List Int} {k : Nat} (hk : k < l.length) :
    cnt v (l.take (k + 1)) = cnt v (l.take k) + (if v.getD l[k].toNat false then 1 else 0) := by
  unfold cnt
  rw [List.take_succ_eq_append_getElem hk, List.countP_append]
  simp [List.countP_cons, List.countP_nil]
theorem cnt_le (v : List Bool) (l : List Int) : cnt v l ≤ l.length := List.countP_le_length
abbrev bools (l : List Bool) : List Value := l.map Value.bool
theorem bools_get {l : List Bool} {i : Nat} (hi : i < l.length) : (bools l)[i]? = some (.bool (l.getD i false)) := by
  simp [hi]
theorem fill_set {α : Type} {v k : Nat} (f : Nat → α) (z : α) (hk : k < v) : ((List.range k).map f ++ List.replicate (v - k) z).set k (f k) = (List.range (k + 1)).map f ++ List.replicate (v - (k + 1)) z := by
  rw [List.set_append_right _ _ (by simp)]
  simp only [List.length_map, List.length_range, Nat.sub_self, List.range_succ, List.map_append, List.map_cons, List.map_nil, List.append_assoc, List.cons_append, List.nil_append]
  congr 1
  rw [show v - k = (v - (k + 1)) + 1 by omega, List.replicate_succ]
  rfl
end Go.GL
namespace Go.GL
set_option linter.unusedVariables false
set_option linter.unusedSimpArgs false
section
variable {P : Program} {n : Nat} {S : List (Nat × Value)} {H : List Ent} {A : Array Oper} {Q : Exit → Act → World → Prop}
theorem TOps.max2 {d x y t U p e rest} {k : IntKind} {a b : Int} (hx : opv S x = some (.int k a)) (hy : opv S y = some (.int k b)) (hn : Nat.blt d n = true)
    (h : TOps P n ((d, .int k (if b > a then b else a)) :: S) H rest A Q) : TOps P n S H (⟨some d, .call ⟨.builtin .max, #[x, y], t⟩, U, p, e, none⟩ :: rest) A Q :=
  TOps.pure rfl rfl hn (fun ac w hS _ => by simp [execOp, hS.eval hx, hS.eval hy, resolve, invoke, builtin, Builtin.max_, Builtin.max2]) h
theorem run_equal_slnil {T E : TypeId} (hT : P.underlying T = some (.slice E)) (a : Option Addr) (n c : Nat) (w : World) : (Op.equal T (.slice a n c) (.slice none 0 0)).run P w = .ok a.isNone w := by
  have key : ∀ d, (Op.equalIn (d + 1) T (.slice a n c) (.slice none 0 0)).run P w = .ok a.isNone w := by
    intro d
    cases a <;> simp [Op.equalIn, run_underlying hT]
  unfold Op.equal
  rw [show Op.maxDepth = 9999 + 1 from rfl]
  exact key 9999
theorem TOps.eqlSlNil {d T x T' U p e rest} {E : TypeId} {a sp : Option Nat} {off m c : Nat} (hx : opv S x = some (slV a off m c sp)) (hT : P.underlying T = some (.slice E)) (hn : Nat.blt d n = true)
    (h : TOps P n ((d, .bool a.isNone) :: S) H rest A Q) : TOps P n S H (⟨some d, .binOp .eql T x (.const (.slice none 0 0)) T', U, p, e, none⟩ :: rest) A Q :=
  TOps.pure rfl rfl hn (fun ac w hS _ => by
    have hk : ac.eval (.const (.slice none 0 0)) = .slice none 0 0 := rfl
    have he := run_equal_slnil (P := P) hT (a.map fun b => (⟨b, off, sp⟩ : Addr)) m c w
    have hx' : ac.eval x = .slice (a.map fun b => (⟨b, off, sp⟩ : Addr)) m c := hS.eval hx
    have hb : binOp .eql T (.slice (a.map fun b => (⟨b, off, sp⟩ : Addr)) m c) (.slice none 0 0) = (Functor.map Value.bool (Op.equal T (.slice (a.map fun b => (⟨b, off, sp⟩ : Addr)) m c) (.slice none 0 0))) := by
      simp [binOp]
    simp only [execOp, hx', hk, hb]
    cases a <;> simp at he <;> simp [eqGuard, he]) h
theorem foldl_setL (cs : List Value) (off : Nat) : ∀ (k : Nat) (cells : List Value), (cs.zipIdx k).foldl (fun (acc : Array Value) (q : Value × Nat) => acc.setIfInBounds (off + q.2) q.1) cells.toArray = (setL cells (off + k) cs).toArray := by
  induction cs with
  | nil => intro k cells; rfl
  | cons c cs ih =>
    intro k cells
    simp only [List.zipIdx_cons, List.foldl_cons, setL]
    rw [List.setIfInBounds_toArray, ih (k + 1) (cells.set (off + k) c)]
    rfl
def fillL (pl : List (Nat × Nat)) : List Value → List (Nat × Value) → Option (List Value)
  | cells, [] => some cells
  | cells, (i, v) :: r => match pl[i]? with
    | none => none
    | some q => match Nat.beq v.cells.toList.length q.2 && Nat.ble (q.1 + q.2) cells.length with
      | true => fillL pl (setL cells q.1 v.cells.toList) r
      | false => none
theorem fillL_eq {pl : List (Nat × Nat)} : ∀ (vs : List (Nat × Value)) (cells xs : List Value), fillL pl cells vs = some xs → Instr.fill (pl.toArray[·]?) cells.toArray vs = some xs.toArray
  | [], cells, xs, h => by simp [fillL] at h; simp [Instr.fill, h]
  | (i, v) :: r, cells, xs, h => by
    unfold fillL at h
    cases hp : pl[i]? with
    | none => simp [hp] at h
    | some q =>
      simp only [hp] at h
      cases hb : (Nat.beq v.cells.toList.length q.2 && Nat.ble (q.1 + q.2) cells.length) with
      | false => rw [hb] at h; cases h
      | true =>
        rw [hb] at h
        simp only at h
        simp only [Bool.and_eq_true] at hb
        have h1 : v.cells.size = q.2 := by simpa using Nat.eq_of_beq_eq_true hb.1
        have h2 : q.1 + q.2 ≤ cells.length := by simpa [Nat.ble_eq] using hb.2
        have ih := fillL_eq r _ _ h
        have hz := foldl_setL v.cells.toList q.1 0 cells
        obtain ⟨off, size⟩ := q
        simp only at h1 h2 hz ih
        simp only [Instr.fill, List.getElem?_toArray, hp]
        rw [if_neg (by simp [h1]; omega)]
        have hz' : (v.cells.zipIdx.foldl (fun cs (x : Value × Nat) => match x with | (c, k) => cs.setIfInBounds (off + k) c) cells.toArray) = (setL cells off v.cells.toList).toArray := by
          rw [← Array.foldl_toList, Array.toList_zipIdx]
          exact hz
        rw [hz']
        simpa using ih
theorem TOps.buildStruct {d T U p e rest} {parts : List (Nat × Operand)} {vs : List (Nat × Value)} {fs : Array Field} {zs : List Value} {sz y : Nat} {xs : List Value} (pl : List (Nat × Nat))
    (hT : P.underlying T = some (.struct fs)) (ht : TI P T true zs sz y) (hpl : ∀ w, (fs.mapM (fun f => do Pure.pure (f.offset, ← sizeOf f.type) : Field → Sem (Nat × Nat))).run P w = .ok pl.toArray w)
    (hp : PartsAre S parts vs) (hf : fillL pl zs vs = some xs) (hn : Nat.blt d n = true)
    (h : TOps P n ((d, .agg xs.toArray) :: S) H rest A Q) : TOps P n S H (⟨some d, .build T parts.toArray, U, p, e, none⟩ :: rest) A Q :=
  TOps.pure rfl rfl hn (fun ac w hS _ => by
    obtain ⟨i, z, h1, h2, h3, h4, h5⟩ := ht.i
    have hfill := fillL_eq vs zs xs hf
    have he := hp.eval hS
    have hq : (Array.map (fun x : Nat × Operand => (x.1, ac.eval x.2)) parts.toArray).toList = vs := by simpa using he
    simp only [execOp, Instr.build, Sem.run_bind, zeroValue, typeInfo, run_program, Result.andThen_ok, h1, h2, Sem.run_pure, run_underlying hT, h3]
    rw [hpl w]
    simp only [Result.andThen_ok]
    rw [hq, hfill]
    rfl) h
theorem Tri.exitW {X : Type} {id : Nat} {K : Act → World → Prop} {Sx : X → List (Nat × Value)} {Hx : X → List Ent} {p : X → Prop} {μ : X → Nat} {x : X} (h : Nrm n S H Q) :
    Tri P n S H (.exit id) (Exit.then K (LoopQ n Sx Hx p μ x (Exit.inBlock id Q))) :=
  Tri.exit fun a w hS hM => by
    simp only [Exit.then, LoopQ, Exit.inBlock, if_true]
    exact h a w hS hM
theorem TOps.rowCap {l : List Oper} {b E sz cap : Nat} {xs : List Value} (hm : row (some b) E sz cap xs ∈ H) (h : xs.length ≤ cap * sz → TOps P n S H l A Q) : TOps P n S H l A Q := by
  intro a w hS hM
  refine h ?_ a w hS hM
  have := hM.ok _ hm
  unfold row at this
  obtain ⟨sp, _, h2, _⟩ := this
  omega
end
theorem emod64 {a : Nat} (h : a < 9223372036854775808) : ((a : Int) % 18446744073709551616).toNat = a := by omega
theorem iand_nat {a b : Nat} (ha : a < 9223372036854775808) (hb : b < 9223372036854775808) : iand a b = ((a &&& b : Nat) : Int) := by
  unfold iand
  have h : (BitVec.ofInt 64 (a : Int) &&& BitVec.ofInt 64 (b : Int)).toNat = a &&& b := by
    simp only [BitVec.toNat_and, BitVec.toNat_ofInt]
    rw [show ((2 ^ 64 : Nat) : Int) = 18446744073709551616 by decide, emod64 ha, emod64 hb]
  rw [h, wrapI (by omega)]
  have : a &&& b ≤ a := Nat.and_le_left
  omega
theorem ior_nat {a b : Nat} (ha : a < 9223372036854775808) (hb : b < 9223372036854775808) : ior a b = ((a ||| b : Nat) : Int) := by
  unfold ior
  have h : (BitVec.ofInt 64 (a : Int) ||| BitVec.ofInt 64 (b : Int)).toNat = a ||| b := by
    simp only [BitVec.toNat_or, BitVec.toNat_ofInt]
    rw [show ((2 ^ 64 : Nat) : Int) = 18446744073709551616 by decide, emod64 ha, emod64 hb]
  have hlt : a ||| b < 2 ^ 63 := Nat.or_lt_two_pow (by simpa using ha) (by simpa using hb)
  rw [h, wrapI (by omega)]
  have : (2 : Nat) ^ 63 = 9223372036854775808 := by decide
  omega
theorem ishr_nat {a k : Nat} (hk : k ≤ 64) : ishr a k = ((a >>> k : Nat) : Int) := by
  unfold ishr
  rw [Nat.min_eq_left hk, Nat.shiftRight_eq_div_pow]
  rw [Int.fdiv_eq_ediv_of_nonneg _ (by exact Int.le_of_lt (Int.pow_pos (by decide)))]
  norm_cast
theorem ishl_one {k : Nat} (hk : k < 63) : ishl 1 k = ((2 ^ k : Nat) : Int) := by
  unfold ishl
  rw [Nat.min_eq_left (by omega), Int.one_mul]
  have h : (2 : Nat) ^ k ≤ 2 ^ 62 := Nat.pow_le_pow_right (by decide) (by omega)
  have e : ((2 : Int) ^ k) = ((2 ^ k : Nat) : Int) := by norm_cast
  have h62 : (2 : Nat) ^ 62 = 4611686018427387904 := by decide
  rw [e]
  generalize (2 : Nat) ^ k = q at *
  exact wrapI (by omega) (by omega)
theorem bitB_nat {a i : Nat} (ha : a < 9223372036854775808) (hi : i ≤ 64) : bitB a i = a.testBit i := by
  unfold bitB
  rw [ishr_nat hi, show (1 : Int) = ((1 : Nat) : Int) from rfl, iand_nat (Nat.lt_of_le_of_lt (Nat.shiftRight_le _ _) ha) (by decide)]
  simp only [Nat.testBit, Nat.and_comm 1]
  have h := Nat.and_one_is_mod (a >>> i)
  rw [h]
  have h2 : (a >>> i) % 2 < 2 := Nat.mod_lt _ (by decide)
  by_cases h1 : (a >>> i) % 2 = 1
  · simp [h1]
  · have h0 : (a >>> i) % 2 = 0 := by omega
    simp [h0]
def markArgs (m : List Bool) (args : List Int) : List Bool := args.foldl (fun m a => m.set a.toNat true) m
def belowL (v : Nat) (nodes : List Nd) : Nat → List Bool → List Bool
  | 0, m => m
  | i + 1, m => belowL v nodes i (bif m.getD (v + i) false then markArgs m (nodes.getD i ⟨0, 0, []⟩).args else m)
def Fm.below (F : Fm) : List Bool := belowL F.vars.toNat F.nodes F.nodes.length ((List.replicate (F.vars.toNat + F.nodes.length) false).set F.top.toNat true)
theorem markArgs_length (args : List Int) : ∀ m, (markArgs m args).length = m.length := by
  induction args with
  | nil => intro m; rfl
  | cons a r ih => intro m; have := ih (m.set a.toNat true); simpa [markArgs] using this
theorem belowL_length (v : Nat) (nodes : List Nd) : ∀ i m, (belowL v nodes i m).length = m.length := by
  intro i
  induction i with
  | zero => intro m; rfl
  | succ i ih => intro m; unfold belowL; rw [ih]; cases m.getD (v + i) false <;> simp [markArgs_length]
theorem Fm.below_length (F : Fm) : F.below.length = F.vars.toNat + F.nodes.length := by
  simp [Fm.below, belowL_length]
theorem markArgs_take_succ {m : List Bool} {l : List Int} {k : Nat} (hk : k < l.length) : markArgs m (l.take (k + 1)) = (markArgs m (l.take k)).set l[k].toNat true := by
  unfold markArgs
  rw [List.take_succ_eq_append_getElem hk, List.foldl_append]
  rfl
def setOf (m : List Bool) : Nat → Nat
  | 0 => 0
  | k + 1 => bif m.getD k false then setOf m k ||| 2 ^ k else setOf m k
def Fm.support (F : Fm) : Nat := setOf F.below F.vars.toNat
def Fm.setErr (F : Fm) (failed : Int) : Option Int :=
  match F.err with
  | some e => some e
  | none => if failed < 0 ∨ ((2 ^ F.vars.toNat : Nat) : Int) ≤ failed then some 3 else none
def Fm.value (F : Fm) (failed : Int) : Bool := (F.values failed).getD F.top.toNat false
theorem Fm.setErr_none {F : Fm} {z : Int} (h : F.setErr z = none) : F.Good ∧ 0 ≤ z ∧ z < ((2 ^ F.vars.toNat : Nat) : Int) := by
  unfold Fm.setErr at h
  cases he : F.err with
  | some e => rw [he] at h; cases h
  | none =>
    rw [he] at h
    simp only at h
    split at h
    · cases h
    · exact ⟨(Fm.good_iff F).1 he, by omega, by omega⟩
def Fm.light (F : Fm) : Bool := decide (F.nodes.length ≤ 200) && F.nodes.all (fun d => decide (d.args.length ≤ 40))
def clipI (n lo hi : Int) : Int := if (if hi < n then hi else n) > lo then (if hi < n then hi else n) else lo
def NewF (F : Fm) (H : List Ent) : Value → List Ent → Prop := fun u H' => Le H' H ∧ H.Sublist H' ∧ RF H' u F
abbrev SA := Option Nat × Nat × Nat × Option Nat
def ndCells (d : Nd) (q : SA) : List Value := [.int .i64 d.kind, .int .i64 d.k, slV q.1 q.2.1 d.args.length q.2.2.1 q.2.2.2]
def nsCells : List Nd → List SA → List Value
  | d :: r, q :: s => ndCells d q ++ nsCells r s
  | _, _ => []
theorem nsCells_get : ∀ (ns : List Nd) (qs : List SA) (i : Nat) (d : Nd) (q : SA), ns[i]? = some d → qs[i]? = some q → ∀ j v, (ndCells d q)[j]? = some v → (nsCells ns qs)[i * 3 + j]? = some v
  | [], qs, i, d, q, h, _, j, v, _ => by simp at h
  | d :: r, [], i, d', q, _, h, j, v, _ => by simp at h
  | d :: r, q :: s, 0, d', q', h1, h2, j, v, hj => by
    simp at h1 h2
    subst h1 h2
    have hjl : j < (ndCells d q).length := (List.getElem?_eq_some_iff.1 hj).1
    rw [nsCells, Nat.zero_mul, Nat.zero_add, List.getElem?_append_left hjl]
    exact hj
  | d :: r, q :: s, i + 1, d', q', h1, h2, j, v, hj => by
    have ih := nsCells_get r s i d' q' (by simpa using h1) (by simpa using h2) j v hj
    rw [nsCells, List.getElem?_append_right (by simp [ndCells]; omega)]
    rw [show (i + 1) * 3 + j - (ndCells d q).length = i * 3 + j by simp [ndCells]; omega]
    exact ih
theorem nsCells_length : ∀ (ns : List Nd) (qs : List SA), qs.length = ns.length → (nsCells ns qs).length = ns.length * 3
  | [], [], _ => rfl
  | [], q :: s, h => by simp at h
  | d :: r, [], h => by simp at h
  | d :: r, q :: s, h => by
    have := nsCells_length r s (by simpa using h)
    simp [nsCells, this, ndCells]
    omega
theorem RNodes.ofRow {H : List Ent} {b E sz cap : Nat} {ns : List Nd} {qs : List SA} (hm : row (.some b) E sz cap (nsCells ns qs) ∈ H) (hl : qs.length = ns.length)
    (ha : ∀ (i : Nat) (d : Nd) (q : SA), ns[i]? = .some d → qs[i]? = .some q → RInts H q.1 q.2.1 d.args q.2.2.2) : RNodes H (.some b) 0 ns := by
  refine .inr ⟨b, rfl, rfl, fun i d hi => ?_⟩
  have hil : i < ns.length := (List.getElem?_eq_some_iff.1 hi).1
  have hq : qs[i]? = some qs[i] := List.getElem?_eq_getElem (by omega)
  refine ⟨qs[i].1, qs[i].2.1, qs[i].2.2.1, qs[i].2.2.2, ⟨Rd.ofRow hm _ _ (fun j v hj => ?_), ha i d _ hi hq⟩⟩
  rw [Nat.zero_add]
  exact nsCells_get ns qs i d qs[i] hi hq j v hj
theorem RInts.ofRow {H : List Ent} {b E sz cap : Nat} {xs : List Int} (hm : row (Option.some b) E sz cap (ints xs) ∈ H) : RInts H (Option.some b) 0 xs := RdS.ofRowS hm
end Go.GL
namespace Go.GL
set_option linter.unusedVariables false
theorem valsFrom_getD_lt (l : List Nd) : ∀ (v0 : List Bool) (j : Nat), j < v0.length → (valsFrom v0 l).getD j false = v0.getD j false := by
  induction l with
  | nil => intro v0 j _; rfl
  | cons d r ih =>
    intro v0 j hj
    rw [valsFrom, ih _ j (by simp; omega)]
    simp [List.getD_eq_getElem?_getD, List.getElem?_append_left hj]
theorem cnt_congr {v w : List Bool} {l : List Int} (h : ∀ a ∈ l, v.getD a.toNat false = w.getD a.toNat false) : cnt v l = cnt w l := by
  unfold cnt
  exact List.countP_congr (fun a ha => by rw [h a ha])
theorem valsFrom_node (l : List Nd) (v0 : List Bool) (i : Nat) (hi : i < l.length) (ha : ∀ a ∈ l[i].args, a.toNat < v0.length + i) :
    (valsFrom v0 l).getD (v0.length + i) false = nodeVal l[i] (cnt (valsFrom v0 l) l[i].args) := by
  have hsplit : l = l.take i ++ l[i] :: l.drop (i + 1) := by
    rw [List.getElem_cons_drop]
    simp
  have hlen : (valsFrom v0 (l.take i)).length = v0.length + i := by
    rw [valsFrom_length, List.length_take]
    omega
  have h1 : valsFrom v0 l = valsFrom (valsFrom v0 (l.take i) ++ [nodeVal l[i] (cnt (valsFrom v0 (l.take i)) l[i].args)]) (l.drop (i + 1)) := by
    conv => lhs; rw [hsplit]
    rw [valsFrom_append]
    rfl
  have h2 : cnt (valsFrom v0 (l.take i)) l[i].args = cnt (valsFrom v0 l) l[i].args := by
    refine cnt_congr fun a haa => ?_
    have hlt := ha a haa
    have h3 := valsFrom_getD_lt (l.drop (i + 1)) (valsFrom v0 (l.take i) ++ [nodeVal l[i] (cnt (valsFrom v0 (l.take i)) l[i].args)]) a.toNat (by rw [List.length_append, hlen, List.length_singleton]; omega)
    rw [h1, h3]
    rw [List.getD_eq_getElem?_getD, List.getD_eq_getElem?_getD, List.getElem?_append_left (show a.toNat < (valsFrom v0 (l.take i)).length by omega)]
  have h3 := valsFrom_getD_lt (l.drop (i + 1)) (valsFrom v0 (l.take i) ++ [nodeVal l[i] (cnt (valsFrom v0 (l.take i)) l[i].args)]) (v0.length + i) (by rw [List.length_append, hlen, List.length_singleton]; omega)
  rw [← h2, h1, h3, ← hlen]
  simp [List.getD_eq_getElem?_getD]
def Fm.val (F : Fm) (z : Int) (j : Nat) : Bool := (F.values z).getD j false
theorem Fm.val_event (F : Fm) (z : Int) {j : Nat} (hj : j < F.vars.toNat) : F.val z j = bitB z j := by
  unfold Fm.val Fm.values
  rw [valsFrom_getD_lt _ _ _ (by rw [events_length]; exact hj)]
  simp [events, hj]
theorem Fm.Good.argLt {F : Fm} (hg : F.Good) {i : Nat} (hi : i < F.nodes.length) : ∀ a ∈ F.nodes[i].args, a.toNat < F.vars.toNat + i := by
  intro a ha
  have := (hg.fits i hi).args a ha
  have := hg.v0
  omega
def cntOf (f : Nat → Bool) (args : List Int) : Nat := args.countP (fun a => f a.toNat)
theorem Fm.val_node {F : Fm} (hg : F.Good) (z : Int) {i : Nat} (hi : i < F.nodes.length) : F.val z (F.vars.toNat + i) = nodeVal F.nodes[i] (cntOf (F.val z) F.nodes[i].args) := by
  have := valsFrom_node F.nodes (events F.vars.toNat z) i hi (by rw [events_length]; exact hg.argLt hi)
  rw [events_length] at this
  exact this
theorem Fm.value_eq (F : Fm) (z : Int) : F.value z = F.val z F.top.toNat := rfl
theorem markArgs_getD (args : List Int) : ∀ (m : List Bool) (j : Nat), (markArgs m args).getD j false = (m.getD j false || (decide (j < m.length) && args.any (fun a => a.toNat == j))) := by
  induction args with
  | nil => intro m j; simp [markArgs]
  | cons a r ih =>
    intro m j
    have h := ih (m.set a.toNat true) j
    have e : markArgs m (a :: r) = markArgs (m.set a.toNat true) r := rfl
    rw [e, h]
    simp only [List.length_set, List.any_cons, List.getD_eq_getElem?_getD]
    by_cases hj : j < m.length
    · by_cases ha : a.toNat = j
      · subst ha
        simp [hj]
      · rw [List.getElem?_set_ne ha, show (a.toNat == j) = false from beq_eq_false_iff_ne.2 ha, Bool.false_or]
    · simp only [hj, decide_false, Bool.false_and, Bool.or_false]
      rw [List.getElem?_eq_none (by simp; omega), List.getElem?_eq_none (by omega)]
theorem belowL_mono (v : Nat) (nodes : List Nd) : ∀ (i : Nat) (m : List Bool) (j : Nat), m.getD j false = true → (belowL v nodes i m).getD j false = true := by
  intro i
  induction i with
  | zero => intro m j h; exact h
  | succ i ih =>
    intro m j h
    unfold belowL
    refine ih _ j ?_
    cases m.getD (v + i) false with
    | false => exact h
    | true => simp only [cond_true, markArgs_getD, h, Bool.true_or]
theorem belowL_same (v : Nat) (nodes : List Nd) (ha : ∀ (i : Nat) (h : i < nodes.length), ∀ a ∈ nodes[i].args, a.toNat < v + i) : ∀ (i : Nat), i ≤ nodes.length → ∀ (m : List Bool) (j : Nat), v + i ≤ j + 1 → (belowL v nodes i m).getD j false = m.getD j false := by
  intro i
  induction i with
  | zero => intro _ m j _; rfl
  | succ i ih =>
    intro hi m j hj
    unfold belowL
    rw [ih (by omega) _ j (by omega)]
    cases m.getD (v + i) false with
    | false => rfl
    | true =>
      simp only [cond_true, markArgs_getD]
      have hn : nodes.getD i ⟨0, 0, []⟩ = nodes[i] := by simp [show i < nodes.length by omega]
      rw [hn]
      have : (nodes[i].args.any fun a => a.toNat == j) = false := by
        rw [List.any_eq_false]
        intro a haa
        have := ha i (by omega) a haa
        have h2 : a.toNat ≠ j := by omega
        simp [h2]
      rw [this]; simp
theorem belowL_closed (v : Nat) (nodes : List Nd) (ha : ∀ (i : Nat) (h : i < nodes.length), ∀ a ∈ nodes[i].args, a.toNat < v + i) : ∀ (i : Nat), i ≤ nodes.length → ∀ (m : List Bool), m.length = v + nodes.length →
    ∀ (k : Nat) (hk : k < nodes.length), k < i → (belowL v nodes i m).getD (v + k) false = true → ∀ a ∈ nodes[k].args, (belowL v nodes i m).getD a.toNat false = true := by
  intro i
  induction i with
  | zero => intro _ m _ k _ hk; omega
  | succ i ih =>
    intro hi m hm k hkn hk hmark a haa
    unfold belowL at hmark ⊢
    have hlen : (bif m.getD (v + i) false then markArgs m (nodes.getD i ⟨0, 0, []⟩).args else m).length = v + nodes.length := by
      cases m.getD (v + i) false <;> simp [markArgs_length, hm]
    by_cases e : k = i
    · subst e
      rw [belowL_same v nodes ha k (by omega) _ _ (by omega)] at hmark
      refine belowL_mono v nodes k _ _ ?_
      have hn : nodes.getD k ⟨0, 0, []⟩ = nodes[k] := by simp [hkn]
      have hal := ha k hkn a haa
      cases hc : m.getD (v + k) false with
      | false => rw [hc] at hmark; simp only [cond_false] at hmark; rw [hc] at hmark; cases hmark
      | true =>
        simp only [cond_true, markArgs_getD, hn]
        have : (nodes[k].args.any fun b => b.toNat == a.toNat) = true := by
          rw [List.any_eq_true]
          exact ⟨a, haa, by simp⟩
        simp [this, hm]
        right
        omega
    · exact ih (by omega) _ hlen k hkn (by omega) hmark a haa
theorem Fm.below_closed {F : Fm} (hg : F.Good) {i : Nat} (hi : i < F.nodes.length) (hm : F.below.getD (F.vars.toNat + i) false = true) : ∀ a ∈ F.nodes[i].args, F.below.getD a.toNat false = true :=
  belowL_closed F.vars.toNat F.nodes (fun i h => hg.argLt h) F.nodes.length (Nat.le_refl _) _ (by simp) i hi hi hm
theorem Fm.below_top {F : Fm} (hg : F.Good) : F.below.getD F.top.toNat false = true := by
  unfold Fm.below
  refine belowL_mono _ _ _ _ _ ?_
  have := hg.topLt
  have := hg.v0
  simp [List.getD_eq_getElem?_getD, show F.top.toNat < F.vars.toNat + F.nodes.length by omega]
theorem Fm.below_lt {F : Fm} {j : Nat} (h : F.below.getD j false = true) : j < F.vars.toNat + F.nodes.length := by
  rcases Nat.lt_or_ge j (F.vars.toNat + F.nodes.length) with h' | h'
  · exact h'
  · rw [List.getD_eq_getElem?_getD, List.getElem?_eq_none (by rw [Fm.below_length]; exact h')] at h
    cases h
def lowBits (z : Int) (v : Nat) : Nat := (z % ((2 ^ v : Nat) : Int)).toNat
theorem lowBits_lt (z : Int) (v : Nat) : lowBits z v < 2 ^ v := by
  unfold lowBits
  have h : (0 : Int) < ((2 ^ v : Nat) : Int) := by exact_mod_cast Nat.two_pow_pos v
  have := Int.emod_lt_of_pos z h
  have := Int.emod_nonneg z (show ((2 ^ v : Nat) : Int) ≠ 0 by omega)
  omega
theorem u64_low (z : Int) {v : Nat} (hv : v ≤ 64) : ((z % 18446744073709551616).toNat) % 2 ^ v = lowBits z v := by
  unfold lowBits
  have hd : (2 ^ v : Nat) ∣ 18446744073709551616 := by
    rw [show (18446744073709551616 : Nat) = 2 ^ 64 by decide]
    exact Nat.pow_dvd_pow 2 hv
  obtain ⟨c, hc⟩ := hd
  have h0 : 0 ≤ z % 18446744073709551616 := Int.emod_nonneg _ (by decide)
  obtain ⟨q, hq⟩ := Int.eq_ofNat_of_zero_le h0
  rw [hq, Int.toNat_natCast]
  have h1 : z % ((2 ^ v : Nat) : Int) = (z % 18446744073709551616) % ((2 ^ v : Nat) : Int) := by
    rw [Int.emod_emod_of_dvd]
    exact ⟨(c : Int), by rw [show (18446744073709551616 : Int) = ((18446744073709551616 : Nat) : Int) by rfl, hc]; exact Int.natCast_mul _ _⟩
  rw [h1, hq]
  norm_cast
theorem iand_low {z : Int} {s v : Nat} (hs : s < 2 ^ v) (hv : v ≤ 62) : iand z s = ((lowBits z v &&& s : Nat) : Int) := by
  have h62 : (2 : Nat) ^ v ≤ 2 ^ 62 := Nat.pow_le_pow_right (by decide) hv
  have e62 : (2 : Nat) ^ 62 = 4611686018427387904 := by decide
  unfold iand
  have h : (BitVec.ofInt 64 z &&& BitVec.ofInt 64 (s : Int)).toNat = lowBits z v &&& s := by
    simp only [BitVec.toNat_and, BitVec.toNat_ofInt]
    rw [show ((2 ^ 64 : Nat) : Int) = 18446744073709551616 by decide, emod64 (by omega), ← u64_low z (by omega)]
    refine Nat.eq_of_testBit_eq fun i => ?_
    simp only [Nat.testBit_and, Nat.testBit_mod_two_pow]
    by_cases hi : i < v
    · simp [hi]
    · have : s.testBit i = false := Nat.testBit_lt_two_pow (Nat.lt_of_lt_of_le hs (Nat.pow_le_pow_right (by decide) (by omega)))
      simp [this]
  rw [h, wrapI (by omega)]
  have : lowBits z v &&& s ≤ s := Nat.and_le_right
  omega
theorem iand_mask {z : Int} {v : Nat} (hv : v ≤ 62) : iand z ((2 ^ v - 1 : Nat) : Int) = (lowBits z v : Int) := by
  rw [iand_low (v := v) (by have := Nat.two_pow_pos v; omega) hv, Nat.and_two_pow_sub_one_eq_mod, Nat.mod_eq_of_lt (lowBits_lt z v)]
theorem iandn_nat {a b : Nat} (ha : a < 9223372036854775808) (hb : b < 9223372036854775808) : iandn a b = ((a ^^^ (a &&& b) : Nat) : Int) := by
  unfold iandn
  have h : (BitVec.ofInt 64 (a : Int) &&& ~~~ BitVec.ofInt 64 (b : Int)).toNat = a ^^^ (a &&& b) := by
    simp only [BitVec.toNat_and, BitVec.toNat_not, BitVec.toNat_ofInt]
    rw [show ((2 ^ 64 : Nat) : Int) = 18446744073709551616 by decide, emod64 ha, emod64 hb]
    refine Nat.eq_of_testBit_eq fun i => ?_
    rw [Nat.testBit_and, show 2 ^ 64 - 1 - b = 2 ^ 64 - (b + 1) by omega, Nat.testBit_two_pow_sub_succ (by omega), Nat.testBit_xor, Nat.testBit_and]
    by_cases hi : i < 64
    · simp [hi]
      cases a.testBit i <;> cases b.testBit i <;> rfl
    · have : a.testBit i = false := Nat.testBit_lt_two_pow (Nat.lt_of_lt_of_le (show a < 2 ^ 64 by omega) (Nat.pow_le_pow_right (by decide) (by omega)))
      simp [this]
  have hlt : a ^^^ (a &&& b) < 2 ^ 63 := Nat.xor_lt_two_pow (by omega) (Nat.lt_of_le_of_lt Nat.and_le_left (by omega))
  rw [h, wrapI (by omega)]
  have : (2 : Nat) ^ 63 = 9223372036854775808 := by decide
  omega
end Go.GL
namespace Go.GL
set_option linter.unusedVariables false
theorem Fm.setErr_of {F : Fm} (hg : F.Good) {x : Nat} (hx : x < 2 ^ F.vars.toNat) : F.setErr (x : Int) = none := by
  unfold Fm.setErr
  rw [(Fm.good_iff F).2 hg]
  simp only
  rw [if_neg (by omega)]
def mixS (a b s : Nat) : Nat := (a &&& s) ||| (b ^^^ (b &&& s))
end Go.GL
namespace Go.GL
open Go.ChangeShapes Go.WideShapes Go.RowKit Go.Deep Go.Joins
set_option linter.unusedVariables false
instance : Inhabited Nd := ⟨⟨0, 0, []⟩⟩
instance : Inhabited Fm := ⟨⟨0, [], 0⟩⟩
theorem base_mem (w : World) : Mem [base w] w := by
  unfold base
  exact ⟨Same.refl _ _, fun k hk => hk, by simp, trivial⟩
theorem base_same {w w' : World} (h : Mem [base w] w') : Same (fun k => k < w.heap.size) w w' := by
  have := h.ok (base w) (by simp)
  unfold base at this
  exact this
theorem base_below {w w' : World} (h : Mem [base w] w') : Go.RowKit.Below w.heap.size w w' :=
  let s := base_same h
  ⟨s.os, s.tape, s.output, s.size, s.block⟩
theorem Rd.base {w : World} {b off : Nat} {vs : List Value} (h : ∀ (j : Nat) (v : Value), vs[j]? = some v → w.cell? ⟨b, off + j, none⟩ = some v) : Rd [GL.base w] b off vs := by
  intro w' hM j v hj
  have h0 := h j v hj
  have hlt := World.block_lt_of_cell? w ⟨b, off + j, none⟩ h0
  rw [World.cell?_of_block (w := w) (w' := w') ((base_same hM).block b hlt)]
  exact h0
theorem wf_I64 {z : Int} (h : (Lit.int .i64 z).wf = true) : I64 z := by
  exact bounds_i64 h
section
variable {H : Type} {enc : TypeId × Value → H} {P : Program} {w : World}
end
end Go.GL
namespace Go.GL
set_option linter.unusedVariables false
theorem cntOf_le (f : Nat → Bool) (l : List Int) : cntOf f l ≤ l.length := List.countP_le_length
end Go.GL
namespace Go.GL
set_option linter.unusedVariables false
section
variable {P : Program}
theorem zeroInt {T : TypeId} (h : (P.info? T).bind (fun i => i.zero) = some (Value.int .i64 0)) (w : World) : (zeroValue T).run P w = .ok (.int .i64 0) w := by
  cases hi : P.info? T with
  | none => rw [hi] at h; cases h
  | some i =>
    rw [hi] at h
    simp only [Option.bind_some] at h
    simp [zeroValue, typeInfo, hi, h]
end
def NewS (E : TypeId) (xs : List Value) (n : Nat) (H : List Ent) : Value → List Ent → Prop := fun u H' => ∃ a cap, u = slV a 0 n cap ∧ (xs ≠ [] → ∃ b, a = some b) ∧ row a E 1 cap xs :: H = H'
theorem RdS.ofRowA {H : List Ent} {a : Option Nat} {E sz cap : Nat} {xs : List Value} (hm : row a E sz cap xs ∈ H) (ha : xs ≠ [] → ∃ b, a = some b) : RdS H a 0 xs := by
  cases xs with
  | nil => exact .inl rfl
  | cons x r =>
    obtain ⟨b, rfl⟩ := ha (by simp)
    exact RdS.ofRowS hm
theorem RdS.drop {H : List Ent} {a : Option Nat} {off : Nat} {xs : List Value} {sp : Option Nat} (h : RdS H a off xs sp) (k : Nat) : RdS H a (off + k) (xs.drop k) sp := by
  rcases h with h | ⟨b, h1, h2, h3⟩
  · subst h; exact .inl (by simp)
  · refine .inr ⟨b, h1, h2, ?_⟩
    intro w hM j v hj
    have := h3 w hM (k + j) v (by rw [List.getElem?_drop] at hj; exact hj)
    rw [show off + k + j = off + (k + j) by omega]
    exact this
theorem RdS.none {H : List Ent} {off : Nat} {xs : List Value} {sp : Option Nat} (h : RdS H Option.none off xs sp) : xs = [] := by
  rcases h with h | ⟨b, h1, _⟩
  · exact h
  · cases h1
theorem pref_succ {α : Type} {xs ys : List α} {k : Nat} (hk : k < xs.length) (hl : xs.length = ys.length) (h : xs.take k = ys.take k) (h1 : xs[k] = ys[k]'(by omega)) : xs.take (k + 1) = ys.take (k + 1) := by
  rw [List.take_succ_eq_append_getElem hk, List.take_succ_eq_append_getElem (by omega), h, h1]
theorem pref_ne {α : Type} {xs ys : List α} {k : Nat} (hk : k < xs.length) (hl : xs.length = ys.length) (h1 : xs[k] ≠ ys[k]'(by omega)) : xs ≠ ys := by
  intro h; subst h; exact h1 rfl
theorem pref_all {α : Type} {xs ys : List α} (hl : xs.length = ys.length) (h : xs.take xs.length = ys.take xs.length) : xs = ys := by
  rw [List.take_length] at h
  rw [h, hl, List.take_length]
def Fm.nodeVals (F : Fm) (z : Int) : List Bool := (F.values z).drop F.vars.toNat
theorem nodeErr_ne_zero {v i e : Int} {d : Nd} (h : nodeErr v i d = some e) : e ≠ 0 := by
  unfold nodeErr at h
  (repeat' split at h) <;> first | (cases h; decide) | cases h
def argsLo (k : Int) : Int := if k = 0 then 0 else 1
def argsHi (k : Int) : Int := if k = 0 then 0 else if k = 1 then 1 else 16
theorem argsB_lohi {k : Int} {n : Nat} : argsB k n = (decide (argsLo k ≤ n) && decide ((n : Int) ≤ argsHi k)) := by
  unfold argsB argsLo argsHi
  split
  · by_cases h : (n : Int) = 0 <;> simp <;> omega
  · split
    · by_cases h : (n : Int) = 1
      · simp [h]
      · rw [decide_eq_false h]; symm; simp; omega
    · rfl
end Go.GL
namespace Go.GL
set_option linter.unusedVariables false
def refVals (v : Nat) (ev : List Bool) (nodes : List Nd) (k : Nat) : List Bool := (valsFrom ev (nodes.take k)).drop v ++ List.replicate (nodes.length - k) false
def ofVal (v : Int) (vs : List Bool) (z : Int) (a : Int) : Bool := if a < v then bitB z a.toNat else vs.getD (a - v).toNat false
end Go.GL
namespace Go.GL
theorem nodesErr_ne_zero {v e : Int} : ∀ (l : List Nd) (i : Nat), nodesErr v i l = some e → e ≠ 0
  | [], i, h => by cases h
  | d :: r, i, h => by
    unfold nodesErr at h
    cases hd : nodeErr v i d with
    | some e' => rw [hd] at h; cases h; exact nodeErr_ne_zero hd
    | none => rw [hd] at h; exact nodesErr_ne_zero r (i + 1) h
theorem Fm.err_ne_zero {F : Fm} {e : Int} (h : F.err = some e) : e ≠ 0 := by
  unfold Fm.err at h
  split at h
  · cases h; decide
  · split at h
    · cases h; decide
    · cases hn : nodesErr F.vars 0 F.nodes with
      | some e' => rw [hn] at h; cases h; exact nodesErr_ne_zero _ _ hn
      | none =>
        rw [hn] at h
        simp only at h
        split at h
        · cases h
        · cases h; decide
theorem Fm.err_of {F : Fm} (h : F.err.getD 0 = 0) : F.err = none := by
  cases he : F.err with
  | none => rfl
  | some e => rw [he] at h; exact absurd h (Fm.err_ne_zero he)
end Go.GL
namespace Go.GL
set_option linter.unusedVariables false
def wantOf (d : Nd) (yes no : Nat) : Bool :=
  if d.kind = 0 then decide (d.k = 1) else if d.kind = 1 then decide ((no : Int) = 1) else if d.kind = 2 then decide ((no : Int) = 0)
  else if d.kind = 3 then decide (0 < (yes : Int)) else if d.kind = 4 then decide (d.k ≤ yes) else decide (iand (yes : Int) 1 = 1)
end Go.GL
namespace Go.GL
set_option linter.unusedVariables false
section
variable {P : Program} {n : Nat} {S : List (Nat × Value)} {H : List Ent} {A : Array Oper} {Q : Exit → Act → World → Prop}
def ExitTo (n : Nat) (S : List (Nat × Value)) (H : List Ent) (id : Nat) (Q : Exit → Act → World → Prop) : Prop := ∀ a w, Sl n S a → Mem H w → Q (.exit id) a w
theorem Tri.exitTo {id : Nat} (h : ExitTo n S H id Q) : Tri P n S H (.exit id) Q := Tri.exit h
theorem ExitTo.seq {id : Nat} {K : Act → World → Prop} (h : ExitTo n S H id Q) : ExitTo n S H id (Exit.then K Q) := h
theorem ExitTo.blk {id : Nat} (h : Nrm n S H Q) : ExitTo n S H id (Exit.inBlock id Q) := fun a w h1 h2 => by
  simp only [Exit.inBlock, if_true]; exact h a w h1 h2
theorem ExitTo.blkNe {id id' : Nat} (hne : Nat.beq id id' = false) (h : ExitTo n S H id Q) : ExitTo n S H id (Exit.inBlock id' Q) := fun a w h1 h2 => by
  have : id ≠ id' := fun e => by subst e; simp at hne
  simp only [Exit.inBlock, if_neg this]; exact h a w h1 h2
theorem ExitTo.loop {X : Type} {id : Nat} {Sx : X → List (Nat × Value)} {Hx : X → List Ent} {p : X → Prop} {μ : X → Nat} {x : X} (h : ExitTo n S H id Q) : ExitTo n S H id (LoopQ n Sx Hx p μ x Q) := h
section
variable {X : Type} {id id2 ti tn m k : Nat} {Sx : X → Nat → List (Nat × Value)} {Hx : X → Nat → List Ent} {p : X → Nat → Prop}
theorem ExitTo.body (h : Nrm n S H (BodyQ n id id2 ti tn m k Sx Hx p Q)) : ExitTo n S H id2 (BodyQ n id id2 ti tn m k Sx Hx p Q) := fun a w h1 h2 => by
  simp only [BodyQ, if_true]; exact h a w h1 h2
end
end
end Go.GL
