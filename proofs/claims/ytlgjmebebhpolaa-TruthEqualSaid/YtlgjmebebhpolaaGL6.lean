import Derived.Test.YtlgjmebebhpolaaGL5
namespace Go.GL
set_option linter.unusedVariables false
set_option linter.unusedSimpArgs false
section
variable {P : Program} {n : Nat} {S : List (Nat × Value)} {H : List Ent} {A : Array Oper} {Q : Exit → Act → World → Prop}
def Is {X : Type} (n : Nat) (Sx : X → List (Nat × Value)) (Hx : X → List Ent) (p : X → Prop) (a : Act) (w : World) : Prop :=
  ∃ x, p x ∧ Sl n (Sx x) a ∧ Mem (Hx x) w
theorem Is.mk {X : Type} {Sx : X → List (Nat × Value)} {Hx : X → List Ent} {p : X → Prop} {a : Act} {w : World} (hS : Sl n S a) (hM : Mem H w) (x : X) (hp : p x) (hs : Has S (Sx x)) (hl : Le H (Hx x)) : Is n Sx Hx p a w :=
  ⟨x, hp, hS.weak hs, hl w hM⟩
theorem Tri.seqMid {X : Type} {x y : Code} (Sx : X → List (Nat × Value)) (Hx : X → List Ent) (p : X → Prop)
    (h1 : Tri P n S H x (Exit.then (Is n Sx Hx p) Q)) (h2 : ∀ x, p x → Tri P n (Sx x) (Hx x) y Q) : Tri P n S H (.seq x y) Q := by
  intro a w hS hM
  refine wp_seq (wp_mono (h1 a w hS hM) ?_)
  intro e a' w' hq
  cases e with
  | normal =>
    obtain ⟨x, hp, hS', hM'⟩ := hq
    exact h2 x hp a' w' hS' hM'
  | _ => exact hq
theorem TOps.mid {X : Type} {Sx : X → List (Nat × Value)} {Hx : X → List Ent} {p : X → Prop} (x : X) (hp : p x) (hs : Has S (Sx x)) (hl : Le H (Hx x)) : TOps P n S H [] A (Exit.then (Is n Sx Hx p) Q) :=
  fun a w hS hM => wpList_nil (Is.mk hS hM x hp hs hl)
theorem Tri.skipMid {X : Type} {Sx : X → List (Nat × Value)} {Hx : X → List Ent} {p : X → Prop} (x : X) (hp : p x) (hs : Has S (Sx x)) (hl : Le H (Hx x)) : Tri P n S H .skip (Exit.then (Is n Sx Hx p) Q) :=
  fun a w hS hM => wp_skip (Is.mk hS hM x hp hs hl)
def LoopQ {X : Type} (n : Nat) (Sx : X → List (Nat × Value)) (Hx : X → List Ent) (p : X → Prop) (μ : X → Nat) (x : X) (Q : Exit → Act → World → Prop) : Exit → Act → World → Prop
  | .normal, a, w => Is n Sx Hx (fun y => p y ∧ μ y < μ x) a w
  | e, a, w => Q e a w
theorem exists_min {q : Nat → Prop} (h : ∃ m, q m) : ∃ m, q m ∧ ∀ k, q k → m ≤ k := by
  obtain ⟨m, hm⟩ := h
  induction m using Nat.strongRecOn with
  | _ m ih =>
    by_cases hk : ∃ k, k < m ∧ q k
    · obtain ⟨k, h1, h2⟩ := hk
      exact ih k h1 h2
    · refine ⟨m, hm, fun k hq => ?_⟩
      rcases Nat.lt_or_ge k m with h | h
      · exact absurd ⟨k, h, hq⟩ hk
      · exact h
open Classical in
theorem Tri.loop {X : Type} {c : Code} (Sx : X → List (Nat × Value)) (Hx : X → List Ent) (p : X → Prop) (μ : X → Nat)
    (x0 : X) (hp : p x0) (hs : Has S (Sx x0)) (hl : Le H (Hx x0)) (hb : ∀ x, p x → Tri P n (Sx x) (Hx x) c (LoopQ n Sx Hx p μ x Q)) : Tri P n S H (.loop c) Q := by
  intro a w hS hM
  let D : Act → World → Nat → Prop := fun a w m => ∃ x, p x ∧ Sl n (Sx x) a ∧ Mem (Hx x) w ∧ μ x = m
  let f : Act → World → Nat := fun a w => if h : ∃ m, D a w m then Classical.choose (exists_min h) else 0
  refine wp_loop (fun a w => ∃ m, D a w m) f ⟨_, x0, hp, hS.weak hs, hl w hM, rfl⟩ ?_
  intro a w hI
  have hf : f a w = Classical.choose (exists_min hI) := by simp only [f]; rw [dif_pos hI]
  obtain ⟨⟨x, h1, h2, h3, h4⟩, _⟩ := Classical.choose_spec (exists_min hI)
  refine wp_mono (hb x h1 a w h2 h3) ?_
  intro e a' w' hq
  cases e with
  | normal =>
    obtain ⟨y, ⟨hy1, hy2⟩, hy3, hy4⟩ := hq
    have hI' : ∃ m, D a' w' m := ⟨_, y, hy1, hy3, hy4, rfl⟩
    refine ⟨hI', ?_⟩
    have hf' : f a' w' = Classical.choose (exists_min hI') := by simp only [f]; rw [dif_pos hI']
    rw [hf, hf', ← h4]
    exact Nat.lt_of_le_of_lt ((Classical.choose_spec (exists_min hI')).2 _ ⟨y, hy1, hy3, hy4, rfl⟩) hy2
  | _ => exact hq
def BodyQ {X : Type} (n id id2 ti tn m k : Nat) (Sx : X → Nat → List (Nat × Value)) (Hx : X → Nat → List Ent) (p : X → Nat → Prop) (Q : Exit → Act → World → Prop) : Exit → Act → World → Prop
  | .normal, a, w => Is n (fun x => (ti, .int .i64 k) :: (tn, .int .i64 m) :: Sx x (k + 1)) (fun x => Hx x (k + 1)) (fun x => p x (k + 1)) a w
  | .exit i, a, w => if i = id2 then Is n (fun x => (ti, .int .i64 k) :: (tn, .int .i64 m) :: Sx x (k + 1)) (fun x => Hx x (k + 1)) (fun x => p x (k + 1)) a w
      else if i = id then Q .normal a w else Q (.exit i) a w
  | e, a, w => Q e a w
theorem has_cons_ne {S S' : List (Nat × Value)} {d : Nat} {v : Value} (h : Has S S') (hd : get S' d = none) : Has ((d, v) :: S) S' := by
  induction S' with
  | nil => trivial
  | cons q r ih =>
    obtain ⟨k0, v0⟩ := q
    have hne : d ≠ k0 := by
      intro e
      subst e
      rw [get_cons_same] at hd
      cases hd
    refine ⟨?_, ih h.2 ?_⟩
    · rw [get_cons_ne hne]; exact h.1
    · rwa [get_cons_ne (fun e => hne e.symm)] at hd
theorem has_self_aux : ∀ (T S : List (Nat × Value)), (T.map (·.1)).Nodup → (∀ k v, get T k = some v → get S k = some v) → Has S T
  | [], S, _, _ => trivial
  | (k, v) :: r, S, hd, h => by
    simp only [List.map_cons, List.nodup_cons] at hd
    refine ⟨h k v (get_cons_same k v r), has_self_aux r S hd.2 (fun i u hi => ?_)⟩
    refine h i u ?_
    have hne : k ≠ i := by
      intro e
      subst e
      have : ∀ (l : List (Nat × Value)) (i : Nat) (u : Value), get l i = some u → i ∈ l.map (·.1) := by
        intro l
        induction l with
        | nil => intro i u h; simp [get] at h
        | cons q l ih =>
          intro i u h
          obtain ⟨k0, v0⟩ := q
          by_cases e : k0 = i
          · simp [e]
          · rw [get_cons_ne e] at h
            exact List.mem_cons_of_mem _ (ih i u h)
      exact hd.1 (this r k u hi)
    rwa [get_cons_ne hne]
theorem Sl.putNe {S' : List (Nat × Value)} {a : Act} (h : Sl n S' a) {d : Nat} (v : Value) (hd : d < n) (hne : get S' d = none) : Sl n S' (a.put (some d) v) := by
  refine ⟨by simp [Act.put, h.sz], h.df, ?_⟩
  intro k u hk
  have e : d ≠ k := by
    intro e
    subst e
    rw [hne] at hk
    cases hk
  obtain ⟨h1, h2⟩ := h.g k u hk
  refine ⟨h1, ?_⟩
  rw [← h2]
  simp [Act.put, Array.getElem?_setIfInBounds_ne e]
theorem Tri.range {X : Type} {id id2 r1 r2 ti tn tc tt T1 T2 T3 T4 T5 T6 T7 : Nat} {p1 p2 p3 : String} {e1 e2 e3 : Array Edge} {body : Code} {m : Nat}
    (Sx : X → Nat → List (Nat × Value)) (Hx : X → Nat → List Ent) (p : X → Nat → Prop) (hm : m ≤ 9223372036854775807)
    (hi : get S ti = some (.int .i64 0)) (hn : get S tn = some (.int .i64 m))
    (hd : (tc != ti && tc != tn && tt != ti && tt != tn && ti != tn && Nat.blt tc n && Nat.blt tt n && Nat.blt ti n && id2 != id) = true)
    (hfr : ∀ x k, get (Sx x k) tc = none ∧ get (Sx x k) tt = none ∧ get (Sx x k) ti = none ∧ get (Sx x k) tn = none)
    (x0 : X) (hp : p x0 0) (hs : Has S (Sx x0 0)) (hl : Le H (Hx x0 0))
    (hb : ∀ k x, k < m → p x k → Tri P n ((ti, .int .i64 k) :: (tn, .int .i64 m) :: Sx x k) (Hx x k) body (BodyQ n id id2 ti tn m k Sx Hx p Q))
    (he : ∀ x a w, p x m → Sl n (Sx x m) a → Mem (Hx x m) w → Q .normal a w) :
    Tri P n S H (.block id (.loop (.seq (.region r1 (List.toArray [⟨some tc, .binOp .lss T1 (.tmp ti) (.tmp tn) T2, T3, p1, e1, none⟩]) false)
      (.seq (.cond (.tmp tc) .skip (.exit id)) (.seq (.block id2 body)
        (.region r2 (List.toArray [⟨some tt, .binOp .add T4 (.tmp ti) (.const (.int .i64 1)) T5, T6, p2, e2, none⟩, ⟨some ti, .move (.tmp tt), T7, p3, e3, none⟩]) false)))))) Q := by
  simp only [Bool.and_eq_true, bne_iff_ne, ne_eq, Nat.blt_eq] at hd
  obtain ⟨⟨⟨⟨⟨⟨⟨⟨d1, d2⟩, d3⟩, d4⟩, d5⟩, d6⟩, d7⟩, d8⟩, d9⟩ := hd
  refine Tri.block ?_
  refine Tri.loop (X := X × Nat) (fun x => (ti, .int .i64 x.2) :: (tn, .int .i64 m) :: Sx x.1 x.2) (fun x => Hx x.1 x.2) (fun x => x.2 ≤ m ∧ p x.1 x.2) (fun x => m - x.2)
    (x0, 0) ⟨Nat.zero_le _, hp⟩ ⟨hi, hn, hs⟩ hl ?_
  rintro ⟨x, k⟩ ⟨hk, hpx⟩
  refine Tri.seq (Tri.region ?_)
  have g1 : get ((ti, Value.int .i64 (k : Int)) :: (tn, .int .i64 m) :: Sx x k) ti = some (.int .i64 k) := get_cons_same _ _ _
  have g2 : get ((ti, Value.int .i64 (k : Int)) :: (tn, .int .i64 m) :: Sx x k) tn = some (.int .i64 m) := by rw [get_cons_ne d5, get_cons_same]
  refine TOps.lss (x := .tmp ti) (y := .tmp tn) g1 g2 (by simpa [Nat.blt_eq] using d6) (TOps.next ?_)
  refine Tri.seq ?_
  refine Tri.cond (c := .tmp tc) (get_cons_same _ _ _) (fun hlt => ?_) (fun hge => ?_)
  · have hlt' : k < m := by simpa using hlt
    refine Tri.skipNext ?_
    refine Tri.seq (Tri.block ?_)
    have hbk := hb k x hlt' hpx
    intro a w hS hM
    have hS' : Sl n ((ti, .int .i64 k) :: (tn, .int .i64 m) :: Sx x k) a := by
      refine ⟨hS.sz, hS.df, fun i v hv => hS.g i v ?_⟩
      have : tc ≠ i := by
        intro e
        subst e
        rw [get_cons_ne (fun e => d1 e.symm), get_cons_ne (fun e => d2 e.symm), (hfr x k).1] at hv
        cases hv
      rw [get_cons_ne this]
      exact hv
    refine wp_mono (hbk a w hS' hM) ?_
    have go : ∀ a' w', Is n (fun x => (ti, .int .i64 k) :: (tn, .int .i64 m) :: Sx x (k + 1)) (fun x => Hx x (k + 1)) (fun x => p x (k + 1)) a' w' →
        (Code.region r2 (List.toArray [⟨some tt, .binOp .add T4 (.tmp ti) (.const (.int .i64 1)) T5, T6, p2, e2, none⟩, ⟨some ti, .move (.tmp tt), T7, p3, e3, none⟩]) false).wp P
          (LoopQ n (fun x : X × Nat => (ti, .int .i64 x.2) :: (tn, .int .i64 m) :: Sx x.1 x.2) (fun x => Hx x.1 x.2) (fun x => x.2 ≤ m ∧ p x.1 x.2) (fun x => m - x.2) (x, k) (Exit.inBlock id Q)) a' w' := by
      rintro a' w' ⟨y, hy, hSy, hMy⟩
      have g3 : get ((ti, Value.int .i64 (k : Int)) :: (tn, .int .i64 m) :: Sx y (k + 1)) ti = some (.int .i64 k) := get_cons_same _ _ _
      refine Tri.region (n := n) (S := (ti, .int .i64 k) :: (tn, .int .i64 m) :: Sx y (k + 1)) (H := Hx y (k + 1)) ?_ a' w' hSy hMy
      refine TOps.add (x := .tmp ti) (y := .const (.int .i64 1)) (r := ((k + 1 : Nat) : Int)) g3 rfl (by rw [wrapI (by omega) (by omega)]; omega) (by simpa [Nat.blt_eq] using d7) ?_
      refine TOps.move (x := .tmp tt) (get_cons_same _ _ _) (by simpa [Nat.blt_eq] using d8) ?_
      refine TOps.done fun a2 w2 hS2 hM2 => ?_
      refine ⟨(y, k + 1), ⟨⟨hlt', hy⟩, by simp only; omega⟩, ?_, hM2⟩
      refine ⟨hS2.sz, hS2.df, fun i v hv => hS2.g i v ?_⟩
      by_cases e1 : ti = i
      · subst e1
        rw [get_cons_same] at hv ⊢
        exact hv
      · rw [get_cons_ne e1] at hv ⊢
        have e2 : tt ≠ i := by
          intro e
          subst e
          rw [get_cons_ne (fun e => d4 e.symm), (hfr y (k + 1)).2.1] at hv
          cases hv
        rw [get_cons_ne e2, get_cons_ne e1]
        exact hv
    intro e a' w' hq
    cases e with
    | normal => exact go a' w' hq
    | exit i =>
      simp only [BodyQ] at hq
      by_cases h2 : i = id2
      · subst h2
        simp only [if_true] at hq
        simp only [Exit.inBlock, if_true]
        exact go a' w' hq
      · simp only [h2, if_false] at hq
        simp only [Exit.inBlock, h2, if_false, Exit.then, LoopQ]
        by_cases h3 : i = id
        · simp only [h3, if_true] at hq ⊢
          exact hq
        · simp only [h3, if_false] at hq ⊢
          exact hq
    | goto l => exact hq
    | ret => exact hq
    | panic c => exact hq
    | outgrown => exact hq
  · have hkm : k = m := by
      have : ¬ k < m := by simpa using hge
      omega
    subst hkm
    refine Tri.exit fun a w hS hM => ?_
    simp only [Exit.then, LoopQ, Exit.inBlock, if_true]
    refine he x a w hpx ?_ hM
    refine ⟨hS.sz, hS.df, fun i v hv => hS.g i v ?_⟩
    have e1 : tc ≠ i := by
      intro e
      subst e
      rw [(hfr x k).1] at hv
      cases hv
    have e2 : ti ≠ i := by
      intro e
      subst e
      rw [(hfr x k).2.2.1] at hv
      cases hv
    rw [get_cons_ne e1, get_cons_ne e2]
    by_cases e3 : tn = i
    · subst e3
      rw [(hfr x k).2.2.2] at hv
      cases hv
    · rw [get_cons_ne e3]
      exact hv
section
variable {X : Type} {id id2 ti tn m k : Nat} {Sx : X → Nat → List (Nat × Value)} {Hx : X → Nat → List Ent} {p : X → Nat → Prop}
theorem TOps.bodyNext (x : X) (hp : p x (k + 1)) (hs : Has S ((ti, .int .i64 k) :: (tn, .int .i64 m) :: Sx x (k + 1))) (hl : Le H (Hx x (k + 1))) : TOps P n S H [] A (BodyQ n id id2 ti tn m k Sx Hx p Q) :=
  fun a w hS hM => wpList_nil ⟨x, hp, hS.weak hs, hl w hM⟩
theorem Tri.skipBody (x : X) (hp : p x (k + 1)) (hs : Has S ((ti, .int .i64 k) :: (tn, .int .i64 m) :: Sx x (k + 1))) (hl : Le H (Hx x (k + 1))) : Tri P n S H .skip (BodyQ n id id2 ti tn m k Sx Hx p Q) :=
  fun a w hS hM => wp_skip ⟨x, hp, hS.weak hs, hl w hM⟩
theorem Tri.continueBody {Q'} (hq : ∀ a w, BodyQ n id id2 ti tn m k Sx Hx p Q (.exit id2) a w → Q' (.exit id2) a w) (x : X) (hp : p x (k + 1)) (hs : Has S ((ti, .int .i64 k) :: (tn, .int .i64 m) :: Sx x (k + 1))) (hl : Le H (Hx x (k + 1))) : Tri P n S H (.exit id2) Q' :=
  fun a w hS hM => wp_exit (hq a w (by simp only [BodyQ, if_true]; exact ⟨x, hp, hS.weak hs, hl w hM⟩))
end
end
def iand (a b : Int) : Int := IntKind.i64.wrap (BitVec.ofInt 64 a &&& BitVec.ofInt 64 b).toNat
def ior (a b : Int) : Int := IntKind.i64.wrap (BitVec.ofInt 64 a ||| BitVec.ofInt 64 b).toNat
def ixor (a b : Int) : Int := IntKind.i64.wrap (BitVec.ofInt 64 a ^^^ BitVec.ofInt 64 b).toNat
def iandn (a b : Int) : Int := IntKind.i64.wrap (BitVec.ofInt 64 a &&& ~~~ BitVec.ofInt 64 b).toNat
def ishl (a : Int) (k : Nat) : Int := IntKind.i64.wrap (a * 2 ^ min k 64)
def ishr (a : Int) (k : Nat) : Int := a.fdiv (2 ^ min k 64)
section
variable {P : Program} {n : Nat} {S : List (Nat × Value)} {H : List Ent} {A : Array Oper} {Q : Exit → Act → World → Prop}
theorem TOps.and {d x y T T' U p e rest} {a b r : Int} (hx : opv S x = some (.int .i64 a)) (hy : opv S y = some (.int .i64 b)) (hr : iand a b = r) (hn : Nat.blt d n = true)
    (h : TOps P n ((d, .int .i64 r) :: S) H rest A Q) : TOps P n S H (⟨some d, .binOp .and T x y T', U, p, e, none⟩ :: rest) A Q :=
  TOps.pure rfl rfl hn (fun ac w hS _ => by
    subst hr
    have hb : binOp .and T (.int .i64 a) (.int .i64 b) = Pure.pure (.int .i64 (iand a b)) := rfl
    simp [execOp, hS.eval hx, hS.eval hy, eqGuard, hb]) h
theorem TOps.or {d x y T T' U p e rest} {a b r : Int} (hx : opv S x = some (.int .i64 a)) (hy : opv S y = some (.int .i64 b)) (hr : ior a b = r) (hn : Nat.blt d n = true)
    (h : TOps P n ((d, .int .i64 r) :: S) H rest A Q) : TOps P n S H (⟨some d, .binOp .or T x y T', U, p, e, none⟩ :: rest) A Q :=
  TOps.pure rfl rfl hn (fun ac w hS _ => by
    subst hr
    have hb : binOp .or T (.int .i64 a) (.int .i64 b) = Pure.pure (.int .i64 (ior a b)) := rfl
    simp [execOp, hS.eval hx, hS.eval hy, eqGuard, hb]) h
theorem TOps.xor {d x y T T' U p e rest} {a b r : Int} (hx : opv S x = some (.int .i64 a)) (hy : opv S y = some (.int .i64 b)) (hr : ixor a b = r) (hn : Nat.blt d n = true)
    (h : TOps P n ((d, .int .i64 r) :: S) H rest A Q) : TOps P n S H (⟨some d, .binOp .xor T x y T', U, p, e, none⟩ :: rest) A Q :=
  TOps.pure rfl rfl hn (fun ac w hS _ => by
    subst hr
    have hb : binOp .xor T (.int .i64 a) (.int .i64 b) = Pure.pure (.int .i64 (ixor a b)) := rfl
    simp [execOp, hS.eval hx, hS.eval hy, eqGuard, hb]) h
theorem TOps.andNot {d x y T T' U p e rest} {a b r : Int} (hx : opv S x = some (.int .i64 a)) (hy : opv S y = some (.int .i64 b)) (hr : iandn a b = r) (hn : Nat.blt d n = true)
    (h : TOps P n ((d, .int .i64 r) :: S) H rest A Q) : TOps P n S H (⟨some d, .binOp .andNot T x y T', U, p, e, none⟩ :: rest) A Q :=
  TOps.pure rfl rfl hn (fun ac w hS _ => by
    subst hr
    have hb : binOp .andNot T (.int .i64 a) (.int .i64 b) = Pure.pure (.int .i64 (iandn a b)) := rfl
    simp [execOp, hS.eval hx, hS.eval hy, eqGuard, hb]) h
theorem TOps.shl {d x y T T' U p e rest} {a b r : Int} {k : IntKind} (hx : opv S x = some (.int .i64 a)) (hy : opv S y = some (.int k b)) (hb : 0 ≤ b) (hr : ishl a b.toNat = r) (hn : Nat.blt d n = true)
    (h : TOps P n ((d, .int .i64 r) :: S) H rest A Q) : TOps P n S H (⟨some d, .binOp .shl T x y T', U, p, e, none⟩ :: rest) A Q :=
  TOps.pure rfl rfl hn (fun a w hS _ => by
    subst hr
    have hb' : ¬ b < 0 := by omega
    simp [execOp, hS.eval hx, hS.eval hy, eqGuard, binOp, Op.shift, ishl, IntKind.bits, hb']) h
theorem TOps.shr {d x y T T' U p e rest} {a b r : Int} {k : IntKind} (hx : opv S x = some (.int .i64 a)) (hy : opv S y = some (.int k b)) (hb : 0 ≤ b) (hr : ishr a b.toNat = r) (hn : Nat.blt d n = true)
    (h : TOps P n ((d, .int .i64 r) :: S) H rest A Q) : TOps P n S H (⟨some d, .binOp .shr T x y T', U, p, e, none⟩ :: rest) A Q :=
  TOps.pure rfl rfl hn (fun a w hS _ => by
    subst hr
    have hb' : ¬ b < 0 := by omega
    simp [execOp, hS.eval hx, hS.eval hy, eqGuard, binOp, Op.shift, ishr, IntKind.bits, hb']) h
theorem Rd.lit {b E sz cap off : Nat} {xs : List Value} {v : Value} (hm : row (some b) E sz cap xs ∈ H) (hv : xs[off]? = some v) : Rd H b off [v] :=
  Rd.ofRow hm off [v] (fun j u hj => by
    cases j with
    | zero => simp at hj; subst hj; simpa using hv
    | succ j => simp at hj)
theorem Rd.all {b E sz cap : Nat} {xs : List Value} (hm : row (some b) E sz cap xs ∈ H) : Rd H b 0 xs := Rd.ofRow hm 0 xs (fun j v h => by simpa using h)
theorem Rd.part {b off : Nat} {vs : List Value} {v : Value} (h : Rd H b off vs) (j : Nat) (hj : vs[j]? = some v) : Rd H b (off + j) [v] := by
  intro w hM i u hi
  cases i with
  | zero => simp at hi; subst hi; exact h w hM j v hj
  | succ i => simp at hi
theorem TOps.field0 {d s x f U p e rest} {fs : Array Field} {fl : Field} {b off : Nat} (hx : opv S x = some (.pointer (some ⟨b, off, none⟩))) (hs : P.underlying s = some (.struct fs))
    (hf : fs[f]? = some fl) {g : Bool} {zv : List Value} {sz y T : Nat} (hT : fl.type = T) (ht : TI P T g zv sz y) (hz : Nat.blt 0 sz = true) (ho : fl.offset = 0) (hn : Nat.blt d n = true)
    (h : TOps P n ((d, .pointer (some ⟨b, off, none⟩)) :: S) H rest A Q) : TOps P n S H (⟨some d, .fieldAddr s x f, U, p, e, none⟩ :: rest) A Q := by
  subst hT
  exact TOps.fieldAddr hx hs hf ht (by intro e; subst e; simp at hz) (by rw [ho]; rfl) hn h
theorem TOps.fieldB {d s x f U p e rest} {fs : Array Field} {fl : Field} {b : Nat} (o : Nat) (hx : opv S x = some (.pointer (some ⟨b, 0, none⟩))) (hs : P.underlying s = some (.struct fs))
    (hf : fs[f]? = some fl) {g : Bool} {zv : List Value} {sz y T : Nat} (hT : fl.type = T) (ht : TI P T g zv sz y) (hz : Nat.blt 0 sz = true) (ho : fl.offset = o) (hn : Nat.blt d n = true)
    (h : TOps P n ((d, .pointer (some ⟨b, o, none⟩)) :: S) H rest A Q) : TOps P n S H (⟨some d, .fieldAddr s x f, U, p, e, none⟩ :: rest) A Q := by
  subst hT
  exact TOps.fieldAddr hx hs hf ht (by intro e; subst e; simp at hz) (by rw [ho, Nat.zero_add]) hn h
theorem TOps.fieldN {d s x f U p e rest} {fs : Array Field} {fl : Field} {b off : Nat} (o : Nat) (hx : opv S x = some (.pointer (some ⟨b, off, none⟩))) (hs : P.underlying s = some (.struct fs))
    (hf : fs[f]? = some fl) {g : Bool} {zv : List Value} {sz y T : Nat} (hT : fl.type = T) (ht : TI P T g zv sz y) (hz : Nat.blt 0 sz = true) (ho : fl.offset = o) (hn : Nat.blt d n = true)
    (h : TOps P n ((d, .pointer (some ⟨b, off + o, none⟩)) :: S) H rest A Q) : TOps P n S H (⟨some d, .fieldAddr s x f, U, p, e, none⟩ :: rest) A Q := by
  subst hT
  exact TOps.fieldAddr hx hs hf ht (by intro e; subst e; simp at hz) (by rw [ho]) hn h
end
end Go.GL
