import Derived.Test.YtlgjmebebhpolaaGL1
import Derived.Laws.MakeOwn
namespace Go.GL
set_option linter.unusedVariables false
set_option linter.unusedSimpArgs false
structure TI (P : Program) (T : TypeId) (agg : Bool) (zs : List Value) (sz by_ : Nat) : Prop where
  i : ∃ i z, P.info? T = some i ∧ i.zero = some z ∧ z.cells = zs.toArray ∧ i.size = sz ∧ i.bytes = by_
  zs : zs.length = sz
  ag : ∀ w, (isAgg T).run P w = .ok agg w
theorem TI.mk' {P : Program} {T : TypeId} {agg : Bool} {zs : List Value} {sz by_ : Nat} (h : (P.info? T).map (fun i => (i.zero.map Value.cells, i.size, i.bytes)) = some (some zs.toArray, sz, by_)) (hz : zs.length = sz) (ha : ∀ w, (isAgg T).run P w = .ok agg w) : TI P T agg zs sz by_ := by
  refine ⟨?_, hz, ha⟩
  cases hi : P.info? T with
  | none => rw [hi] at h; simp at h
  | some i =>
    rw [hi] at h
    simp at h
    obtain ⟨⟨z, h1, h2⟩, h3, h4⟩ := h
    exact ⟨i, z, rfl, h1, h2, h3, h4⟩
theorem TI.size {P : Program} {T : TypeId} {agg : Bool} {zs : List Value} {sz by_ : Nat} (h : TI P T agg zs sz by_) (w : World) : (sizeOf T).run P w = .ok sz w := by
  obtain ⟨i, z, h1, h2, h3, h4, h5⟩ := h.i
  simp [sizeOf, typeInfo, h1, h4]
theorem TI.zero {P : Program} {T : TypeId} {agg : Bool} {zs : List Value} {sz by_ : Nat} (h : TI P T agg zs sz by_) : ∃ z, z.cells = zs.toArray ∧ ∀ w, (zeroValue T).run P w = .ok z w := by
  obtain ⟨i, z, h1, h2, h3, h4, h5⟩ := h.i
  exact ⟨z, h3, fun w => by simp [zeroValue, typeInfo, h1, h2]⟩
section
variable {P : Program} {n : Nat} {S : List (Nat × Value)} {H : List Ent} {A : Array Oper} {Q : Exit → Act → World → Prop}
theorem wrapI {z : Int} (h1 : -9223372036854775808 ≤ z) (h2 : z ≤ 9223372036854775807) : IntKind.i64.wrap z = z := by
  rw [IntKind.wrap_i64]; omega
theorem TOps.add {d x y T T' U p e rest} {a b r : Int} (hx : opv S x = some (.int .i64 a)) (hy : opv S y = some (.int .i64 b)) (hr : IntKind.i64.wrap (a + b) = r) (hn : Nat.blt d n = true)
    (h : TOps P n ((d, .int .i64 r) :: S) H rest A Q) : TOps P n S H (⟨some d, .binOp .add T x y T', U, p, e, none⟩ :: rest) A Q :=
  TOps.pure rfl rfl hn (fun a w hS _ => by subst hr; simp [execOp, hS.eval hx, hS.eval hy, eqGuard, binOp, Op.intArith]) h
theorem TOps.sub {d x y T T' U p e rest} {a b r : Int} (hx : opv S x = some (.int .i64 a)) (hy : opv S y = some (.int .i64 b)) (hr : IntKind.i64.wrap (a - b) = r) (hn : Nat.blt d n = true)
    (h : TOps P n ((d, .int .i64 r) :: S) H rest A Q) : TOps P n S H (⟨some d, .binOp .sub T x y T', U, p, e, none⟩ :: rest) A Q :=
  TOps.pure rfl rfl hn (fun a w hS _ => by subst hr; simp [execOp, hS.eval hx, hS.eval hy, eqGuard, binOp, Op.intArith]) h
theorem TOps.mul {d x y T T' U p e rest} {a b r : Int} (hx : opv S x = some (.int .i64 a)) (hy : opv S y = some (.int .i64 b)) (hr : IntKind.i64.wrap (a * b) = r) (hn : Nat.blt d n = true)
    (h : TOps P n ((d, .int .i64 r) :: S) H rest A Q) : TOps P n S H (⟨some d, .binOp .mul T x y T', U, p, e, none⟩ :: rest) A Q :=
  TOps.pure rfl rfl hn (fun a w hS _ => by subst hr; simp [execOp, hS.eval hx, hS.eval hy, eqGuard, binOp, Op.intArith]) h
theorem TOps.rem {d x y T T' U p e rest} {k : IntKind} {a b r : Int} (hx : opv S x = some (.int k a)) (hy : opv S y = some (.int k b)) (hb : b ≠ 0) (hr : a.tmod b = r) (hn : Nat.blt d n = true)
    (h : TOps P n ((d, .int k r) :: S) H rest A Q) : TOps P n S H (⟨some d, .binOp .rem T x y T', U, p, e, none⟩ :: rest) A Q :=
  TOps.pure rfl rfl hn (fun a w hS _ => by subst hr; simp [execOp, hS.eval hx, hS.eval hy, eqGuard, binOp, Op.intDiv, hb]) h
theorem TOps.quo {d x y T T' U p e rest} {k : IntKind} {a b r : Int} (hx : opv S x = some (.int k a)) (hy : opv S y = some (.int k b)) (hb : b ≠ 0) (hr : k.wrap (a.tdiv b) = r) (hn : Nat.blt d n = true)
    (h : TOps P n ((d, .int k r) :: S) H rest A Q) : TOps P n S H (⟨some d, .binOp .quo T x y T', U, p, e, none⟩ :: rest) A Q :=
  TOps.pure rfl rfl hn (fun a w hS _ => by subst hr; simp [execOp, hS.eval hx, hS.eval hy, eqGuard, binOp, Op.intDiv, hb]) h
theorem TOps.lss {d x y T T' U p e rest} {k : IntKind} {a b : Int} (hx : opv S x = some (.int k a)) (hy : opv S y = some (.int k b)) (hn : Nat.blt d n = true)
    (h : TOps P n ((d, .bool (decide (a < b))) :: S) H rest A Q) : TOps P n S H (⟨some d, .binOp .lss T x y T', U, p, e, none⟩ :: rest) A Q :=
  TOps.pure rfl rfl hn (fun a w hS _ => by simp [execOp, hS.eval hx, hS.eval hy, eqGuard, binOp, Op.intCmp]) h
theorem TOps.leq {d x y T T' U p e rest} {k : IntKind} {a b : Int} (hx : opv S x = some (.int k a)) (hy : opv S y = some (.int k b)) (hn : Nat.blt d n = true)
    (h : TOps P n ((d, .bool (decide (a ≤ b))) :: S) H rest A Q) : TOps P n S H (⟨some d, .binOp .leq T x y T', U, p, e, none⟩ :: rest) A Q :=
  TOps.pure rfl rfl hn (fun a w hS _ => by simp [execOp, hS.eval hx, hS.eval hy, eqGuard, binOp, Op.intCmp]) h
theorem TOps.gtr {d x y T T' U p e rest} {k : IntKind} {a b : Int} (hx : opv S x = some (.int k a)) (hy : opv S y = some (.int k b)) (hn : Nat.blt d n = true)
    (h : TOps P n ((d, .bool (decide (b < a))) :: S) H rest A Q) : TOps P n S H (⟨some d, .binOp .gtr T x y T', U, p, e, none⟩ :: rest) A Q :=
  TOps.pure rfl rfl hn (fun a w hS _ => by simp [execOp, hS.eval hx, hS.eval hy, eqGuard, binOp, Op.intCmp]) h
theorem TOps.geq {d x y T T' U p e rest} {k : IntKind} {a b : Int} (hx : opv S x = some (.int k a)) (hy : opv S y = some (.int k b)) (hn : Nat.blt d n = true)
    (h : TOps P n ((d, .bool (decide (b ≤ a))) :: S) H rest A Q) : TOps P n S H (⟨some d, .binOp .geq T x y T', U, p, e, none⟩ :: rest) A Q :=
  TOps.pure rfl rfl hn (fun a w hS _ => by simp [execOp, hS.eval hx, hS.eval hy, eqGuard, binOp, Op.intCmp]) h
theorem TOps.eqlI {d x y T T' U p e rest} {k : IntKind} {a b : Int} (hx : opv S x = some (.int k a)) (hy : opv S y = some (.int k b)) (hn : Nat.blt d n = true)
    (h : TOps P n ((d, .bool (decide (a = b))) :: S) H rest A Q) : TOps P n S H (⟨some d, .binOp .eql T x y T', U, p, e, none⟩ :: rest) A Q :=
  TOps.pure rfl rfl hn (fun a w hS _ => by simp [execOp, hS.eval hx, hS.eval hy, eqGuard, binOp, Op.intCmp]; rfl) h
theorem TOps.neqI {d x y T T' U p e rest} {k : IntKind} {a b : Int} (hx : opv S x = some (.int k a)) (hy : opv S y = some (.int k b)) (hn : Nat.blt d n = true)
    (h : TOps P n ((d, .bool (decide (a ≠ b))) :: S) H rest A Q) : TOps P n S H (⟨some d, .binOp .neq T x y T', U, p, e, none⟩ :: rest) A Q :=
  TOps.pure rfl rfl hn (fun a w hS _ => by
    simp only [execOp, hS.eval hx, hS.eval hy, eqGuard, binOp, Op.intCmp, bne]
    simp [BEq.beq, instBEqOfDecidableEq]) h
theorem TOps.not {d x T U p e rest} {a : Bool} (hx : opv S x = some (.bool a)) (hn : Nat.blt d n = true)
    (h : TOps P n ((d, .bool (!a)) :: S) H rest A Q) : TOps P n S H (⟨some d, .unOp .not T x, U, p, e, none⟩ :: rest) A Q :=
  TOps.pure rfl rfl hn (fun a w hS _ => by simp [execOp, hS.eval hx, Op.unary]) h
theorem TOps.pick {d c x y U p e rest} {t : Bool} {u v : Value} (hc : opv S c = some (.bool t)) (hx : opv S x = some u) (hy : opv S y = some v) (hn : Nat.blt d n = true)
    (h : TOps P n ((d, bif t then u else v) :: S) H rest A Q) : TOps P n S H (⟨some d, .pick c x y, U, p, e, none⟩ :: rest) A Q :=
  TOps.pure rfl rfl hn (fun a w hS _ => by cases t <;> simp [execOp, hS.eval hx, hS.eval hy, hS.eval hc, asBool]) h
theorem TOps.fieldAddr {d s x f U p e rest} {fs : Array Field} {fl : Field} {b off off' : Nat} (hx : opv S x = some (.pointer (some ⟨b, off, none⟩))) (hs : P.underlying s = some (.struct fs))
    (hf : fs[f]? = some fl) {g : Bool} {zv : List Value} {sz y : Nat} (ht : TI P fl.type g zv sz y) (hz : sz ≠ 0) (ho : off + fl.offset = off') (hn : Nat.blt d n = true)
    (h : TOps P n ((d, .pointer (some ⟨b, off', none⟩)) :: S) H rest A Q) : TOps P n S H (⟨some d, .fieldAddr s x f, U, p, e, none⟩ :: rest) A Q :=
  TOps.pure rfl rfl hn (fun a w hS _ => by
    subst ho
    have : (⟨b, off, none⟩ : Addr).add fl.offset = ⟨b, off + fl.offset, none⟩ := by
      by_cases h0 : fl.offset = 0 <;> simp [Addr.add, h0]
    simp [execOp, hS.eval hx, Instr.fieldAt, run_underlying hs, hf, Instr.sureAddr, fieldPlace, ht.size, hz, this]) h
theorem TOps.indexAddr {d s x i U p e rest} {E : TypeId} {b off m cap off' : Nat} {k : IntKind} {z : Int} (hx : opv S x = some (slV (some b) off m cap)) (hi : opv S i = some (.int k z))
    (hs : P.underlying s = some (.slice E)) {g : Bool} {zv : List Value} {sz y : Nat} (ht : TI P E g zv sz y) (h0 : 0 ≤ z) (h1 : z < m) (ho : off + z.toNat * sz = off') (hn : Nat.blt d n = true)
    (h : TOps P n ((d, .pointer (some ⟨b, off', none⟩)) :: S) H rest A Q) : TOps P n S H (⟨some d, .indexAddr s x i, U, p, e, none⟩ :: rest) A Q :=
  TOps.pure rfl rfl hn (fun a w hS _ => by
    subst ho
    have : (⟨b, off, none⟩ : Addr).add (z.toNat * sz) = ⟨b, off + z.toNat * sz, none⟩ := by
      by_cases h0 : z.toNat * sz = 0 <;> simp [Addr.add, h0]
    simp [execOp, hS.eval hx, hS.eval hi, slV, Instr.indexAt, asIntOf, run_underlying hs, h0, h1, ht.size, this]) h
theorem TOps.len {d x s U p e rest} {a sp : Option Nat} {off m cap : Nat} {E : TypeId} (hx : opv S x = some (slV a off m cap sp)) (hs : P.underlying s = some (.slice E)) (hn : Nat.blt d n = true)
    (h : TOps P n ((d, .int .i64 m) :: S) H rest A Q) : TOps P n S H (⟨some d, .call ⟨.builtin .len, #[x], #[s]⟩, U, p, e, none⟩ :: rest) A Q :=
  TOps.pure rfl rfl hn (fun a w hS _ => by
    simp [execOp, hS.eval hx, slV, resolve, invoke, builtin, Builtin.len_, run_underlying hs, goInt]) h
theorem run_loadCells (w : World) (b off : Nat) (l : List Value) : ∀ (i : Nat) (acc : Array Value), (∀ j v, l[j]? = some v → w.cell? ⟨b, off + (i + j), none⟩ = some v) →
    (loadCellsFrom ⟨b, off, none⟩ i l.length acc).run P w = .ok (acc ++ l.toArray) w := by
  induction l with
  | nil => intro i acc h; simp [loadCellsFrom]
  | cons v l ih =>
    intro i acc h
    have e : (⟨b, off, none⟩ : Addr).add i = ⟨b, off + i, none⟩ := by
      by_cases h0 : i = 0 <;> simp [Addr.add, h0]
    have h0 := h 0 v rfl
    rw [Nat.add_zero] at h0
    simp only [List.length_cons, loadCellsFrom, Sem.run_bind, run_load, e, h0, Result.andThen_ok]
    rw [ih (i + 1) (acc.push v) (fun j u hj => by have := h (j + 1) u (by simpa using hj); rwa [show i + (j + 1) = i + 1 + j by omega] at this)]
    simp
theorem TOps.load1 {d T x U p e rest} {b off : Nat} {v : Value} {zv : List Value} {sz y : Nat} (hx : opv S x = some (.pointer (some ⟨b, off, none⟩))) (ht : TI P T false zv sz y) (hr : Rd H b off [v]) (hn : Nat.blt d n = true)
    (h : TOps P n ((d, v) :: S) H rest A Q) : TOps P n S H (⟨some d, .load T x, U, p, e, none⟩ :: rest) A Q :=
  TOps.pure rfl rfl hn (fun a w hS hM => by
    have hc := hr w hM 0 v rfl
    simp only [Nat.add_zero] at hc
    simp [execOp, hS.eval hx, Instr.loadAt, Instr.sureAddr, loadVar, ht.ag, hc]) h
theorem TOps.loadN {d T x U p e rest} {b off : Nat} {vs : List Value} {zv : List Value} {sz y : Nat} (hx : opv S x = some (.pointer (some ⟨b, off, none⟩))) (ht : TI P T true zv sz y) (hr : Rd H b off vs) (hl : vs.length = sz) (hn : Nat.blt d n = true)
    (h : TOps P n ((d, .agg vs.toArray) :: S) H rest A Q) : TOps P n S H (⟨some d, .load T x, U, p, e, none⟩ :: rest) A Q :=
  TOps.pure rfl rfl hn (fun a w hS hM => by
    have hc := run_loadCells (P := P) w b off vs 0 #[] (fun j v hj => by simpa using hr w hM j v hj)
    rw [hl] at hc
    simp [execOp, hS.eval hx, Instr.loadAt, Instr.sureAddr, loadVar, ht.ag, ht.size, loadCells, hc]) h
theorem Mem.alloc {w : World} (hM : Mem H w) (E : TypeId) (sz cap : Nat) (xs sp : List Value) (hl : xs.length + sp.length = cap * sz) (hc : cap ≤ 9223372036854775807) :
    Mem (row (some w.heap.size) E sz cap xs :: H) (w.alloc (.cells (xs ++ sp).toArray E)) := by
  refine Mem.cons (hM.same fun e he => ⟨rfl, rfl, rfl, by simp, fun k hk => ?_⟩) ?_ ?_ ?_
  · have := hM.lt e he k hk
    exact Go.RowKit.Below.heap_alloc w _ k this
  · exact ⟨sp, heap_alloc_new w _, hl, hc⟩
  · intro k hk
    cases hk
    simp
  · intro e he k hk hk'
    cases hk
    exact absurd (hM.lt e he _ hk') (by simp)
theorem TOps.newRow {o : Oper} {rest : List Oper} {d : Nat} {E sz cap : Nat} {xs sp : List Value} {val : Nat → Value} (ho : o.guard = none) (hd : o.dst = some d) (hn : Nat.blt d n = true) (hl : xs.length + sp.length = cap * sz) (hc : cap ≤ 9223372036854775807)
    (hrun : ∀ a w, Sl n S a → Mem H w → (execOp a.eval o).run P w = .ok (.value (val w.heap.size)) (w.alloc (.cells (xs ++ sp).toArray E)))
    (h : ∀ b, TOps P n ((d, val b) :: S) (row (some b) E sz cap xs :: H) rest A Q) : TOps P n S H (o :: rest) A Q := by
  refine TOps.worldEx (R := fun u H' => ∃ b, u = val b ∧ H' = row (some b) E sz cap xs :: H) ho hd hn (fun a w hS hM => ?_) (fun u H' hR => ?_)
  · exact ⟨val w.heap.size, _, w.alloc (.cells (xs ++ sp).toArray E), ⟨w.heap.size, rfl, rfl⟩, hrun a w hS hM, hM.alloc E sz cap xs sp hl hc⟩
  · obtain ⟨b, rfl, rfl⟩ := hR
    exact h b
theorem TOps.boxN {d E x U p e rest} {xs zv : List Value} {g : Bool} {sz y : Nat} (hx : opv S x = some (.agg xs.toArray)) (ht : TI P E g zv sz y) (hl : xs.length = sz) (hn : Nat.blt d n = true)
    (h : ∀ b, TOps P n ((d, .pointer (some ⟨b, 0, none⟩)) :: S) (row (some b) E sz 1 xs :: H) rest A Q) :
    TOps P n S H (⟨some d, .box E x, U, p, e, none⟩ :: rest) A Q :=
  TOps.newRow (sp := []) (val := fun b => .pointer (some ⟨b, 0, none⟩)) rfl rfl hn (by simp [hl]) (by decide) (fun a w hS hM => by
    simp [execOp, hS.eval hx, Instr.box, newVar, Go.newRow, Value.cells]) h
theorem TOps.box1 {d E x U p e rest} {v : Value} {zv : List Value} {g : Bool} {y : Nat} (hx : opv S x = some v) (hv : v.cells = #[v]) (ht : TI P E g zv 1 y) (hn : Nat.blt d n = true)
    (h : ∀ b, TOps P n ((d, .pointer (some ⟨b, 0, none⟩)) :: S) (row (some b) E 1 1 [v] :: H) rest A Q) :
    TOps P n S H (⟨some d, .box E x, U, p, e, none⟩ :: rest) A Q :=
  TOps.newRow (sp := []) (val := fun b => .pointer (some ⟨b, 0, none⟩)) rfl rfl hn (by simp) (by decide) (fun a w hS hM => by
    simp [execOp, hS.eval hx, Instr.box, newVar, Go.newRow, hv]) h
theorem TOps.alloc {d E U p e rest} {zv : List Value} {g : Bool} {sz y : Nat} (ht : TI P E g zv sz y) (hn : Nat.blt d n = true)
    (h : ∀ b, TOps P n ((d, .pointer (some ⟨b, 0, none⟩)) :: S) (row (some b) E sz 1 zv :: H) rest A Q) :
    TOps P n S H (⟨some d, .alloc E, U, p, e, none⟩ :: rest) A Q := by
  obtain ⟨z, hz, hzr⟩ := ht.zero
  exact TOps.newRow (sp := []) (val := fun b => .pointer (some ⟨b, 0, none⟩)) rfl rfl hn (by simp [ht.zs]) (by decide) (fun a w hS hM => by
    simp [execOp, Instr.alloc, hzr, newVar, Go.newRow, hz]) h
end
end Go.GL
