import Derived.Test.YtffghipagnjggaaGL1
import Derived.ProofKit
import Derived.Deep.Slices
import Derived.Deep.Fields
import Derived.Deep.Strs
import Derived.Lib.SmallJoins
import Derived.ChangeOld
import Derived.OpenShut
namespace Go.GL
set_option linter.unusedVariables false
structure Fm.Good (F : Fm) : Prop where
  v0 : 0 ≤ F.vars
  v1 : F.vars ≤ 24
  n1 : F.nodes.length ≤ 128
  node : ∀ i (h : i < F.nodes.length), nodeErr F.vars i F.nodes[i] = none
  top : F.valid F.top = true
theorem nodesErr_none_iff (vars : Int) : ∀ (l : List Nd) (i : Nat), nodesErr vars i l = none ↔ ∀ j (h : j < l.length), nodeErr vars ((i + j : Nat) : Int) l[j] = none := by
  intro l i
  refine ⟨?_, nodesErr_none vars l i⟩
  induction l generalizing i with
  | nil => intro _ j h; simp at h
  | cons d r ih =>
    intro h j hj
    cases he : nodeErr vars i d with
    | some e => simp [nodesErr, he] at h
    | none =>
      simp only [nodesErr, he] at h
      cases j with
      | zero => simpa using he
      | succ j =>
        have := ih (i + 1) h j (by simpa using hj)
        rw [show i + 1 + j = i + (j + 1) by omega] at this
        simpa using this
theorem Fm.good_iff (F : Fm) : F.err = none ↔ F.Good := by
  unfold Fm.err
  constructor
  · intro h
    split at h
    · cases h
    · split at h
      · cases h
      · rename_i h1 h2
        cases hn : nodesErr F.vars 0 F.nodes with
        | some e => rw [hn] at h; cases h
        | none =>
          rw [hn] at h
          simp only at h
          split at h
          · rename_i h3
            have h4 := (nodesErr_none_iff F.vars F.nodes 0).1 hn
            exact ⟨by omega, by omega, by omega, fun i hi => by simpa using h4 i hi, h3⟩
          · cases h
  · intro h
    have hn := (nodesErr_none_iff F.vars F.nodes 0).2 (fun j hj => by simpa using h.node j hj)
    have h0 := h.v0; have h1 := h.v1; have h2 := h.n1
    rw [if_neg (by omega), if_neg (by omega), hn]
    simp [h.top]
structure Nd.Fits (d : Nd) (m : Int) : Prop where
  k0 : 0 ≤ d.kind
  k1 : d.kind ≤ 5
  ar : argsB d.kind d.args.length = true
  args : ∀ a ∈ d.args, 0 ≤ a ∧ a < m
  kk : (d.kind = 0 → d.k = 0 ∨ d.k = 1) ∧ (d.kind = 4 → 1 ≤ d.k ∧ d.k ≤ d.args.length) ∧ (d.kind ≠ 0 → d.kind ≠ 4 → d.k = 0)
theorem nodeErr_none {vars i : Int} {d : Nd} : nodeErr vars i d = none ↔ d.Fits (vars + i) := by
  unfold nodeErr
  constructor
  · intro h
    split at h
    · cases h
    rename_i h1
    split at h
    · cases h
    rename_i h2
    split at h
    · cases h
    rename_i h3
    refine ⟨by omega, by omega, by simpa using h2, ?_, ?_⟩
    · intro a ha
      have : ¬ (d.args.any fun a => decide (a < 0) || decide (vars + i ≤ a)) = true := h3
      rw [List.any_eq_true] at this
      have h4 : ¬ ((decide (a < 0) || decide (vars + i ≤ a)) = true) := fun h => this ⟨a, ha, h⟩
      simp at h4
      omega
    · split at h
      · rename_i h4
        split at h
        · cases h
        · refine ⟨fun _ => by omega, fun h => by omega, fun h => absurd h4 h⟩
      · split at h
        · split at h
          · cases h
          · refine ⟨fun h => by omega, fun _ => by omega, fun _ h => absurd ‹_› h⟩
        · split at h
          · cases h
          · refine ⟨fun h => by omega, fun h => by omega, fun _ _ => by omega⟩
  · intro h
    have h0 := h.k0; have h1 := h.k1
    rw [if_neg (by omega), if_neg (by rw [h.ar]; decide), if_neg]
    · obtain ⟨a, b, c⟩ := h.kk
      split
      · rename_i h4
        have := a h4
        rw [if_neg (by omega)]
      · split
        · rename_i h5
          have := b h5
          rw [if_neg (by omega)]
        · rename_i h4 h5
          rw [if_neg (by have := c h4 h5; omega)]
    · rw [List.any_eq_true]
      rintro ⟨a, ha, h2⟩
      have := h.args a ha
      simp at h2
      omega
theorem Fm.Good.fits {F : Fm} (h : F.Good) (i : Nat) (hi : i < F.nodes.length) : F.nodes[i].Fits (F.vars + i) := nodeErr_none.1 (h.node i hi)
theorem Nd.Fits.len {d : Nd} {m : Int} (h : d.Fits m) : d.args.length ≤ 16 := by
  have := h.ar
  unfold argsB at this
  split at this
  · simp at this; simp [this]
  · split at this <;> simp at this <;> omega
theorem Fm.Good.topLt {F : Fm} (h : F.Good) : 0 ≤ F.top ∧ F.top < F.vars + F.nodes.length := by
  have := h.top
  simp [Fm.valid] at this
  omega
def bitB (z : Int) (i : Nat) : Bool := decide (iand (ishr z i) 1 = 1)
def nodeVal (d : Nd) (c : Int) : Bool :=
  if d.kind = 0 then decide (d.k = 1) else if d.kind = 1 then decide (c = 0) else if d.kind = 2 then decide (c = d.args.length)
  else if d.kind = 3 then decide (0 < c) else if d.kind = 4 then decide (d.k ≤ c) else if d.kind = 5 then decide (c.tmod 2 = 1) else false
def cnt (v : List Bool) (args : List Int) : Nat := args.countP (fun a => v.getD a.toNat false)
def valsFrom (v : List Bool) : List Nd → List Bool
  | [] => v
  | d :: r => valsFrom (v ++ [nodeVal d (cnt v d.args)]) r
def events (v : Nat) (failed : Int) : List Bool := (List.range v).map (bitB failed)
def Fm.values (F : Fm) (failed : Int) : List Bool := valsFrom (events F.vars.toNat failed) F.nodes
theorem valsFrom_append (l1 l2 : List Nd) : ∀ v, valsFrom v (l1 ++ l2) = valsFrom (valsFrom v l1) l2 := by
  induction l1 with
  | nil => intro v; rfl
  | cons d r ih => intro v; exact ih _
theorem valsFrom_length (l : List Nd) : ∀ v, (valsFrom v l).length = v.length + l.length := by
  induction l with
  | nil => intro v; rfl
  | cons d r ih => intro v; simp [valsFrom, ih]; omega
theorem events_length (v : Nat) (f : Int) : (events v f).length = v := by simp [events]
theorem values_take_succ {v : List Bool} {l : List Nd} {k : Nat} (hk : k < l.length) :
    valsFrom v (l.take (k + 1)) = valsFrom v (l.take k) ++ [nodeVal l[k] (cnt (valsFrom v (l.take k)) l[k].args)] := by
  rw [List.take_succ_eq_append_getElem hk, valsFrom_append]
  rfl
theorem cnt_take_succ {v : List Bool} {l : List Int} {k : Nat} (hk : k < l.length) :
    cnt v (l.take (k + 1)) = cnt v (l.take k) + (if v.getD l[k].toNat false then 1 else 0) := by
  unfold cnt
  rw [List.take_succ_eq_append_getElem hk, List.countP_append]
  simp [List.countP_cons, List.countP_nil]
theorem cnt_le (v : List Bool) (l : List Int) : cnt v l ≤ l.length := List.countP_le_length
abbrev bools (l : List Bool) : List Value := l.map Value.bool
theorem bools_get {l : List Bool} {i : Nat} (hi : i < l.length) : (bools l)[i]? = some (.bool (l.getD i false)) := by
  simp [hi]
theorem fill_set {α : Type} {v k : Nat} (f : Nat → α) (z : α) (hk : k < v) : ((List.range k).map f ++ List.replicate (v - k) z).set k (f k) = (List.range (k + 1)).map f ++ List.replicate (v - (k + 1)) z := by
  rw [List.set_append_right _ _ (by simp)]
  simp only [List.length_map, List.length_range, Nat.sub_self, List.range_succ, List.map_append, List.map_cons, List.map_nil, List.append_assoc, List.cons_append, List.nil_append]
  congr 1
  rw [show v - k = (v - (k + 1)) + 1 by omega, List.replicate_succ]
  rfl
end Go.GL
namespace Go.GL
set_option linter.unusedVariables false
set_option linter.unusedSimpArgs false
section
variable {P : Program} {n : Nat} {S : List (Nat × Value)} {H : List Ent} {A : Array Oper} {Q : Exit → Act → World → Prop}
theorem TOps.max2 {d x y t U p e rest} {k : IntKind} {a b : Int} (hx : opv S x = some (.int k a)) (hy : opv S y = some (.int k b)) (hn : Nat.blt d n = true)
    (h : TOps P n ((d, .int k (if b > a then b else a)) :: S) H rest A Q) : TOps P n S H (⟨some d, .call ⟨.builtin .max, #[x, y], t⟩, U, p, e, none⟩ :: rest) A Q :=
  TOps.pure rfl rfl hn (fun ac w hS _ => by simp [execOp, hS.eval hx, hS.eval hy, resolve, invoke, builtin, Builtin.max_, Builtin.max2]) h
theorem TOps.min2 {d x y t U p e rest} {k : IntKind} {a b : Int} (hx : opv S x = some (.int k a)) (hy : opv S y = some (.int k b)) (hn : Nat.blt d n = true)
    (h : TOps P n ((d, .int k (if b < a then b else a)) :: S) H rest A Q) : TOps P n S H (⟨some d, .call ⟨.builtin .min, #[x, y], t⟩, U, p, e, none⟩ :: rest) A Q :=
  TOps.pure rfl rfl hn (fun ac w hS _ => by simp [execOp, hS.eval hx, hS.eval hy, resolve, invoke, builtin, Builtin.min_, Builtin.min2]) h
theorem run_equal_slnil {T E : TypeId} (hT : P.underlying T = some (.slice E)) (a : Option Addr) (n c : Nat) (w : World) : (Op.equal T (.slice a n c) (.slice none 0 0)).run P w = .ok a.isNone w := by
  have key : ∀ d, (Op.equalIn (d + 1) T (.slice a n c) (.slice none 0 0)).run P w = .ok a.isNone w := by
    intro d
    cases a <;> simp [Op.equalIn, run_underlying hT]
  unfold Op.equal
  rw [show Op.maxDepth = 9999 + 1 from rfl]
  exact key 9999
theorem TOps.eqlSlNil {d T x T' U p e rest} {E : TypeId} {a sp : Option Nat} {off m c : Nat} (hx : opv S x = some (slV a off m c sp)) (hT : P.underlying T = some (.slice E)) (hn : Nat.blt d n = true)
    (h : TOps P n ((d, .bool a.isNone) :: S) H rest A Q) : TOps P n S H (⟨some d, .binOp .eql T x (.const (.slice none 0 0)) T', U, p, e, none⟩ :: rest) A Q :=
  TOps.pure rfl rfl hn (fun ac w hS _ => by
    have hk : ac.eval (.const (.slice none 0 0)) = .slice none 0 0 := rfl
    have he := run_equal_slnil (P := P) hT (a.map fun b => (⟨b, off, sp⟩ : Addr)) m c w
    have hx' : ac.eval x = .slice (a.map fun b => (⟨b, off, sp⟩ : Addr)) m c := hS.eval hx
    have hb : binOp .eql T (.slice (a.map fun b => (⟨b, off, sp⟩ : Addr)) m c) (.slice none 0 0) = (Functor.map Value.bool (Op.equal T (.slice (a.map fun b => (⟨b, off, sp⟩ : Addr)) m c) (.slice none 0 0))) := by
      simp [binOp]
    simp only [execOp, hx', hk, hb]
    cases a <;> simp at he <;> simp [eqGuard, he]) h
theorem foldl_setL (cs : List Value) (off : Nat) : ∀ (k : Nat) (cells : List Value), (cs.zipIdx k).foldl (fun (acc : Array Value) (q : Value × Nat) => acc.setIfInBounds (off + q.2) q.1) cells.toArray = (setL cells (off + k) cs).toArray := by
  induction cs with
  | nil => intro k cells; rfl
  | cons c cs ih =>
    intro k cells
    simp only [List.zipIdx_cons, List.foldl_cons, setL]
    rw [List.setIfInBounds_toArray, ih (k + 1) (cells.set (off + k) c)]
    rfl
def fillL (pl : List (Nat × Nat)) : List Value → List (Nat × Value) → Option (List Value)
  | cells, [] => some cells
  | cells, (i, v) :: r => match pl[i]? with
    | none => none
    | some q => match Nat.beq v.cells.toList.length q.2 && Nat.ble (q.1 + q.2) cells.length with
      | true => fillL pl (setL cells q.1 v.cells.toList) r
      | false => none
theorem fillL_eq {pl : List (Nat × Nat)} : ∀ (vs : List (Nat × Value)) (cells xs : List Value), fillL pl cells vs = some xs → Instr.fill (pl.toArray[·]?) cells.toArray vs = some xs.toArray
  | [], cells, xs, h => by simp [fillL] at h; simp [Instr.fill, h]
  | (i, v) :: r, cells, xs, h => by
    unfold fillL at h
    cases hp : pl[i]? with
    | none => simp [hp] at h
    | some q =>
      simp only [hp] at h
      cases hb : (Nat.beq v.cells.toList.length q.2 && Nat.ble (q.1 + q.2) cells.length) with
      | false => rw [hb] at h; cases h
      | true =>
        rw [hb] at h
        simp only at h
        simp only [Bool.and_eq_true] at hb
        have h1 : v.cells.size = q.2 := by simpa using Nat.eq_of_beq_eq_true hb.1
        have h2 : q.1 + q.2 ≤ cells.length := by simpa [Nat.ble_eq] using hb.2
        have ih := fillL_eq r _ _ h
        have hz := foldl_setL v.cells.toList q.1 0 cells
        obtain ⟨off, size⟩ := q
        simp only at h1 h2 hz ih
        simp only [Instr.fill, List.getElem?_toArray, hp]
        rw [if_neg (by simp [h1]; omega)]
        have hz' : (v.cells.zipIdx.foldl (fun cs (x : Value × Nat) => match x with | (c, k) => cs.setIfInBounds (off + k) c) cells.toArray) = (setL cells off v.cells.toList).toArray := by
          rw [← Array.foldl_toList, Array.toList_zipIdx]
          exact hz
        rw [hz']
        simpa using ih
theorem TOps.buildStruct {d T U p e rest} {parts : List (Nat × Operand)} {vs : List (Nat × Value)} {fs : Array Field} {zs : List Value} {sz y : Nat} {xs : List Value} (pl : List (Nat × Nat))
    (hT : P.underlying T = some (.struct fs)) (ht : TI P T true zs sz y) (hpl : ∀ w, (fs.mapM (fun f => do Pure.pure (f.offset, ← sizeOf f.type) : Field → Sem (Nat × Nat))).run P w = .ok pl.toArray w)
    (hp : PartsAre S parts vs) (hf : fillL pl zs vs = some xs) (hn : Nat.blt d n = true)
    (h : TOps P n ((d, .agg xs.toArray) :: S) H rest A Q) : TOps P n S H (⟨some d, .build T parts.toArray, U, p, e, none⟩ :: rest) A Q :=
  TOps.pure rfl rfl hn (fun ac w hS _ => by
    obtain ⟨i, z, h1, h2, h3, h4, h5⟩ := ht.i
    have hfill := fillL_eq vs zs xs hf
    have he := hp.eval hS
    have hq : (Array.map (fun x : Nat × Operand => (x.1, ac.eval x.2)) parts.toArray).toList = vs := by simpa using he
    simp only [execOp, Instr.build, Sem.run_bind, zeroValue, typeInfo, run_program, Result.andThen_ok, h1, h2, Sem.run_pure, run_underlying hT, h3]
    rw [hpl w]
    simp only [Result.andThen_ok]
    rw [hq, hfill]
    rfl) h
theorem Tri.exitW {X : Type} {id : Nat} {K : Act → World → Prop} {Sx : X → List (Nat × Value)} {Hx : X → List Ent} {p : X → Prop} {μ : X → Nat} {x : X} (h : Nrm n S H Q) :
    Tri P n S H (.exit id) (Exit.then K (LoopQ n Sx Hx p μ x (Exit.inBlock id Q))) :=
  Tri.exit fun a w hS hM => by
    simp only [Exit.then, LoopQ, Exit.inBlock, if_true]
    exact h a w hS hM
theorem TOps.rowCap {l : List Oper} {b E sz cap : Nat} {xs : List Value} (hm : row (some b) E sz cap xs ∈ H) (h : xs.length ≤ cap * sz → TOps P n S H l A Q) : TOps P n S H l A Q := by
  intro a w hS hM
  refine h ?_ a w hS hM
  have := hM.ok _ hm
  unfold row at this
  obtain ⟨sp, _, h2, _⟩ := this
  omega
end
theorem emod64 {a : Nat} (h : a < 9223372036854775808) : ((a : Int) % 18446744073709551616).toNat = a := by omega
theorem iand_nat {a b : Nat} (ha : a < 9223372036854775808) (hb : b < 9223372036854775808) : iand a b = ((a &&& b : Nat) : Int) := by
  unfold iand
  have h : (BitVec.ofInt 64 (a : Int) &&& BitVec.ofInt 64 (b : Int)).toNat = a &&& b := by
    simp only [BitVec.toNat_and, BitVec.toNat_ofInt]
    rw [show ((2 ^ 64 : Nat) : Int) = 18446744073709551616 by decide, emod64 ha, emod64 hb]
  rw [h, wrapI (by omega)]
  have : a &&& b ≤ a := Nat.and_le_left
  omega
theorem ior_nat {a b : Nat} (ha : a < 9223372036854775808) (hb : b < 9223372036854775808) : ior a b = ((a ||| b : Nat) : Int) := by
  unfold ior
  have h : (BitVec.ofInt 64 (a : Int) ||| BitVec.ofInt 64 (b : Int)).toNat = a ||| b := by
    simp only [BitVec.toNat_or, BitVec.toNat_ofInt]
    rw [show ((2 ^ 64 : Nat) : Int) = 18446744073709551616 by decide, emod64 ha, emod64 hb]
  have hlt : a ||| b < 2 ^ 63 := Nat.or_lt_two_pow (by simpa using ha) (by simpa using hb)
  rw [h, wrapI (by omega)]
  have : (2 : Nat) ^ 63 = 9223372036854775808 := by decide
  omega
theorem ixor_nat {a b : Nat} (ha : a < 9223372036854775808) (hb : b < 9223372036854775808) : ixor a b = ((a ^^^ b : Nat) : Int) := by
  unfold ixor
  have h : (BitVec.ofInt 64 (a : Int) ^^^ BitVec.ofInt 64 (b : Int)).toNat = a ^^^ b := by
    simp only [BitVec.toNat_xor, BitVec.toNat_ofInt]
    rw [show ((2 ^ 64 : Nat) : Int) = 18446744073709551616 by decide, emod64 ha, emod64 hb]
  have hlt : a ^^^ b < 2 ^ 63 := Nat.xor_lt_two_pow (by simpa using ha) (by simpa using hb)
  rw [h, wrapI (by omega)]
  have : (2 : Nat) ^ 63 = 9223372036854775808 := by decide
  omega
theorem ishr_nat {a k : Nat} (hk : k ≤ 64) : ishr a k = ((a >>> k : Nat) : Int) := by
  unfold ishr
  rw [Nat.min_eq_left hk, Nat.shiftRight_eq_div_pow]
  rw [Int.fdiv_eq_ediv_of_nonneg _ (by exact Int.le_of_lt (Int.pow_pos (by decide)))]
  norm_cast
theorem ishl_one {k : Nat} (hk : k < 63) : ishl 1 k = ((2 ^ k : Nat) : Int) := by
  unfold ishl
  rw [Nat.min_eq_left (by omega), Int.one_mul]
  have h : (2 : Nat) ^ k ≤ 2 ^ 62 := Nat.pow_le_pow_right (by decide) (by omega)
  have e : ((2 : Int) ^ k) = ((2 ^ k : Nat) : Int) := by norm_cast
  have h62 : (2 : Nat) ^ 62 = 4611686018427387904 := by decide
  rw [e]
  generalize (2 : Nat) ^ k = q at *
  exact wrapI (by omega) (by omega)
theorem bitB_nat {a i : Nat} (ha : a < 9223372036854775808) (hi : i ≤ 64) : bitB a i = a.testBit i := by
  unfold bitB
  rw [ishr_nat hi, show (1 : Int) = ((1 : Nat) : Int) from rfl, iand_nat (Nat.lt_of_le_of_lt (Nat.shiftRight_le _ _) ha) (by decide)]
  simp only [Nat.testBit, Nat.and_comm 1]
  have h := Nat.and_one_is_mod (a >>> i)
  rw [h]
  have h2 : (a >>> i) % 2 < 2 := Nat.mod_lt _ (by decide)
  by_cases h1 : (a >>> i) % 2 = 1
  · simp [h1]
  · have h0 : (a >>> i) % 2 = 0 := by omega
    simp [h0]
def markArgs (m : List Bool) (args : List Int) : List Bool := args.foldl (fun m a => m.set a.toNat true) m
def belowL (v : Nat) (nodes : List Nd) : Nat → List Bool → List Bool
  | 0, m => m
  | i + 1, m => belowL v nodes i (bif m.getD (v + i) false then markArgs m (nodes.getD i ⟨0, 0, []⟩).args else m)
def Fm.below (F : Fm) : List Bool := belowL F.vars.toNat F.nodes F.nodes.length ((List.replicate (F.vars.toNat + F.nodes.length) false).set F.top.toNat true)
theorem markArgs_length (args : List Int) : ∀ m, (markArgs m args).length = m.length := by
  induction args with
  | nil => intro m; rfl
  | cons a r ih => intro m; have := ih (m.set a.toNat true); simpa [markArgs] using this
theorem belowL_length (v : Nat) (nodes : List Nd) : ∀ i m, (belowL v nodes i m).length = m.length := by
  intro i
  induction i with
  | zero => intro m; rfl
  | succ i ih => intro m; unfold belowL; rw [ih]; cases m.getD (v + i) false <;> simp [markArgs_length]
theorem Fm.below_length (F : Fm) : F.below.length = F.vars.toNat + F.nodes.length := by
  simp [Fm.below, belowL_length]
theorem markArgs_take_succ {m : List Bool} {l : List Int} {k : Nat} (hk : k < l.length) : markArgs m (l.take (k + 1)) = (markArgs m (l.take k)).set l[k].toNat true := by
  unfold markArgs
  rw [List.take_succ_eq_append_getElem hk, List.foldl_append]
  rfl
def setOf (m : List Bool) : Nat → Nat
  | 0 => 0
  | k + 1 => bif m.getD k false then setOf m k ||| 2 ^ k else setOf m k
theorem setOf_lt (m : List Bool) : ∀ k, setOf m k < 2 ^ k
  | 0 => by simp [setOf]
  | k + 1 => by
    have ih := setOf_lt m k
    have h2 : (2 : Nat) ^ k < 2 ^ (k + 1) := Nat.pow_lt_pow_right (by decide) (by omega)
    unfold setOf
    cases m.getD k false
    · exact Nat.lt_trans ih h2
    · exact Nat.or_lt_two_pow (Nat.lt_trans ih h2) h2
theorem setOf_testBit (m : List Bool) : ∀ k i, (setOf m k).testBit i = (decide (i < k) && m.getD i false)
  | 0, i => by simp [setOf]
  | k + 1, i => by
    have ih := setOf_testBit m k i
    unfold setOf
    by_cases e : i = k
    · subst e
      cases hm : m.getD i false with
      | false => simp [ih]
      | true => simp [Nat.testBit_or, Nat.testBit_two_pow_self]
    · cases hm : m.getD k false with
      | false =>
        simp only [cond_false, ih]
        have : decide (i < k) = decide (i < k + 1) := by simp; omega
        rw [this]
      | true =>
        simp only [cond_true, Nat.testBit_or, ih, Nat.testBit_two_pow_of_ne (fun h => e h.symm), Bool.or_false]
        have : decide (i < k) = decide (i < k + 1) := by simp; omega
        rw [this]
def Fm.support (F : Fm) : Nat := setOf F.below F.vars.toNat
def Fm.setErr (F : Fm) (failed : Int) : Option Int :=
  match F.err with
  | some e => some e
  | none => if failed < 0 ∨ ((2 ^ F.vars.toNat : Nat) : Int) ≤ failed then some 3 else none
def Fm.value (F : Fm) (failed : Int) : Bool := (F.values failed).getD F.top.toNat false
theorem Fm.setErr_none {F : Fm} {z : Int} (h : F.setErr z = none) : F.Good ∧ 0 ≤ z ∧ z < ((2 ^ F.vars.toNat : Nat) : Int) := by
  unfold Fm.setErr at h
  cases he : F.err with
  | some e => rw [he] at h; cases h
  | none =>
    rw [he] at h
    simp only at h
    split at h
    · cases h
    · exact ⟨(Fm.good_iff F).1 he, by omega, by omega⟩
theorem pow24 {k : Nat} (h : k ≤ 24) : 2 ^ k ≤ 16777216 := Nat.pow_le_pow_right (n := 2) (by decide) h
def Fm.light (F : Fm) : Bool := decide (F.nodes.length ≤ 200) && F.nodes.all (fun d => decide (d.args.length ≤ 40))
def clipI (n lo hi : Int) : Int := if (if hi < n then hi else n) > lo then (if hi < n then hi else n) else lo
def NewF (F : Fm) (H : List Ent) : Value → List Ent → Prop := fun u H' => Le H' H ∧ H.Sublist H' ∧ RF H' u F
abbrev SA := Option Nat × Nat × Nat × Option Nat
def ndCells (d : Nd) (q : SA) : List Value := [.int .i64 d.kind, .int .i64 d.k, slV q.1 q.2.1 d.args.length q.2.2.1 q.2.2.2]
def nsCells : List Nd → List SA → List Value
  | d :: r, q :: s => ndCells d q ++ nsCells r s
  | _, _ => []
theorem nsCells_get : ∀ (ns : List Nd) (qs : List SA) (i : Nat) (d : Nd) (q : SA), ns[i]? = some d → qs[i]? = some q → ∀ j v, (ndCells d q)[j]? = some v → (nsCells ns qs)[i * 3 + j]? = some v
  | [], qs, i, d, q, h, _, j, v, _ => by simp at h
  | d :: r, [], i, d', q, _, h, j, v, _ => by simp at h
  | d :: r, q :: s, 0, d', q', h1, h2, j, v, hj => by
    simp at h1 h2
    subst h1 h2
    have hjl : j < (ndCells d q).length := (List.getElem?_eq_some_iff.1 hj).1
    rw [nsCells, Nat.zero_mul, Nat.zero_add, List.getElem?_append_left hjl]
    exact hj
  | d :: r, q :: s, i + 1, d', q', h1, h2, j, v, hj => by
    have ih := nsCells_get r s i d' q' (by simpa using h1) (by simpa using h2) j v hj
    rw [nsCells, List.getElem?_append_right (by simp [ndCells]; omega)]
    rw [show (i + 1) * 3 + j - (ndCells d q).length = i * 3 + j by simp [ndCells]; omega]
    exact ih
theorem nsCells_length : ∀ (ns : List Nd) (qs : List SA), qs.length = ns.length → (nsCells ns qs).length = ns.length * 3
  | [], [], _ => rfl
  | [], q :: s, h => by simp at h
  | d :: r, [], h => by simp at h
  | d :: r, q :: s, h => by
    have := nsCells_length r s (by simpa using h)
    simp [nsCells, this, ndCells]
    omega
theorem RNodes.ofRow {H : List Ent} {b E sz cap : Nat} {ns : List Nd} {qs : List SA} (hm : row (.some b) E sz cap (nsCells ns qs) ∈ H) (hl : qs.length = ns.length)
    (ha : ∀ (i : Nat) (d : Nd) (q : SA), ns[i]? = .some d → qs[i]? = .some q → RInts H q.1 q.2.1 d.args q.2.2.2) : RNodes H (.some b) 0 ns := by
  refine .inr ⟨b, rfl, rfl, fun i d hi => ?_⟩
  have hil : i < ns.length := (List.getElem?_eq_some_iff.1 hi).1
  have hq : qs[i]? = some qs[i] := List.getElem?_eq_getElem (by omega)
  refine ⟨qs[i].1, qs[i].2.1, qs[i].2.2.1, qs[i].2.2.2, ⟨Rd.ofRow hm _ _ (fun j v hj => ?_), ha i d _ hi hq⟩⟩
  rw [Nat.zero_add]
  exact nsCells_get ns qs i d qs[i] hi hq j v hj
theorem RInts.ofRow {H : List Ent} {b E sz cap : Nat} {xs : List Int} (hm : row (Option.some b) E sz cap (ints xs) ∈ H) : RInts H (Option.some b) 0 xs := RdS.ofRowS hm
theorem RInts.nil {H : List Ent} {a sp : Option Nat} {off : Nat} : RInts H a off [] sp := .inl rfl
end Go.GL
namespace Go.GL
set_option linter.unusedVariables false
theorem valsFrom_getD_lt (l : List Nd) : ∀ (v0 : List Bool) (j : Nat), j < v0.length → (valsFrom v0 l).getD j false = v0.getD j false := by
  induction l with
  | nil => intro v0 j _; rfl
  | cons d r ih =>
    intro v0 j hj
    rw [valsFrom, ih _ j (by simp; omega)]
    simp [List.getD_eq_getElem?_getD, List.getElem?_append_left hj]
theorem cnt_congr {v w : List Bool} {l : List Int} (h : ∀ a ∈ l, v.getD a.toNat false = w.getD a.toNat false) : cnt v l = cnt w l := by
  unfold cnt
  exact List.countP_congr (fun a ha => by rw [h a ha])
theorem valsFrom_node (l : List Nd) (v0 : List Bool) (i : Nat) (hi : i < l.length) (ha : ∀ a ∈ l[i].args, a.toNat < v0.length + i) :
    (valsFrom v0 l).getD (v0.length + i) false = nodeVal l[i] (cnt (valsFrom v0 l) l[i].args) := by
  have hsplit : l = l.take i ++ l[i] :: l.drop (i + 1) := by
    rw [List.getElem_cons_drop]
    simp
  have hlen : (valsFrom v0 (l.take i)).length = v0.length + i := by
    rw [valsFrom_length, List.length_take]
    omega
  have h1 : valsFrom v0 l = valsFrom (valsFrom v0 (l.take i) ++ [nodeVal l[i] (cnt (valsFrom v0 (l.take i)) l[i].args)]) (l.drop (i + 1)) := by
    conv => lhs; rw [hsplit]
    rw [valsFrom_append]
    rfl
  have h2 : cnt (valsFrom v0 (l.take i)) l[i].args = cnt (valsFrom v0 l) l[i].args := by
    refine cnt_congr fun a haa => ?_
    have hlt := ha a haa
    have h3 := valsFrom_getD_lt (l.drop (i + 1)) (valsFrom v0 (l.take i) ++ [nodeVal l[i] (cnt (valsFrom v0 (l.take i)) l[i].args)]) a.toNat (by rw [List.length_append, hlen, List.length_singleton]; omega)
    rw [h1, h3]
    rw [List.getD_eq_getElem?_getD, List.getD_eq_getElem?_getD, List.getElem?_append_left (show a.toNat < (valsFrom v0 (l.take i)).length by omega)]
  have h3 := valsFrom_getD_lt (l.drop (i + 1)) (valsFrom v0 (l.take i) ++ [nodeVal l[i] (cnt (valsFrom v0 (l.take i)) l[i].args)]) (v0.length + i) (by rw [List.length_append, hlen, List.length_singleton]; omega)
  rw [← h2, h1, h3, ← hlen]
  simp [List.getD_eq_getElem?_getD]
def Fm.val (F : Fm) (z : Int) (j : Nat) : Bool := (F.values z).getD j false
theorem Fm.val_event (F : Fm) (z : Int) {j : Nat} (hj : j < F.vars.toNat) : F.val z j = bitB z j := by
  unfold Fm.val Fm.values
  rw [valsFrom_getD_lt _ _ _ (by rw [events_length]; exact hj)]
  simp [events, hj]
theorem Fm.Good.argLt {F : Fm} (hg : F.Good) {i : Nat} (hi : i < F.nodes.length) : ∀ a ∈ F.nodes[i].args, a.toNat < F.vars.toNat + i := by
  intro a ha
  have := (hg.fits i hi).args a ha
  have := hg.v0
  omega
def cntOf (f : Nat → Bool) (args : List Int) : Nat := args.countP (fun a => f a.toNat)
theorem Fm.val_node {F : Fm} (hg : F.Good) (z : Int) {i : Nat} (hi : i < F.nodes.length) : F.val z (F.vars.toNat + i) = nodeVal F.nodes[i] (cntOf (F.val z) F.nodes[i].args) := by
  have := valsFrom_node F.nodes (events F.vars.toNat z) i hi (by rw [events_length]; exact hg.argLt hi)
  rw [events_length] at this
  exact this
theorem Fm.value_eq (F : Fm) (z : Int) : F.value z = F.val z F.top.toNat := rfl
theorem cntOf_congr {f g : Nat → Bool} {l : List Int} (h : ∀ a ∈ l, f a.toNat = g a.toNat) : cntOf f l = cntOf g l := by
  unfold cntOf
  exact List.countP_congr (fun a ha => by rw [h a ha])
theorem markArgs_getD (args : List Int) : ∀ (m : List Bool) (j : Nat), (markArgs m args).getD j false = (m.getD j false || (decide (j < m.length) && args.any (fun a => a.toNat == j))) := by
  induction args with
  | nil => intro m j; simp [markArgs]
  | cons a r ih =>
    intro m j
    have h := ih (m.set a.toNat true) j
    have e : markArgs m (a :: r) = markArgs (m.set a.toNat true) r := rfl
    rw [e, h]
    simp only [List.length_set, List.any_cons, List.getD_eq_getElem?_getD]
    by_cases hj : j < m.length
    · by_cases ha : a.toNat = j
      · subst ha
        simp [hj]
      · rw [List.getElem?_set_ne ha, show (a.toNat == j) = false from beq_eq_false_iff_ne.2 ha, Bool.false_or]
    · simp only [hj, decide_false, Bool.false_and, Bool.or_false]
      rw [List.getElem?_eq_none (by simp; omega), List.getElem?_eq_none (by omega)]
theorem belowL_mono (v : Nat) (nodes : List Nd) : ∀ (i : Nat) (m : List Bool) (j : Nat), m.getD j false = true → (belowL v nodes i m).getD j false = true := by
  intro i
  induction i with
  | zero => intro m j h; exact h
  | succ i ih =>
    intro m j h
    unfold belowL
    refine ih _ j ?_
    cases m.getD (v + i) false with
    | false => exact h
    | true => simp only [cond_true, markArgs_getD, h, Bool.true_or]
theorem belowL_same (v : Nat) (nodes : List Nd) (ha : ∀ (i : Nat) (h : i < nodes.length), ∀ a ∈ nodes[i].args, a.toNat < v + i) : ∀ (i : Nat), i ≤ nodes.length → ∀ (m : List Bool) (j : Nat), v + i ≤ j + 1 → (belowL v nodes i m).getD j false = m.getD j false := by
  intro i
  induction i with
  | zero => intro _ m j _; rfl
  | succ i ih =>
    intro hi m j hj
    unfold belowL
    rw [ih (by omega) _ j (by omega)]
    cases m.getD (v + i) false with
    | false => rfl
    | true =>
      simp only [cond_true, markArgs_getD]
      have hn : nodes.getD i ⟨0, 0, []⟩ = nodes[i] := by simp [show i < nodes.length by omega]
      rw [hn]
      have : (nodes[i].args.any fun a => a.toNat == j) = false := by
        rw [List.any_eq_false]
        intro a haa
        have := ha i (by omega) a haa
        have h2 : a.toNat ≠ j := by omega
        simp [h2]
      rw [this]; simp
theorem belowL_closed (v : Nat) (nodes : List Nd) (ha : ∀ (i : Nat) (h : i < nodes.length), ∀ a ∈ nodes[i].args, a.toNat < v + i) : ∀ (i : Nat), i ≤ nodes.length → ∀ (m : List Bool), m.length = v + nodes.length →
    ∀ (k : Nat) (hk : k < nodes.length), k < i → (belowL v nodes i m).getD (v + k) false = true → ∀ a ∈ nodes[k].args, (belowL v nodes i m).getD a.toNat false = true := by
  intro i
  induction i with
  | zero => intro _ m _ k _ hk; omega
  | succ i ih =>
    intro hi m hm k hkn hk hmark a haa
    unfold belowL at hmark ⊢
    have hlen : (bif m.getD (v + i) false then markArgs m (nodes.getD i ⟨0, 0, []⟩).args else m).length = v + nodes.length := by
      cases m.getD (v + i) false <;> simp [markArgs_length, hm]
    by_cases e : k = i
    · subst e
      rw [belowL_same v nodes ha k (by omega) _ _ (by omega)] at hmark
      refine belowL_mono v nodes k _ _ ?_
      have hn : nodes.getD k ⟨0, 0, []⟩ = nodes[k] := by simp [hkn]
      have hal := ha k hkn a haa
      cases hc : m.getD (v + k) false with
      | false => rw [hc] at hmark; simp only [cond_false] at hmark; rw [hc] at hmark; cases hmark
      | true =>
        simp only [cond_true, markArgs_getD, hn]
        have : (nodes[k].args.any fun b => b.toNat == a.toNat) = true := by
          rw [List.any_eq_true]
          exact ⟨a, haa, by simp⟩
        simp [this, hm]
        right
        omega
    · exact ih (by omega) _ hlen k hkn (by omega) hmark a haa
theorem Fm.below_closed {F : Fm} (hg : F.Good) {i : Nat} (hi : i < F.nodes.length) (hm : F.below.getD (F.vars.toNat + i) false = true) : ∀ a ∈ F.nodes[i].args, F.below.getD a.toNat false = true :=
  belowL_closed F.vars.toNat F.nodes (fun i h => hg.argLt h) F.nodes.length (Nat.le_refl _) _ (by simp) i hi hi hm
theorem Fm.below_top {F : Fm} (hg : F.Good) : F.below.getD F.top.toNat false = true := by
  unfold Fm.below
  refine belowL_mono _ _ _ _ _ ?_
  have := hg.topLt
  have := hg.v0
  simp [List.getD_eq_getElem?_getD, show F.top.toNat < F.vars.toNat + F.nodes.length by omega]
theorem Fm.below_lt {F : Fm} {j : Nat} (h : F.below.getD j false = true) : j < F.vars.toNat + F.nodes.length := by
  rcases Nat.lt_or_ge j (F.vars.toNat + F.nodes.length) with h' | h'
  · exact h'
  · rw [List.getD_eq_getElem?_getD, List.getElem?_eq_none (by rw [Fm.below_length]; exact h')] at h
    cases h
theorem Fm.val_congr {F : Fm} (hg : F.Good) {x y : Int} (h : ∀ i, i < F.vars.toNat → F.below.getD i false = true → bitB x i = bitB y i) :
    ∀ j, F.below.getD j false = true → F.val x j = F.val y j := by
  intro j
  induction j using Nat.strongRecOn with
  | _ j ih =>
    intro hj
    have hlt := Fm.below_lt hj
    rcases Nat.lt_or_ge j F.vars.toNat with hv | hv
    · rw [F.val_event x hv, F.val_event y hv, h j hv hj]
    · obtain ⟨i, rfl⟩ : ∃ i, j = F.vars.toNat + i := ⟨j - F.vars.toNat, by omega⟩
      have hi : i < F.nodes.length := by omega
      rw [Fm.val_node hg x hi, Fm.val_node hg y hi]
      rw [cntOf_congr (f := F.val x) (g := F.val y) fun a ha => ih a.toNat (hg.argLt hi a ha) (Fm.below_closed hg hi hj a ha)]
def lowBits (z : Int) (v : Nat) : Nat := (z % ((2 ^ v : Nat) : Int)).toNat
theorem lowBits_lt (z : Int) (v : Nat) : lowBits z v < 2 ^ v := by
  unfold lowBits
  have h : (0 : Int) < ((2 ^ v : Nat) : Int) := by exact_mod_cast Nat.two_pow_pos v
  have := Int.emod_lt_of_pos z h
  have := Int.emod_nonneg z (show ((2 ^ v : Nat) : Int) ≠ 0 by omega)
  omega
theorem u64_low (z : Int) {v : Nat} (hv : v ≤ 64) : ((z % 18446744073709551616).toNat) % 2 ^ v = lowBits z v := by
  unfold lowBits
  have hd : (2 ^ v : Nat) ∣ 18446744073709551616 := by
    rw [show (18446744073709551616 : Nat) = 2 ^ 64 by decide]
    exact Nat.pow_dvd_pow 2 hv
  obtain ⟨c, hc⟩ := hd
  have h0 : 0 ≤ z % 18446744073709551616 := Int.emod_nonneg _ (by decide)
  obtain ⟨q, hq⟩ := Int.eq_ofNat_of_zero_le h0
  rw [hq, Int.toNat_natCast]
  have h1 : z % ((2 ^ v : Nat) : Int) = (z % 18446744073709551616) % ((2 ^ v : Nat) : Int) := by
    rw [Int.emod_emod_of_dvd]
    exact ⟨(c : Int), by rw [show (18446744073709551616 : Int) = ((18446744073709551616 : Nat) : Int) by rfl, hc]; exact Int.natCast_mul _ _⟩
  rw [h1, hq]
  norm_cast
theorem iand_low {z : Int} {s v : Nat} (hs : s < 2 ^ v) (hv : v ≤ 62) : iand z s = ((lowBits z v &&& s : Nat) : Int) := by
  have h62 : (2 : Nat) ^ v ≤ 2 ^ 62 := Nat.pow_le_pow_right (by decide) hv
  have e62 : (2 : Nat) ^ 62 = 4611686018427387904 := by decide
  unfold iand
  have h : (BitVec.ofInt 64 z &&& BitVec.ofInt 64 (s : Int)).toNat = lowBits z v &&& s := by
    simp only [BitVec.toNat_and, BitVec.toNat_ofInt]
    rw [show ((2 ^ 64 : Nat) : Int) = 18446744073709551616 by decide, emod64 (by omega), ← u64_low z (by omega)]
    refine Nat.eq_of_testBit_eq fun i => ?_
    simp only [Nat.testBit_and, Nat.testBit_mod_two_pow]
    by_cases hi : i < v
    · simp [hi]
    · have : s.testBit i = false := Nat.testBit_lt_two_pow (Nat.lt_of_lt_of_le hs (Nat.pow_le_pow_right (by decide) (by omega)))
      simp [this]
  rw [h, wrapI (by omega)]
  have : lowBits z v &&& s ≤ s := Nat.and_le_right
  omega
theorem iand_mask {z : Int} {v : Nat} (hv : v ≤ 62) : iand z ((2 ^ v - 1 : Nat) : Int) = (lowBits z v : Int) := by
  rw [iand_low (v := v) (by have := Nat.two_pow_pos v; omega) hv, Nat.and_two_pow_sub_one_eq_mod, Nat.mod_eq_of_lt (lowBits_lt z v)]
theorem iandn_nat {a b : Nat} (ha : a < 9223372036854775808) (hb : b < 9223372036854775808) : iandn a b = ((a ^^^ (a &&& b) : Nat) : Int) := by
  unfold iandn
  have h : (BitVec.ofInt 64 (a : Int) &&& ~~~ BitVec.ofInt 64 (b : Int)).toNat = a ^^^ (a &&& b) := by
    simp only [BitVec.toNat_and, BitVec.toNat_not, BitVec.toNat_ofInt]
    rw [show ((2 ^ 64 : Nat) : Int) = 18446744073709551616 by decide, emod64 ha, emod64 hb]
    refine Nat.eq_of_testBit_eq fun i => ?_
    rw [Nat.testBit_and, show 2 ^ 64 - 1 - b = 2 ^ 64 - (b + 1) by omega, Nat.testBit_two_pow_sub_succ (by omega), Nat.testBit_xor, Nat.testBit_and]
    by_cases hi : i < 64
    · simp [hi]
      cases a.testBit i <;> cases b.testBit i <;> rfl
    · have : a.testBit i = false := Nat.testBit_lt_two_pow (Nat.lt_of_lt_of_le (show a < 2 ^ 64 by omega) (Nat.pow_le_pow_right (by decide) (by omega)))
      simp [this]
  have hlt : a ^^^ (a &&& b) < 2 ^ 63 := Nat.xor_lt_two_pow (by omega) (Nat.lt_of_le_of_lt Nat.and_le_left (by omega))
  rw [h, wrapI (by omega)]
  have : (2 : Nat) ^ 63 = 9223372036854775808 := by decide
  omega
end Go.GL
namespace Go.GL
set_option linter.unusedVariables false
theorem Fm.setErr_of {F : Fm} (hg : F.Good) {x : Nat} (hx : x < 2 ^ F.vars.toNat) : F.setErr (x : Int) = none := by
  unfold Fm.setErr
  rw [(Fm.good_iff F).2 hg]
  simp only
  rw [if_neg (by omega)]
theorem pow_lt63 {v : Nat} (hv : v ≤ 24) {x : Nat} (hx : x < 2 ^ v) : x < 9223372036854775808 := by
  have := pow24 hv
  omega
def mixS (a b s : Nat) : Nat := (a &&& s) ||| (b ^^^ (b &&& s))
theorem mixS_lt {a b s v : Nat} (ha : a < 2 ^ v) (hb : b < 2 ^ v) : mixS a b s < 2 ^ v :=
  Nat.or_lt_two_pow (Nat.lt_of_le_of_lt Nat.and_le_left ha) (Nat.xor_lt_two_pow hb (Nat.lt_of_le_of_lt Nat.and_le_left hb))
theorem Fm.support_lt (F : Fm) : F.support < 2 ^ F.vars.toNat := setOf_lt _ _
theorem law_support {F : Fm} (hg : F.Good) {a b : Nat} (ha : a < 2 ^ F.vars.toNat) (hb : b < 2 ^ F.vars.toNat) : F.value (a : Int) = F.value ((mixS a b F.support : Nat) : Int) := by
  have hv : F.vars.toNat ≤ 24 := by have := hg.v1; have := hg.v0; omega
  rw [Fm.value_eq, Fm.value_eq]
  refine Fm.val_congr hg (fun i hi hm => ?_) _ (Fm.below_top hg)
  rw [bitB_nat (pow_lt63 hv ha) (by omega), bitB_nat (pow_lt63 hv (mixS_lt ha hb)) (by omega)]
  have hs : F.support.testBit i = true := by
    unfold Fm.support
    rw [setOf_testBit, hm]
    simpa using hi
  unfold mixS
  rw [Nat.testBit_or, Nat.testBit_and, Nat.testBit_xor, Nat.testBit_and, hs]
  simp
theorem clipI_mid {z : Int} (h0 : 0 ≤ z) (h1 : z ≤ 24) : clipI z 0 24 = z := by
  unfold clipI
  (repeat' split) <;> omega
end Go.GL
namespace Go.GL
open Go.ChangeShapes Go.WideShapes Go.RowKit Go.Deep Go.Joins
set_option linter.unusedVariables false
instance : Inhabited Nd := ⟨⟨0, 0, []⟩⟩
instance : Inhabited Fm := ⟨⟨0, [], 0⟩⟩
theorem base_mem (w : World) : Mem [base w] w := by
  unfold base
  exact ⟨Same.refl _ _, fun k hk => hk, by simp, trivial⟩
theorem base_same {w w' : World} (h : Mem [base w] w') : Same (fun k => k < w.heap.size) w w' := by
  have := h.ok (base w) (by simp)
  unfold base at this
  exact this
theorem base_below {w w' : World} (h : Mem [base w] w') : Go.RowKit.Below w.heap.size w w' :=
  let s := base_same h
  ⟨s.os, s.tape, s.output, s.size, s.block⟩
theorem Rd.base {w : World} {b off : Nat} {vs : List Value} (h : ∀ (j : Nat) (v : Value), vs[j]? = some v → w.cell? ⟨b, off + j, none⟩ = some v) : Rd [GL.base w] b off vs := by
  intro w' hM j v hj
  have h0 := h j v hj
  have hlt := World.block_lt_of_cell? w ⟨b, off + j, none⟩ h0
  rw [World.cell?_of_block (w := w) (w' := w') ((base_same hM).block b hlt)]
  exact h0
theorem wf_I64 {z : Int} (h : (Lit.int .i64 z).wf = true) : I64 z := by
  exact bounds_i64 h
section
variable {H : Type} {enc : TypeId × Value → H} {P : Program} {w : World}
theorem open_args {tIs tI n : Nat} {c : Value} {y : DataW H × List MemPlace} (hIs : P.underlying tIs = some (.slice tI)) (hI : P.underlying tI = some (.int .i64)) (hC : P.cellsOf tI = 1)
    (h : DataW.trod enc P w 0 (fun _ => true) true n tIs [c] = some y) :
    ∃ (xs : List Int) (a : Option Nat) (o cap : Nat) (sp : Option Nat), c = slV a o xs.length cap sp ∧ RInts [base w] a o xs sp ∧ (∀ x ∈ xs, I64 x) ∧ xs.length ≤ 9223372036854775807 := by
  rcases open_ints hIs hI hC h with ⟨hc, _⟩ | ⟨a, len, cap, zs, hc, _, hl, hm, hz, _, hcell, hwf⟩
  · simp only [List.cons.injEq, and_true] at hc
    exact ⟨[], none, 0, 0, none, hc, .inl rfl, by simp, by simp⟩
  · simp only [List.cons.injEq, and_true] at hc
    simp only [if_true] at hz
    have hm' : cap ≤ 9223372036854775807 := by simpa [maxLen] using hm
    have hlen : (zs.take len).length = len := by rw [List.length_take]; omega
    obtain ⟨b, off, spt⟩ := a
    refine ⟨zs.take len, some b, off, cap, spt, by rw [hc, hlen]; rfl, ?_, fun x hx => wf_I64 (hwf x (List.mem_of_mem_take hx)), by omega⟩
    rcases Nat.eq_zero_or_pos len with h0 | hp
    · subst h0
      exact .inl (by simp [ints])
    · have h0 := hcell 0 (by omega)
      have hs : spt = none := by simpa [Addr.add] using World.cell?_spot h0
      subst hs
      refine .inr ⟨b, rfl, rfl, Rd.base (fun j v hj => ?_)⟩
      have hjl : j < (ints (zs.take len)).length := (List.getElem?_eq_some_iff.1 hj).1
      rw [List.length_map, hlen] at hjl
      have hc' := hcell j (by omega)
      rw [addr_add] at hc'
      rw [hc']
      have hjz : j < zs.length := by omega
      have : (ints (zs.take len))[j]? = some (.int .i64 (zs.getD j 0)) := by
        simp [ints, hjl, hjz]
      rw [this] at hj
      exact hj
theorem open_node {tN tIs tI n : Nat} {g0 g1 g2 : Field} {b off : Nat} {sp : Option Nat} {cs : List Value} {y : DataW H × List MemPlace} (hN : P.underlying tN = some (.struct #[g0, g1, g2])) (hone : oneCellFields P #[g0, g1, g2] = true) (hC3 : P.cellsOf tN = 3)
    (e0 : g0.type = tI) (e1 : g1.type = tI) (e2 : g2.type = tIs) (hIs : P.underlying tIs = some (.slice tI)) (hI : P.underlying tI = some (.int .i64)) (hC : P.cellsOf tI = 1)
    (hc : w.cells? 0 ⟨b, off, sp⟩ 3 = some cs) (h : DataW.trod enc P w 0 (fun _ => true) true n tN cs = some y) :
    sp = none ∧ ∃ d : Nd, d.ok ∧ ∃ aa o cap asp, NdAt [base w] b off d aa o cap asp := by
  obtain ⟨_, hcl, hat⟩ := World.cells?_some hc
  obtain ⟨c0, c1, c2, rfl⟩ : ∃ c0 c1 c2, cs = [c0, c1, c2] := by
    match cs, hcl with
    | [c0, c1, c2], _ => exact ⟨c0, c1, c2, rfl⟩
  have hs : sp = none := by
    have := hat 0 (by omega)
    simpa [Addr.add] using World.cell?_spot this
  subst hs
  obtain ⟨y0, y1, y2, n', _, _, h0, h1, h2⟩ := trod_struct3 hN h
  obtain ⟨o0, k0⟩ := hone_of hone 0 g0 rfl
  obtain ⟨o1, k1⟩ := hone_of hone 1 g1 rfl
  obtain ⟨o2, k2⟩ := hone_of hone 2 g2 rfl
  rw [e0] at k0; rw [e1] at k1; rw [e2] at k2
  simp only [o0, k0, e0, List.drop_zero, List.take_succ_cons, List.take_zero] at h0
  simp only [o1, k1, e1, List.drop_succ_cons, List.drop_zero, List.take_succ_cons, List.take_zero] at h1
  simp only [o2, k2, e2, List.drop_succ_cons, List.drop_zero, List.take_succ_cons, List.take_zero] at h2
  obtain ⟨kind, q0, _, w0⟩ := DataW.trod_int hI h0
  obtain ⟨k, q1, _, w1⟩ := DataW.trod_int hI h1
  obtain ⟨xs, aa, o, cap, asp, q2, q3, q4, q5⟩ := open_args hIs hI hC h2
  simp only [List.cons.injEq, and_true] at q0 q1
  subst q0 q1 q2
  refine ⟨rfl, ⟨kind, k, xs⟩, ⟨wf_I64 w0, wf_I64 w1, q4, q5⟩, aa, o, cap, asp, Rd.base (fun j v hj => ?_), q3⟩
  have hj3 : j < 3 := by
    have := (List.getElem?_eq_some_iff.1 hj).1
    simpa using this
  have := hat j hj3
  rw [addr_add] at this
  rw [this]
  exact hj
theorem open_formulaC {tNs tN tIs tI n : Nat} {g0 g1 g2 : Field} {c0 c1 c2 : Value} {y0 y1 y2 : DataW H × List MemPlace}
    (hNs : P.underlying tNs = some (.slice tN)) (hN : P.underlying tN = some (.struct #[g0, g1, g2])) (hone : oneCellFields P #[g0, g1, g2] = true) (hC3 : P.cellsOf tN = 3)
    (e0 : g0.type = tI) (e1 : g1.type = tI) (e2 : g2.type = tIs) (hIs : P.underlying tIs = some (.slice tI)) (hI : P.underlying tI = some (.int .i64)) (hC : P.cellsOf tI = 1)
    (h0 : DataW.trod enc P w 0 (fun _ => true) true n tI [c0] = some y0) (h1 : DataW.trod enc P w 0 (fun _ => true) true n tNs [c1] = some y1) (h2 : DataW.trod enc P w 0 (fun _ => true) true n tI [c2] = some y2) :
    ∃ F : Fm, F.ok ∧ RF [base w] (.agg #[c0, c1, c2]) F := by
  obtain ⟨vars, q0, _, w0⟩ := DataW.trod_int hI h0
  obtain ⟨top, q2, _, w2⟩ := DataW.trod_int hI h2
  simp only [List.cons.injEq, and_true] at q0 q2
  subst q0 q2
  rcases open_slice hNs h1 with ⟨hc, _⟩ | ⟨a, len, cap, m, n', D, Pl, hc, _, hl, hm, hmm, _, hi⟩
  · simp only [List.cons.injEq, and_true] at hc
    subst hc
    exact ⟨⟨vars, [], top⟩, ⟨wf_I64 w0, wf_I64 w2, by simp, by simp⟩, none, 0, 0, none, rfl, .inl rfl⟩
  · simp only [List.cons.injEq, and_true] at hc
    simp only [if_true] at hmm
    subst hc
    obtain ⟨b, off, sp⟩ := a
    have hm' : cap ≤ 9223372036854775807 := by simpa [maxLen] using hm
    have hsp : len ≠ 0 → sp = none := by
      intro h0
      obtain ⟨cs', hcs, ht⟩ := hi 0 (by omega)
      rw [Nat.zero_mul, hC3] at hcs
      exact (open_node hN hone hC3 e0 e1 e2 hIs hI hC hcs ht).1
    have each : ∀ i, i < len → ∃ d : Nd, d.ok ∧ ∃ aa o acap asp, NdAt [base w] b (off + i * 3) d aa o acap asp := by
      intro i hil
      have hs := hsp (by omega)
      subst hs
      obtain ⟨cs', hcs, ht⟩ := hi i (by omega)
      rw [hC3, addr_add] at hcs
      exact (open_node hN hone hC3 e0 e1 e2 hIs hI hC hcs ht).2
    obtain ⟨f, hf⟩ := choose_lt (p := fun i (d : Nd) => d.ok ∧ ∃ aa o acap asp, NdAt [base w] b (off + i * 3) d aa o acap asp) each
    have hlen : ((List.range len).map f).length = len := by simp
    refine ⟨⟨vars, (List.range len).map f, top⟩, ⟨wf_I64 w0, wf_I64 w2, ?_, by rw [hlen]; omega⟩, some b, off, cap, sp, by rw [hlen]; rfl, ?_⟩
    · intro d hd
      obtain ⟨i, hi', rfl⟩ := List.mem_map.1 hd
      exact (hf i (List.mem_range.1 hi')).1
    · rcases Nat.eq_zero_or_pos len with h0 | hp
      · subst h0
        exact .inl rfl
      · refine .inr ⟨b, rfl, hsp (by omega), fun i d hd => ?_⟩
        have hil : i < len := by
          have := (List.getElem?_eq_some_iff.1 hd).1
          rwa [hlen] at this
        have : d = f i := by simp [hil] at hd; exact hd.symm
        subst this
        exact (hf i hil).2
end
end Go.GL
namespace Go.GL
set_option linter.unusedVariables false
theorem lowBits_wrap (z : Int) {v : Nat} (hv : v ≤ 64) : lowBits (IntKind.i64.wrap z) v = lowBits z v := by
  rw [← u64_low _ hv, ← u64_low z hv]
  congr 2
  rw [IntKind.wrap_i64]
  omega
theorem lowBits_ior (a b : Int) {v : Nat} (hv : v ≤ 64) : lowBits (ior a b) v = lowBits a v ||| lowBits b v := by
  unfold ior
  rw [lowBits_wrap _ hv, ← u64_low _ hv, ← u64_low a hv, ← u64_low b hv]
  have h : ((((BitVec.ofInt 64 a ||| BitVec.ofInt 64 b).toNat : Int)) % 18446744073709551616).toNat = (a % 18446744073709551616).toNat ||| (b % 18446744073709551616).toNat := by
    have hlt := (BitVec.ofInt 64 a ||| BitVec.ofInt 64 b).isLt
    have e : (BitVec.ofInt 64 a ||| BitVec.ofInt 64 b).toNat = (a % 18446744073709551616).toNat ||| (b % 18446744073709551616).toNat := by
      simp only [BitVec.toNat_or, BitVec.toNat_ofInt]
      rw [show ((2 ^ 64 : Nat) : Int) = 18446744073709551616 by decide]
    rw [← e]
    omega
  rw [h]
  refine Nat.eq_of_testBit_eq fun i => ?_
  simp only [Nat.testBit_or, Nat.testBit_mod_two_pow]
  by_cases hi : i < v <;> simp [hi]
theorem cntOf_mono {f g : Nat → Bool} {l : List Int} (h : ∀ a ∈ l, f a.toNat = true → g a.toNat = true) : cntOf f l ≤ cntOf g l := by
  unfold cntOf
  exact List.countP_mono_left (fun a ha => h a ha)
theorem cntOf_le (f : Nat → Bool) (l : List Int) : cntOf f l ≤ l.length := List.countP_le_length
theorem nodeVal_mono {d : Nd} {c e : Nat} (h : c ≤ e) (hl : e ≤ d.args.length) (h1 : d.kind ≠ 1) (h5 : d.kind ≠ 5) (hv : nodeVal d c = true) : nodeVal d e = true := by
  unfold nodeVal at hv ⊢
  simp only [h1, h5, if_false] at hv ⊢
  by_cases h0 : d.kind = 0
  · simpa [h0] using hv
  · by_cases h2 : d.kind = 2
    · simp [h2] at hv ⊢; omega
    · by_cases h3 : d.kind = 3
      · simp [h3] at hv ⊢; omega
      · by_cases h4 : d.kind = 4
        · simp [h4] at hv ⊢; omega
        · simp [h0, h2, h3, h4] at hv
theorem Fm.val_mono {F : Fm} (hg : F.Good) (hk : ∀ d ∈ F.nodes, d.kind ≠ 1 ∧ d.kind ≠ 5) {x y : Int} (h : ∀ i, i < F.vars.toNat → bitB x i = true → bitB y i = true) :
    ∀ j, j < F.vars.toNat + F.nodes.length → F.val x j = true → F.val y j = true := by
  intro j
  induction j using Nat.strongRecOn with
  | _ j ih =>
    intro hlt hx
    rcases Nat.lt_or_ge j F.vars.toNat with hv | hv
    · rw [F.val_event x hv] at hx
      rw [F.val_event y hv]
      exact h j hv hx
    · obtain ⟨i, rfl⟩ : ∃ i, j = F.vars.toNat + i := ⟨j - F.vars.toNat, by omega⟩
      have hi : i < F.nodes.length := by omega
      rw [Fm.val_node hg x hi] at hx
      rw [Fm.val_node hg y hi]
      have hd := hk _ (List.getElem_mem hi)
      refine nodeVal_mono (cntOf_mono fun a ha h1 => ih a.toNat (hg.argLt hi a ha) (by have := hg.argLt hi a ha; omega) h1) (cntOf_le _ _) hd.1 hd.2 hx
theorem law_grows {F : Fm} (hg : F.Good) (hk : ∀ d ∈ F.nodes, d.kind ≠ 1 ∧ d.kind ≠ 5) {a b : Nat} (ha : a < 2 ^ F.vars.toNat) (hb : b < 2 ^ F.vars.toNat) (h : F.value (a : Int) = true) : F.value ((a ||| b : Nat) : Int) = true := by
  have hv : F.vars.toNat ≤ 24 := by have := hg.v1; have := hg.v0; omega
  rw [Fm.value_eq] at h ⊢
  refine Fm.val_mono hg hk (fun i hi hm => ?_) _ (by have := hg.topLt; have := hg.v0; omega) h
  rw [bitB_nat (pow_lt63 hv ha) (by omega)] at hm
  rw [bitB_nat (pow_lt63 hv (Nat.or_lt_two_pow ha hb)) (by omega), Nat.testBit_or, hm, Bool.true_or]
end Go.GL
namespace Go.GL
set_option linter.unusedVariables false
section
variable {P : Program}
theorem zeroInt {T : TypeId} (h : (P.info? T).bind (fun i => i.zero) = some (Value.int .i64 0)) (w : World) : (zeroValue T).run P w = .ok (.int .i64 0) w := by
  cases hi : P.info? T with
  | none => rw [hi] at h; cases h
  | some i =>
    rw [hi] at h
    simp only [Option.bind_some] at h
    simp [zeroValue, typeInfo, hi, h]
end
def NewS (E : TypeId) (xs : List Value) (n : Nat) (H : List Ent) : Value → List Ent → Prop := fun u H' => ∃ a cap, u = slV a 0 n cap ∧ (xs ≠ [] → ∃ b, a = some b) ∧ row a E 1 cap xs :: H = H'
theorem RdS.ofRowA {H : List Ent} {a : Option Nat} {E sz cap : Nat} {xs : List Value} (hm : row a E sz cap xs ∈ H) (ha : xs ≠ [] → ∃ b, a = some b) : RdS H a 0 xs := by
  cases xs with
  | nil => exact .inl rfl
  | cons x r =>
    obtain ⟨b, rfl⟩ := ha (by simp)
    exact RdS.ofRowS hm
theorem RdS.drop {H : List Ent} {a : Option Nat} {off : Nat} {xs : List Value} {sp : Option Nat} (h : RdS H a off xs sp) (k : Nat) : RdS H a (off + k) (xs.drop k) sp := by
  rcases h with h | ⟨b, h1, h2, h3⟩
  · subst h; exact .inl (by simp)
  · refine .inr ⟨b, h1, h2, ?_⟩
    intro w hM j v hj
    have := h3 w hM (k + j) v (by rw [List.getElem?_drop] at hj; exact hj)
    rw [show off + k + j = off + (k + j) by omega]
    exact this
theorem RdS.none {H : List Ent} {off : Nat} {xs : List Value} {sp : Option Nat} (h : RdS H Option.none off xs sp) : xs = [] := by
  rcases h with h | ⟨b, h1, _⟩
  · exact h
  · cases h1
theorem pref_succ {α : Type} {xs ys : List α} {k : Nat} (hk : k < xs.length) (hl : xs.length = ys.length) (h : xs.take k = ys.take k) (h1 : xs[k] = ys[k]'(by omega)) : xs.take (k + 1) = ys.take (k + 1) := by
  rw [List.take_succ_eq_append_getElem hk, List.take_succ_eq_append_getElem (by omega), h, h1]
theorem pref_ne {α : Type} {xs ys : List α} {k : Nat} (hk : k < xs.length) (hl : xs.length = ys.length) (h1 : xs[k] ≠ ys[k]'(by omega)) : xs ≠ ys := by
  intro h; subst h; exact h1 rfl
theorem pref_all {α : Type} {xs ys : List α} (hl : xs.length = ys.length) (h : xs.take xs.length = ys.take xs.length) : xs = ys := by
  rw [List.take_length] at h
  rw [h, hl, List.take_length]
def Fm.nodeVals (F : Fm) (z : Int) : List Bool := (F.values z).drop F.vars.toNat
theorem Fm.values_length (F : Fm) (z : Int) : (F.values z).length = F.vars.toNat + F.nodes.length := by
  unfold Fm.values; rw [valsFrom_length, events_length]
theorem Fm.nodeVals_length (F : Fm) (z : Int) : (F.nodeVals z).length = F.nodes.length := by
  unfold Fm.nodeVals; rw [List.length_drop, F.values_length]; omega
theorem nodeErr_ne_zero {v i e : Int} {d : Nd} (h : nodeErr v i d = some e) : e ≠ 0 := by
  unfold nodeErr at h
  (repeat' split at h) <;> first | (cases h; decide) | cases h
def argsLo (k : Int) : Int := if k = 0 then 0 else 1
def argsHi (k : Int) : Int := if k = 0 then 0 else if k = 1 then 1 else 16
theorem argsB_lohi {k : Int} {n : Nat} : argsB k n = (decide (argsLo k ≤ n) && decide ((n : Int) ≤ argsHi k)) := by
  unfold argsB argsLo argsHi
  split
  · by_cases h : (n : Int) = 0 <;> simp <;> omega
  · split
    · by_cases h : (n : Int) = 1
      · simp [h]
      · rw [decide_eq_false h]; symm; simp; omega
    · rfl
end Go.GL
namespace Go.GL
set_option linter.unusedVariables false
theorem bools_set (l : List Bool) (k : Nat) (b : Bool) : bools (l.set k b) = (bools l).set k (.bool b) := List.map_set
def refVals (v : Nat) (ev : List Bool) (nodes : List Nd) (k : Nat) : List Bool := (valsFrom ev (nodes.take k)).drop v ++ List.replicate (nodes.length - k) false
theorem refVals_length {v : Nat} {ev : List Bool} {nodes : List Nd} {k : Nat} (he : ev.length = v) (hk : k ≤ nodes.length) : (refVals v ev nodes k).length = nodes.length := by
  unfold refVals
  rw [List.length_append, List.length_drop, valsFrom_length, List.length_take, List.length_replicate]
  omega
theorem refVals_set {v : Nat} {ev : List Bool} {nodes : List Nd} {k : Nat} (he : ev.length = v) (hk : k < nodes.length) :
    (refVals v ev nodes k).set k (nodeVal nodes[k] (cnt (valsFrom ev (nodes.take k)) nodes[k].args)) = refVals v ev nodes (k + 1) := by
  have hl : ((valsFrom ev (nodes.take k)).drop v).length = k := by rw [List.length_drop, valsFrom_length, List.length_take]; omega
  unfold refVals
  rw [List.set_append_right _ _ (by omega), hl, Nat.sub_self, values_take_succ hk, List.drop_append_of_le_length (by rw [valsFrom_length, List.length_take]; omega), show nodes.length - k = (nodes.length - (k + 1)) + 1 by omega, List.replicate_succ]
  simp
theorem refVals_get {v : Nat} {ev : List Bool} {nodes : List Nd} {k a : Nat} (he : ev.length = v) (hk : k ≤ nodes.length) (h1 : v ≤ a) (h2 : a < v + k) : (refVals v ev nodes k).getD (a - v) false = (valsFrom ev (nodes.take k)).getD a false := by
  have hl : ((valsFrom ev (nodes.take k)).drop v).length = k := by rw [List.length_drop, valsFrom_length, List.length_take]; omega
  unfold refVals
  rw [List.getD_eq_getElem?_getD, List.getElem?_append_left (by omega), List.getElem?_drop, List.getD_eq_getElem?_getD]
  congr 3
  omega
def ofVal (v : Int) (vs : List Bool) (z : Int) (a : Int) : Bool := if a < v then bitB z a.toNat else vs.getD (a - v).toNat false
theorem ofVal_eq {v : Nat} {z : Int} {nodes : List Nd} {k : Nat} {a : Int} (hk : k ≤ nodes.length) (h0 : 0 ≤ a) (h1 : a < (v : Int) + k) : ofVal v (refVals v (events v z) nodes k) z a = (valsFrom (events v z) (nodes.take k)).getD a.toNat false := by
  unfold ofVal
  split
  · rename_i h
    rw [valsFrom_getD_lt _ _ _ (by rw [events_length]; omega)]
    simp [events, show a.toNat < v by omega]
  · rw [← refVals_get (events_length v z) hk (a := a.toNat) (by omega) (by omega)]
    congr 1
    omega
theorem refVals_all {v : Nat} {ev : List Bool} {nodes : List Nd} : refVals v ev nodes nodes.length = (valsFrom ev nodes).drop v := by
  unfold refVals
  simp
theorem refVals_zero {v : Nat} {ev : List Bool} {nodes : List Nd} (he : ev.length = v) : refVals v ev nodes 0 = List.replicate nodes.length false := by
  unfold refVals
  simp [valsFrom, ← he]
end Go.GL
namespace Go.GL
theorem nodesErr_ne_zero {v e : Int} : ∀ (l : List Nd) (i : Nat), nodesErr v i l = some e → e ≠ 0
  | [], i, h => by cases h
  | d :: r, i, h => by
    unfold nodesErr at h
    cases hd : nodeErr v i d with
    | some e' => rw [hd] at h; cases h; exact nodeErr_ne_zero hd
    | none => rw [hd] at h; exact nodesErr_ne_zero r (i + 1) h
theorem Fm.err_ne_zero {F : Fm} {e : Int} (h : F.err = some e) : e ≠ 0 := by
  unfold Fm.err at h
  split at h
  · cases h; decide
  · split at h
    · cases h; decide
    · cases hn : nodesErr F.vars 0 F.nodes with
      | some e' => rw [hn] at h; cases h; exact nodesErr_ne_zero _ _ hn
      | none =>
        rw [hn] at h
        simp only at h
        split at h
        · cases h
        · cases h; decide
theorem Fm.err_of {F : Fm} (h : F.err.getD 0 = 0) : F.err = none := by
  cases he : F.err with
  | none => rfl
  | some e => rw [he] at h; exact absurd h (Fm.err_ne_zero he)
theorem Fm.setErr_good {F : Fm} (hg : F.Good) (z : Int) : F.setErr z = if 0 ≤ z ∧ z < ((2 ^ F.vars.toNat : Nat) : Int) then none else some 3 := by
  unfold Fm.setErr
  rw [(Fm.good_iff F).2 hg]
  simp only
  by_cases h : 0 ≤ z ∧ z < ((2 ^ F.vars.toNat : Nat) : Int)
  · rw [if_pos h, if_neg (by omega)]
  · rw [if_neg h, if_pos (by omega)]
end Go.GL
namespace Go.GL
set_option linter.unusedVariables false
theorem Fm.nodeVals_getD (F : Fm) (z : Int) (i : Nat) : (F.nodeVals z).getD i false = F.val z (F.vars.toNat + i) := by
  unfold Fm.nodeVals Fm.val
  rw [List.getD_eq_getElem?_getD, List.getElem?_drop, List.getD_eq_getElem?_getD]
theorem cntOf_take_succ {f : Nat → Bool} {l : List Int} {k : Nat} (hk : k < l.length) :
    cntOf f (l.take (k + 1)) = cntOf f (l.take k) + (if f l[k].toNat then 1 else 0) := by
  unfold cntOf
  rw [List.take_succ_eq_append_getElem hk, List.countP_append]
  simp [List.countP_cons, List.countP_nil]
theorem iand_one {c : Nat} (h : c < 9223372036854775808) : iand (c : Int) 1 = ((c % 2 : Nat) : Int) := by
  rw [show (1 : Int) = ((1 : Nat) : Int) from rfl, iand_nat h (by decide), Nat.and_one_is_mod]
def wantOf (d : Nd) (yes no : Nat) : Bool :=
  if d.kind = 0 then decide (d.k = 1) else if d.kind = 1 then decide ((no : Int) = 1) else if d.kind = 2 then decide ((no : Int) = 0)
  else if d.kind = 3 then decide (0 < (yes : Int)) else if d.kind = 4 then decide (d.k ≤ yes) else decide (iand (yes : Int) 1 = 1)
theorem wantOf_eq {d : Nd} {m : Int} {yes no : Nat} (hf : d.Fits m) (h : yes + no = d.args.length) : wantOf d yes no = nodeVal d yes := by
  have hl := hf.len
  have har := hf.ar
  have h0 := hf.k0; have h5 := hf.k1
  unfold wantOf nodeVal
  split
  · rfl
  · split
    · rename_i _ h1
      unfold argsB at har
      rw [if_neg (by omega), if_pos h1] at har
      simp at har
      simp
      omega
    · split
      · simp; omega
      · split
        · rfl
        · split
          · rfl
          · rw [if_pos (by omega), iand_one (by omega)]
            have : ((yes : Int).tmod 2) = ((yes % 2 : Nat) : Int) := by norm_cast
            rw [this]
theorem argVal {F : Fm} (hg : F.Good) (z : Int) {a : Int} (h0 : 0 ≤ a) :
    (decide (a < F.vars) && decide (iand (ishr z a.toNat) 1 = 1) || decide (F.vars ≤ a) && (F.nodeVals z).getD (a - F.vars).toNat false) = F.val z a.toNat := by
  have g0 := hg.v0
  by_cases h : a < F.vars
  · rw [F.val_event z (by omega), decide_eq_true h, decide_eq_false (show ¬ F.vars ≤ a by omega)]
    simp [bitB]
  · rw [F.nodeVals_getD, decide_eq_false h, decide_eq_true (show F.vars ≤ a by omega), show F.vars.toNat + (a - F.vars).toNat = a.toNat by omega]
    simp
end Go.GL
namespace Go.GL
set_option linter.unusedVariables false
section
variable {P : Program} {n : Nat} {S : List (Nat × Value)} {H : List Ent} {A : Array Oper} {Q : Exit → Act → World → Prop}
def ExitTo (n : Nat) (S : List (Nat × Value)) (H : List Ent) (id : Nat) (Q : Exit → Act → World → Prop) : Prop := ∀ a w, Sl n S a → Mem H w → Q (.exit id) a w
theorem Tri.exitTo {id : Nat} (h : ExitTo n S H id Q) : Tri P n S H (.exit id) Q := Tri.exit h
theorem ExitTo.seq {id : Nat} {K : Act → World → Prop} (h : ExitTo n S H id Q) : ExitTo n S H id (Exit.then K Q) := h
theorem ExitTo.blk {id : Nat} (h : Nrm n S H Q) : ExitTo n S H id (Exit.inBlock id Q) := fun a w h1 h2 => by
  simp only [Exit.inBlock, if_true]; exact h a w h1 h2
theorem ExitTo.blkNe {id id' : Nat} (hne : Nat.beq id id' = false) (h : ExitTo n S H id Q) : ExitTo n S H id (Exit.inBlock id' Q) := fun a w h1 h2 => by
  have : id ≠ id' := fun e => by subst e; simp at hne
  simp only [Exit.inBlock, if_neg this]; exact h a w h1 h2
theorem ExitTo.loop {X : Type} {id : Nat} {Sx : X → List (Nat × Value)} {Hx : X → List Ent} {p : X → Prop} {μ : X → Nat} {x : X} (h : ExitTo n S H id Q) : ExitTo n S H id (LoopQ n Sx Hx p μ x Q) := h
section
variable {X : Type} {id id2 ti tn m k : Nat} {Sx : X → Nat → List (Nat × Value)} {Hx : X → Nat → List Ent} {p : X → Nat → Prop}
theorem ExitTo.body (h : Nrm n S H (BodyQ n id id2 ti tn m k Sx Hx p Q)) : ExitTo n S H id2 (BodyQ n id id2 ti tn m k Sx Hx p Q) := fun a w h1 h2 => by
  simp only [BodyQ, if_true]; exact h a w h1 h2
theorem ExitTo.brk (hne : Nat.beq id id2 = false) (h : Nrm n S H Q) : ExitTo n S H id (BodyQ n id id2 ti tn m k Sx Hx p Q) := fun a w h1 h2 => by
  have : id ≠ id2 := fun e => by subst e; simp at hne
  simp only [BodyQ, if_neg this, if_true]; exact h a w h1 h2
theorem ExitTo.bodyNe {j : Nat} (hne : Nat.beq j id2 = false) (hne2 : Nat.beq j id = false) (h : ExitTo n S H j Q) : ExitTo n S H j (BodyQ n id id2 ti tn m k Sx Hx p Q) := fun a w h1 h2 => by
  have h3 : j ≠ id2 := fun e => by subst e; simp at hne
  have h4 : j ≠ id := fun e => by subst e; simp at hne2
  simp only [BodyQ, if_neg h3, if_neg h4]; exact h a w h1 h2
end
end
end Go.GL
