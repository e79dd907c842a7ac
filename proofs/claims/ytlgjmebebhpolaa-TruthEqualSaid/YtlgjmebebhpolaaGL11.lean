import Derived.Test.YtlgjmebebhpolaaGL10
namespace Go.GL
set_option linter.unusedVariables false
set_option linter.unusedSimpArgs false
section
variable {P : Program} {n : Nat} {S : List (Nat × Value)} {H : List Ent} {A : Array Oper} {Q : Exit → Act → World → Prop}
theorem TOps.max2 {d x y t U p e rest} {k : IntKind} {a b : Int} (hx : opv S x = some (.int k a)) (hy : opv S y = some (.int k b)) (hn : Nat.blt d n = true)
    (h : TOps P n ((d, .int k (if b > a then b else a)) :: S) H rest A Q) : TOps P n S H (⟨some d, .call ⟨.builtin .max, #[x, y], t⟩, U, p, e, none⟩ :: rest) A Q :=
  TOps.pure rfl rfl hn (fun ac w hS _ => by simp [execOp, hS.eval hx, hS.eval hy, resolve, invoke, builtin, Builtin.max_, Builtin.max2]) h
theorem TOps.min2 {d x y t U p e rest} {k : IntKind} {a b : Int} (hx : opv S x = some (.int k a)) (hy : opv S y = some (.int k b)) (hn : Nat.blt d n = true)
    (h : TOps P n ((d, .int k (if b < a then b else a)) :: S) H rest A Q) : TOps P n S H (⟨some d, .call ⟨.builtin .min, #[x, y], t⟩, U, p, e, none⟩ :: rest) A Q :=
  TOps.pure rfl rfl hn (fun ac w hS _ => by simp [execOp, hS.eval hx, hS.eval hy, resolve, invoke, builtin, Builtin.min_, Builtin.min2]) h
theorem run_equal_slnil {T E : TypeId} (hT : P.underlying T = some (.slice E)) (a : Option Addr) (n c : Nat) (w : World) : (Op.equal T (.slice a n c) (.slice none 0 0)).run P w = .ok a.isNone w := by
  have key : ∀ d, (Op.equalIn (d + 1) T (.slice a n c) (.slice none 0 0)).run P w = .ok a.isNone w := by
    intro d
    cases a <;> simp [Op.equalIn, run_underlying hT]
  unfold Op.equal
  rw [show Op.maxDepth = 9999 + 1 from rfl]
  exact key 9999
theorem TOps.eqlSlNil {d T x T' U p e rest} {E : TypeId} {a sp : Option Nat} {off m c : Nat} (hx : opv S x = some (slV a off m c sp)) (hT : P.underlying T = some (.slice E)) (hn : Nat.blt d n = true)
    (h : TOps P n ((d, .bool a.isNone) :: S) H rest A Q) : TOps P n S H (⟨some d, .binOp .eql T x (.const (.slice none 0 0)) T', U, p, e, none⟩ :: rest) A Q :=
  TOps.pure rfl rfl hn (fun ac w hS _ => by
    have hk : ac.eval (.const (.slice none 0 0)) = .slice none 0 0 := rfl
    have he := run_equal_slnil (P := P) hT (a.map fun b => (⟨b, off, sp⟩ : Addr)) m c w
    have hx' : ac.eval x = .slice (a.map fun b => (⟨b, off, sp⟩ : Addr)) m c := hS.eval hx
    have hb : binOp .eql T (.slice (a.map fun b => (⟨b, off, sp⟩ : Addr)) m c) (.slice none 0 0) = (Functor.map Value.bool (Op.equal T (.slice (a.map fun b => (⟨b, off, sp⟩ : Addr)) m c) (.slice none 0 0))) := by
      simp [binOp]
    simp only [execOp, hx', hk, hb]
    cases a <;> simp at he <;> simp [eqGuard, he]) h
theorem foldl_setL (cs : List Value) (off : Nat) : ∀ (k : Nat) (cells : List Value), (cs.zipIdx k).foldl (fun (acc : Array Value) (q : Value × Nat) => acc.setIfInBounds (off + q.2) q.1) cells.toArray = (setL cells (off + k) cs).toArray := by
  induction cs with
  | nil => intro k cells; rfl
  | cons c cs ih =>
    intro k cells
    simp only [List.zipIdx_cons, List.foldl_cons, setL]
    rw [List.setIfInBounds_toArray, ih (k + 1) (cells.set (off + k) c)]
    rfl
def fillL (pl : List (Nat × Nat)) : List Value → List (Nat × Value) → Option (List Value)
  | cells, [] => some cells
  | cells, (i, v) :: r => match pl[i]? with
    | none => none
    | some q => match Nat.beq v.cells.toList.length q.2 && Nat.ble (q.1 + q.2) cells.length with
      | true => fillL pl (setL cells q.1 v.cells.toList) r
      | false => none
theorem fillL_eq {pl : List (Nat × Nat)} : ∀ (vs : List (Nat × Value)) (cells xs : List Value), fillL pl cells vs = some xs → Instr.fill (pl.toArray[·]?) cells.toArray vs = some xs.toArray
  | [], cells, xs, h => by simp [fillL] at h; simp [Instr.fill, h]
  | (i, v) :: r, cells, xs, h => by
    unfold fillL at h
    cases hp : pl[i]? with
    | none => simp [hp] at h
    | some q =>
      simp only [hp] at h
      cases hb : (Nat.beq v.cells.toList.length q.2 && Nat.ble (q.1 + q.2) cells.length) with
      | false => rw [hb] at h; cases h
      | true =>
        rw [hb] at h
        simp only at h
        simp only [Bool.and_eq_true] at hb
        have h1 : v.cells.size = q.2 := by simpa using Nat.eq_of_beq_eq_true hb.1
        have h2 : q.1 + q.2 ≤ cells.length := by simpa [Nat.ble_eq] using hb.2
        have ih := fillL_eq r _ _ h
        have hz := foldl_setL v.cells.toList q.1 0 cells
        obtain ⟨off, size⟩ := q
        simp only at h1 h2 hz ih
        simp only [Instr.fill, List.getElem?_toArray, hp]
        rw [if_neg (by simp [h1]; omega)]
        have hz' : (v.cells.zipIdx.foldl (fun cs (x : Value × Nat) => match x with | (c, k) => cs.setIfInBounds (off + k) c) cells.toArray) = (setL cells off v.cells.toList).toArray := by
          rw [← Array.foldl_toList, Array.toList_zipIdx]
          exact hz
        rw [hz']
        simpa using ih
theorem TOps.buildStruct {d T U p e rest} {parts : List (Nat × Operand)} {vs : List (Nat × Value)} {fs : Array Field} {zs : List Value} {sz y : Nat} {xs : List Value} (pl : List (Nat × Nat))
    (hT : P.underlying T = some (.struct fs)) (ht : TI P T true zs sz y) (hpl : ∀ w, (fs.mapM (fun f => do Pure.pure (f.offset, ← sizeOf f.type) : Field → Sem (Nat × Nat))).run P w = .ok pl.toArray w)
    (hp : PartsAre S parts vs) (hf : fillL pl zs vs = some xs) (hn : Nat.blt d n = true)
    (h : TOps P n ((d, .agg xs.toArray) :: S) H rest A Q) : TOps P n S H (⟨some d, .build T parts.toArray, U, p, e, none⟩ :: rest) A Q :=
  TOps.pure rfl rfl hn (fun ac w hS _ => by
    obtain ⟨i, z, h1, h2, h3, h4, h5⟩ := ht.i
    have hfill := fillL_eq vs zs xs hf
    have he := hp.eval hS
    have hq : (Array.map (fun x : Nat × Operand => (x.1, ac.eval x.2)) parts.toArray).toList = vs := by simpa using he
    simp only [execOp, Instr.build, Sem.run_bind, zeroValue, typeInfo, run_program, Result.andThen_ok, h1, h2, Sem.run_pure, run_underlying hT, h3]
    rw [hpl w]
    simp only [Result.andThen_ok]
    rw [hq, hfill]
    rfl) h
theorem Tri.exitW {X : Type} {id : Nat} {K : Act → World → Prop} {Sx : X → List (Nat × Value)} {Hx : X → List Ent} {p : X → Prop} {μ : X → Nat} {x : X} (h : Nrm n S H Q) :
    Tri P n S H (.exit id) (Exit.then K (LoopQ n Sx Hx p μ x (Exit.inBlock id Q))) :=
  Tri.exit fun a w hS hM => by
    simp only [Exit.then, LoopQ, Exit.inBlock, if_true]
    exact h a w hS hM
theorem TOps.rowCap {l : List Oper} {b E sz cap : Nat} {xs : List Value} (hm : row (some b) E sz cap xs ∈ H) (h : xs.length ≤ cap * sz → TOps P n S H l A Q) : TOps P n S H l A Q := by
  intro a w hS hM
  refine h ?_ a w hS hM
  have := hM.ok _ hm
  unfold row at this
  obtain ⟨sp, _, h2, _⟩ := this
  omega
end
theorem emod64 {a : Nat} (h : a < 9223372036854775808) : ((a : Int) % 18446744073709551616).toNat = a := by omega
theorem iand_nat {a b : Nat} (ha : a < 9223372036854775808) (hb : b < 9223372036854775808) : iand a b = ((a &&& b : Nat) : Int) := by
  unfold iand
  have h : (BitVec.ofInt 64 (a : Int) &&& BitVec.ofInt 64 (b : Int)).toNat = a &&& b := by
    simp only [BitVec.toNat_and, BitVec.toNat_ofInt]
    rw [show ((2 ^ 64 : Nat) : Int) = 18446744073709551616 by decide, emod64 ha, emod64 hb]
  rw [h, wrapI (by omega)]
  have : a &&& b ≤ a := Nat.and_le_left
  omega
theorem ior_nat {a b : Nat} (ha : a < 9223372036854775808) (hb : b < 9223372036854775808) : ior a b = ((a ||| b : Nat) : Int) := by
  unfold ior
  have h : (BitVec.ofInt 64 (a : Int) ||| BitVec.ofInt 64 (b : Int)).toNat = a ||| b := by
    simp only [BitVec.toNat_or, BitVec.toNat_ofInt]
    rw [show ((2 ^ 64 : Nat) : Int) = 18446744073709551616 by decide, emod64 ha, emod64 hb]
  have hlt : a ||| b < 2 ^ 63 := Nat.or_lt_two_pow (by simpa using ha) (by simpa using hb)
  rw [h, wrapI (by omega)]
  have : (2 : Nat) ^ 63 = 9223372036854775808 := by decide
  omega
theorem ixor_nat {a b : Nat} (ha : a < 9223372036854775808) (hb : b < 9223372036854775808) : ixor a b = ((a ^^^ b : Nat) : Int) := by
  unfold ixor
  have h : (BitVec.ofInt 64 (a : Int) ^^^ BitVec.ofInt 64 (b : Int)).toNat = a ^^^ b := by
    simp only [BitVec.toNat_xor, BitVec.toNat_ofInt]
    rw [show ((2 ^ 64 : Nat) : Int) = 18446744073709551616 by decide, emod64 ha, emod64 hb]
  have hlt : a ^^^ b < 2 ^ 63 := Nat.xor_lt_two_pow (by simpa using ha) (by simpa using hb)
  rw [h, wrapI (by omega)]
  have : (2 : Nat) ^ 63 = 9223372036854775808 := by decide
  omega
theorem ishr_nat {a k : Nat} (hk : k ≤ 64) : ishr a k = ((a >>> k : Nat) : Int) := by
  unfold ishr
  rw [Nat.min_eq_left hk, Nat.shiftRight_eq_div_pow]
  rw [Int.fdiv_eq_ediv_of_nonneg _ (by exact Int.le_of_lt (Int.pow_pos (by decide)))]
  norm_cast
theorem ishl_one {k : Nat} (hk : k < 63) : ishl 1 k = ((2 ^ k : Nat) : Int) := by
  unfold ishl
  rw [Nat.min_eq_left (by omega), Int.one_mul]
  have h : (2 : Nat) ^ k ≤ 2 ^ 62 := Nat.pow_le_pow_right (by decide) (by omega)
  have e : ((2 : Int) ^ k) = ((2 ^ k : Nat) : Int) := by norm_cast
  have h62 : (2 : Nat) ^ 62 = 4611686018427387904 := by decide
  rw [e]
  generalize (2 : Nat) ^ k = q at *
  exact wrapI (by omega) (by omega)
theorem bitB_nat {a i : Nat} (ha : a < 9223372036854775808) (hi : i ≤ 64) : bitB a i = a.testBit i := by
  unfold bitB
  rw [ishr_nat hi, show (1 : Int) = ((1 : Nat) : Int) from rfl, iand_nat (Nat.lt_of_le_of_lt (Nat.shiftRight_le _ _) ha) (by decide)]
  simp only [Nat.testBit, Nat.and_comm 1]
  have h := Nat.and_one_is_mod (a >>> i)
  rw [h]
  have h2 : (a >>> i) % 2 < 2 := Nat.mod_lt _ (by decide)
  by_cases h1 : (a >>> i) % 2 = 1
  · simp [h1]
  · have h0 : (a >>> i) % 2 = 0 := by omega
    simp [h0]
def markArgs (m : List Bool) (args : List Int) : List Bool := args.foldl (fun m a => m.set a.toNat true) m
def belowL (v : Nat) (nodes : List Nd) : Nat → List Bool → List Bool
  | 0, m => m
  | i + 1, m => belowL v nodes i (bif m.getD (v + i) false then markArgs m (nodes.getD i ⟨0, 0, []⟩).args else m)
def Fm.below (F : Fm) : List Bool := belowL F.vars.toNat F.nodes F.nodes.length ((List.replicate (F.vars.toNat + F.nodes.length) false).set F.top.toNat true)
theorem markArgs_length (args : List Int) : ∀ m, (markArgs m args).length = m.length := by
  induction args with
  | nil => intro m; rfl
  | cons a r ih => intro m; have := ih (m.set a.toNat true); simpa [markArgs] using this
theorem belowL_length (v : Nat) (nodes : List Nd) : ∀ i m, (belowL v nodes i m).length = m.length := by
  intro i
  induction i with
  | zero => intro m; rfl
  | succ i ih => intro m; unfold belowL; rw [ih]; cases m.getD (v + i) false <;> simp [markArgs_length]
theorem Fm.below_length (F : Fm) : F.below.length = F.vars.toNat + F.nodes.length := by
  simp [Fm.below, belowL_length]
theorem markArgs_take_succ {m : List Bool} {l : List Int} {k : Nat} (hk : k < l.length) : markArgs m (l.take (k + 1)) = (markArgs m (l.take k)).set l[k].toNat true := by
  unfold markArgs
  rw [List.take_succ_eq_append_getElem hk, List.foldl_append]
  rfl
def setOf (m : List Bool) : Nat → Nat
  | 0 => 0
  | k + 1 => bif m.getD k false then setOf m k ||| 2 ^ k else setOf m k
theorem setOf_lt (m : List Bool) : ∀ k, setOf m k < 2 ^ k
  | 0 => by simp [setOf]
  | k + 1 => by
    have ih := setOf_lt m k
    have h2 : (2 : Nat) ^ k < 2 ^ (k + 1) := Nat.pow_lt_pow_right (by decide) (by omega)
    unfold setOf
    cases m.getD k false
    · exact Nat.lt_trans ih h2
    · exact Nat.or_lt_two_pow (Nat.lt_trans ih h2) h2
theorem setOf_testBit (m : List Bool) : ∀ k i, (setOf m k).testBit i = (decide (i < k) && m.getD i false)
  | 0, i => by simp [setOf]
  | k + 1, i => by
    have ih := setOf_testBit m k i
    unfold setOf
    by_cases e : i = k
    · subst e
      cases hm : m.getD i false with
      | false => simp [ih]
      | true => simp [Nat.testBit_or, Nat.testBit_two_pow_self]
    · cases hm : m.getD k false with
      | false =>
        simp only [cond_false, ih]
        have : decide (i < k) = decide (i < k + 1) := by simp; omega
        rw [this]
      | true =>
        simp only [cond_true, Nat.testBit_or, ih, Nat.testBit_two_pow_of_ne (fun h => e h.symm), Bool.or_false]
        have : decide (i < k) = decide (i < k + 1) := by simp; omega
        rw [this]
def Fm.support (F : Fm) : Nat := setOf F.below F.vars.toNat
def Fm.setErr (F : Fm) (failed : Int) : Option Int :=
  match F.err with
  | some e => some e
  | none => if failed < 0 ∨ ((2 ^ F.vars.toNat : Nat) : Int) ≤ failed then some 3 else none
def Fm.value (F : Fm) (failed : Int) : Bool := (F.values failed).getD F.top.toNat false
theorem Fm.setErr_none {F : Fm} {z : Int} (h : F.setErr z = none) : F.Good ∧ 0 ≤ z ∧ z < ((2 ^ F.vars.toNat : Nat) : Int) := by
  unfold Fm.setErr at h
  cases he : F.err with
  | some e => rw [he] at h; cases h
  | none =>
    rw [he] at h
    simp only at h
    split at h
    · cases h
    · exact ⟨(Fm.good_iff F).1 he, by omega, by omega⟩
theorem pow24 {k : Nat} (h : k ≤ 24) : 2 ^ k ≤ 16777216 := Nat.pow_le_pow_right (n := 2) (by decide) h
def Fm.light (F : Fm) : Bool := decide (F.nodes.length ≤ 200) && F.nodes.all (fun d => decide (d.args.length ≤ 40))
def clipI (n lo hi : Int) : Int := if (if hi < n then hi else n) > lo then (if hi < n then hi else n) else lo
def NewF (F : Fm) (H : List Ent) : Value → List Ent → Prop := fun u H' => Le H' H ∧ H.Sublist H' ∧ RF H' u F
abbrev SA := Option Nat × Nat × Nat × Option Nat
def ndCells (d : Nd) (q : SA) : List Value := [.int .i64 d.kind, .int .i64 d.k, slV q.1 q.2.1 d.args.length q.2.2.1 q.2.2.2]
def nsCells : List Nd → List SA → List Value
  | d :: r, q :: s => ndCells d q ++ nsCells r s
  | _, _ => []
theorem nsCells_get : ∀ (ns : List Nd) (qs : List SA) (i : Nat) (d : Nd) (q : SA), ns[i]? = some d → qs[i]? = some q → ∀ j v, (ndCells d q)[j]? = some v → (nsCells ns qs)[i * 3 + j]? = some v
  | [], qs, i, d, q, h, _, j, v, _ => by simp at h
  | d :: r, [], i, d', q, _, h, j, v, _ => by simp at h
  | d :: r, q :: s, 0, d', q', h1, h2, j, v, hj => by
    simp at h1 h2
    subst h1 h2
    have hjl : j < (ndCells d q).length := (List.getElem?_eq_some_iff.1 hj).1
    rw [nsCells, Nat.zero_mul, Nat.zero_add, List.getElem?_append_left hjl]
    exact hj
  | d :: r, q :: s, i + 1, d', q', h1, h2, j, v, hj => by
    have ih := nsCells_get r s i d' q' (by simpa using h1) (by simpa using h2) j v hj
    rw [nsCells, List.getElem?_append_right (by simp [ndCells]; omega)]
    rw [show (i + 1) * 3 + j - (ndCells d q).length = i * 3 + j by simp [ndCells]; omega]
    exact ih
theorem nsCells_length : ∀ (ns : List Nd) (qs : List SA), qs.length = ns.length → (nsCells ns qs).length = ns.length * 3
  | [], [], _ => rfl
  | [], q :: s, h => by simp at h
  | d :: r, [], h => by simp at h
  | d :: r, q :: s, h => by
    have := nsCells_length r s (by simpa using h)
    simp [nsCells, this, ndCells]
    omega
theorem RNodes.ofRow {H : List Ent} {b E sz cap : Nat} {ns : List Nd} {qs : List SA} (hm : row (.some b) E sz cap (nsCells ns qs) ∈ H) (hl : qs.length = ns.length)
    (ha : ∀ (i : Nat) (d : Nd) (q : SA), ns[i]? = .some d → qs[i]? = .some q → RInts H q.1 q.2.1 d.args q.2.2.2) : RNodes H (.some b) 0 ns := by
  refine .inr ⟨b, rfl, rfl, fun i d hi => ?_⟩
  have hil : i < ns.length := (List.getElem?_eq_some_iff.1 hi).1
  have hq : qs[i]? = some qs[i] := List.getElem?_eq_getElem (by omega)
  refine ⟨qs[i].1, qs[i].2.1, qs[i].2.2.1, qs[i].2.2.2, ⟨Rd.ofRow hm _ _ (fun j v hj => ?_), ha i d _ hi hq⟩⟩
  rw [Nat.zero_add]
  exact nsCells_get ns qs i d qs[i] hi hq j v hj
theorem RInts.ofRow {H : List Ent} {b E sz cap : Nat} {xs : List Int} (hm : row (Option.some b) E sz cap (ints xs) ∈ H) : RInts H (Option.some b) 0 xs := RdS.ofRowS hm
theorem RInts.nil {H : List Ent} {a sp : Option Nat} {off : Nat} : RInts H a off [] sp := .inl rfl
end Go.GL
