import Derived.Test.YtlgjmebebhpolaaGL2
namespace Go.GL
set_option linter.unusedVariables false
set_option linter.unusedSimpArgs false
inductive Upd : List Ent → Ent → Ent → List Ent → Prop
  | here {e e' H} : Upd (e :: H) e e' (e' :: H)
  | there {x e e' H H'} : Upd H e e' H' → Upd (x :: H) e e' (x :: H')
theorem Upd.mem {H e e' H'} (u : Upd H e e' H') : e ∈ H := by
  induction u with
  | here => simp
  | there _ ih => exact List.mem_cons_of_mem _ ih
theorem Upd.mem' {H e e' H'} (u : Upd H e e' H') : ∀ x ∈ H', x = e' ∨ x ∈ H := by
  induction u with
  | here =>
    intro x hx
    cases hx with
    | head => exact .inl rfl
    | tail _ hx => exact .inr (List.mem_cons_of_mem _ hx)
  | there _ ih =>
    intro x hx
    cases hx with
    | head => exact .inr (by simp)
    | tail _ hx => exact (ih x hx).imp id (fun h => List.mem_cons_of_mem _ h)
structure Turn (foot : Nat → Prop) (w w' : World) : Prop where
  os : w'.os = w.os
  tape : w'.tape = w.tape
  output : w'.output = w.output
  size : w.heap.size ≤ w'.heap.size
  block : ∀ k, k < w.heap.size → ¬ foot k → w'.heap[k]? = w.heap[k]?
theorem Turn.same {foot w w'} (t : Turn foot w w') {e : Ent} (hl : ∀ k, e.foot k → k < w.heap.size) (hd : ∀ k, e.foot k → ¬ foot k) : Same e.foot w w' :=
  ⟨t.os, t.tape, t.output, t.size, fun k hk => t.block k (hl k hk) (hd k hk)⟩
theorem Upd.sound {H e e' H' w w'} (u : Upd H e e' H') (hM : Mem H w) (t : Turn e.foot w w') (hok : e'.ok w')
    (hf : ∀ k, e'.foot k → e.foot k ∨ w.heap.size ≤ k) (hl : ∀ k, e'.foot k → k < w'.heap.size) : Mem H' w' := by
  induction u with
  | here =>
    obtain ⟨h1, h2, h3, h4⟩ := hM
    rename_i e e' H
    refine ⟨hok, hl, ?_, ?_⟩
    · intro x hx k hk hk'
      rcases hf k hk with h | h
      · exact h3 x hx k h hk'
      · exact absurd (Mem.lt h4 x hx k hk') (by omega)
    · exact h4.same fun x hx => t.same (h4.lt x hx) (fun k hk hk' => h3 x hx k hk' hk)
  | there u ih =>
    rename_i x e e' H H'
    obtain ⟨h1, h2, h3, h4⟩ := hM
    have hx := h3 e u.mem
    refine ⟨?_, ?_, ?_, ih h4 t hok hf hl⟩
    · exact x.st _ _ (t.same h2 hx) h1
    · exact fun k hk => Nat.lt_of_lt_of_le (h2 k hk) t.size
    · intro y hy k hk hk'
      rcases u.mem' y hy with rfl | hy
      · rcases hf k hk' with h | h
        · exact hx k hk h
        · exact absurd (h2 k hk) (by omega)
      · exact h3 y hy k hk hk'
def RdS (H : List Ent) (a : Option Nat) (off : Nat) (vs : List Value) (sp : Option Nat := none) : Prop := vs = [] ∨ ∃ b, a = some b ∧ sp = none ∧ Rd H b off vs
theorem RdS.le {H H' a off vs sp} (h : RdS H a off vs sp) (hl : Le H' H) : RdS H' a off vs sp := h.imp id fun ⟨b, h1, h3, h2⟩ => ⟨b, h1, h3, h2.le hl⟩
theorem RdS.up {e H a off vs sp} (h : RdS H a off vs sp) : RdS (e :: H) a off vs sp := h.le (Le.drop (Le.refl H))
theorem RdS.nil {H a off sp} : RdS H a off [] sp := .inl rfl
theorem RdS.ofRow {H : List Ent} {a : Option Nat} {E sz cap : Nat} {xs : List Value} (hm : row a E sz cap xs ∈ H) (hne : ∃ w, Mem H w) : RdS H a 0 xs := by
  cases a with
  | none =>
    obtain ⟨w, hw⟩ := hne
    exact .inl (hw.ok _ hm).1
  | some b => exact .inr ⟨b, rfl, rfl, Rd.ofRow hm 0 xs (fun j v h => by simpa using h)⟩
theorem RdS.ofRowS {H : List Ent} {b : Nat} {E sz cap : Nat} {xs : List Value} (hm : row (some b) E sz cap xs ∈ H) : RdS H (some b) 0 xs :=
  .inr ⟨b, rfl, rfl, Rd.ofRow hm 0 xs (fun j v h => by simpa using h)⟩
section
variable {P : Program} {n : Nat} {S : List (Nat × Value)} {H : List Ent} {A : Array Oper} {Q : Exit → Act → World → Prop}
theorem Tri.rowSome {a : Option Nat} {E sz cap : Nat} {xs : List Value} {c} (hm : row a E sz cap xs ∈ H) (hx : xs ≠ []) (h : ∀ b, a = some b → Tri P n S H c Q) : Tri P n S H c Q := by
  intro ac w hS hM
  cases a with
  | none => exact absurd (hM.ok _ hm).1 hx
  | some b => exact h b rfl ac w hS hM
theorem Tri.inh {c} (h : (∃ w, Mem H w) → Tri P n S H c Q) : Tri P n S H c Q := fun a w hS hM => h ⟨w, hM⟩ a w hS hM
theorem TOps.inh {l} (h : (∃ w, Mem H w) → TOps P n S H l A Q) : TOps P n S H l A Q := fun a w hS hM => h ⟨w, hM⟩ a w hS hM
theorem Le.addNil {E sz : Nat} : Le H (row none E sz 0 [] :: H) := by
  intro w h
  exact Mem.cons h ⟨rfl, rfl⟩ (fun k hk => by cases hk) (fun _ _ k hk => by cases hk)
theorem row_set {b E sz cap : Nat} {xs : List Value} {w : World} {i : Nat} {v : Value} (hok : (row (some b) E sz cap xs).ok w) (hi : i < xs.length) :
    (row (some b) E sz cap (xs.set i v)).ok (w.setCell ⟨b, i, none⟩ v) := by
  obtain ⟨sp, h1, h2⟩ := hok
  refine ⟨sp, ?_, by simpa using h2.1, h2.2⟩
  simp only [World.setCell, Array.getElem?_modify, ↓reduceIte, h1, Option.map_some]
  congr 2
  simp [List.set_append_left _ _ hi]
theorem turn_setCell {b i : Nat} {w : World} {v : Value} : Turn (fun k => some b = some k) w (w.setCell ⟨b, i, none⟩ v) :=
  ⟨rfl, rfl, rfl, by simp, fun k _ hk => Go.RowKit.Below.heap_setCell _ _ _ _ (fun e => hk (by simp [e]))⟩
theorem Upd.setCell {H H' b E sz cap} {xs : List Value} {w : World} {i : Nat} {v : Value} (u : Upd H (row (some b) E sz cap xs) (row (some b) E sz cap (xs.set i v)) H') (hM : Mem H w) (hi : i < xs.length) :
    Mem H' (w.setCell ⟨b, i, none⟩ v) :=
  u.sound hM turn_setCell (row_set (hM.ok _ u.mem) hi) (fun k hk => .inl hk) (fun k hk => by simpa using hM.lt _ u.mem k hk)
theorem run_store_row {b E sz cap : Nat} {xs : List Value} {w : World} {i : Nat} {v : Value} (hok : (row (some b) E sz cap xs).ok w) (hi : i < xs.length) (hv : v.oneCell' = true) :
    (store ⟨b, i, none⟩ v).run P w = .ok () (w.setCell ⟨b, i, none⟩ v) := by
  obtain ⟨sp, h1, h2⟩ := hok
  rw [run_store P w _ _ _ hv, cell?_row h1, List.getElem?_append_left hi, List.getElem?_eq_getElem hi]
  simp [World.frozen?, h1]
theorem TOps.store1 {T x v U p e rest} {H' : List Ent} {b off E sz cap : Nat} {xs : List Value} {u : Value} {g : Bool} {zv : List Value} {y : Nat} (hx : opv S x = some (.pointer (some ⟨b, off, none⟩))) (hv : opv S v = some u)
    (ht : TI P T g zv 1 y) (hc : u.cells = #[u]) (h1 : u.oneCell' = true) (hu : Upd H (row (some b) E sz cap xs) (row (some b) E sz cap (xs.set off u)) H') (hi : off < xs.length)
    (h : TOps P n S H' rest A Q) : TOps P n S H (⟨none, .store T x v, U, p, e, none⟩ :: rest) A Q :=
  TOps.unit rfl rfl (fun a w hS hM => by
    refine ⟨w.setCell ⟨b, off, none⟩ u, ?_, hu.setCell hM hi⟩
    have hr := run_store_row (P := P) (i := off) (v := u) (hM.ok _ hu.mem) hi h1
    have ha : (⟨b, off, none⟩ : Addr).add 0 = ⟨b, off, none⟩ := rfl
    simp [execOp, hS.eval hx, hS.eval hv, Instr.storeAt, Instr.sureAddr, storeVar, hc, ht.size, storeCells, ha, hr]) h
def setL : List Value → Nat → List Value → List Value
  | xs, _, [] => xs
  | xs, i, v :: vs => setL (xs.set i v) (i + 1) vs
theorem setL_length (vs : List Value) : ∀ (xs : List Value) (i : Nat), (setL xs i vs).length = xs.length := by
  induction vs with
  | nil => intro xs i; rfl
  | cons v vs ih => intro xs i; simp [setL, ih]
theorem run_storeCells_row {b off E sz cap : Nat} (vs : List Value) : ∀ (xs : List Value) (w : World) (i : Nat), (row (some b) E sz cap xs).ok w → off + i + vs.length ≤ xs.length → (∀ u ∈ vs, u.oneCell' = true) →
    ∃ w', (storeCells ⟨b, off, none⟩ vs i).run P w = .ok () w' ∧ (row (some b) E sz cap (setL xs (off + i) vs)).ok w' ∧ Turn (fun k => some b = some k) w w' ∧ w'.heap.size = w.heap.size := by
  induction vs with
  | nil => intro xs w i hok hl h1; exact ⟨w, by simp [storeCells], hok, ⟨rfl, rfl, rfl, Nat.le_refl _, fun _ _ _ => rfl⟩, rfl⟩
  | cons v vs ih =>
    intro xs w i hok hl h1
    simp only [List.length_cons] at hl
    have hi : off + i < xs.length := by omega
    have hr := run_store_row (P := P) (i := off + i) (v := v) hok hi (h1 v (by simp))
    have ha : (⟨b, off, none⟩ : Addr).add i = ⟨b, off + i, none⟩ := by
      by_cases h0 : i = 0 <;> simp [Addr.add, h0]
    obtain ⟨w', h2, h3, h4, h5⟩ := ih (xs.set (off + i) v) (w.setCell ⟨b, off + i, none⟩ v) (i + 1) (row_set hok hi) (by simp; omega) (fun u hu => h1 u (List.mem_cons_of_mem _ hu))
    refine ⟨w', ?_, h3, ?_, by simpa using h5⟩
    · simp only [storeCells, Sem.run_bind, ha, hr, Result.andThen_ok, h2]
    · have ht := turn_setCell (b := b) (i := off + i) (w := w) (v := v)
      exact ⟨h4.os.trans ht.os, h4.tape.trans ht.tape, h4.output.trans ht.output, Nat.le_trans ht.size h4.size, fun k hk hf => (h4.block k (by simpa using hk) hf).trans (ht.block k hk hf)⟩
theorem TOps.storeN {T x v U p e rest} {H' : List Ent} {b off E sz cap m : Nat} {xs vs : List Value} {g : Bool} {zv : List Value} {y : Nat} (hx : opv S x = some (.pointer (some ⟨b, off, none⟩))) (hv : opv S v = some (.agg vs.toArray))
    (ht : TI P T g zv m y) (hc : vs.length = m) (h1 : vs.all (fun u => u.oneCell') = true) (hu : Upd H (row (some b) E sz cap xs) (row (some b) E sz cap (setL xs off vs)) H') (hi : off + m ≤ xs.length)
    (h : TOps P n S H' rest A Q) : TOps P n S H (⟨none, .store T x v, U, p, e, none⟩ :: rest) A Q :=
  TOps.unit rfl rfl (fun a w hS hM => by
    obtain ⟨w', h2, h3, h4, h5⟩ := run_storeCells_row (P := P) (off := off) vs xs w 0 (hM.ok _ hu.mem) (by omega) (by simpa using h1)
    refine ⟨w', ?_, hu.sound hM h4 h3 (fun k hk => .inl hk) (fun k hk => by rw [h5]; exact hM.lt _ hu.mem k hk)⟩
    simp [execOp, hS.eval hx, hS.eval hv, Instr.storeAt, Instr.sureAddr, storeVar, Value.cells, ht.size, hc, h2]) h
theorem madeCells_one (z : Value) (k : Nat) : (madeCells #[z] k) = (List.replicate k z).toArray := by
  apply Array.ext
  · simp [size_madeCells]
  · intro i h1 h2
    simp [madeCells, Nat.mod_one]
theorem TOps.make1 {d s l c U p e rest} {E : TypeId} {L C : Nat} {k k' : IntKind} {z : Value} {g : Bool} {y : Nat} (hl : opv S l = some (.int k L)) (hc : opv S c = some (.int k' C)) (hs : P.underlying s = some (.slice E))
    (ht : TI P E g [z] 1 y) (hle : L ≤ C) (hb : y * C ≤ 281474976710656) (hC : C ≤ 9223372036854775807) (hn : Nat.blt d n = true)
    (h : ∀ b, TOps P n ((d, slV (some b) 0 L C) :: S) (row (some b) E 1 C (List.replicate L z) :: H) rest A Q) :
    TOps P n S H (⟨some d, .makeSlice s l c, U, p, e, none⟩ :: rest) A Q :=
  TOps.newRow (sp := List.replicate (C - L) z) (val := fun b => slV (some b) 0 L C) rfl rfl hn (by simp; omega) hC (fun a w hS hM => by
    obtain ⟨i, zz, h1, h2, h3, h4, h5⟩ := ht.i
    have hb' : ((i.bytes * C : Nat) : Int) ≤ 281474976710656 := by rw [h5]; omega
    rw [Int.natCast_mul] at hb'
    have hr := run_make (P := P) w s E i zz hs h1 h2 k k' L C (by omega) (by omega) hb' (by omega)
    simp only [Int.toNat_natCast, h4, Nat.mul_one, h3, madeCells_one] at hr
    rw [List.replicate_append_replicate, show L + (C - L) = C by omega]
    simp [execOp, hS.eval hl, hS.eval hc, hr, slV]) h
def PartsAre (S : List (Nat × Value)) : List (Nat × Operand) → List (Nat × Value) → Prop
  | [], [] => True
  | (i, x) :: r, (j, v) :: s => i = j ∧ opv S x = some v ∧ PartsAre S r s
  | _, _ => False
theorem PartsAre.eval {a : Act} (hS : Sl n S a) : ∀ {l : List (Nat × Operand)} {m : List (Nat × Value)}, PartsAre S l m → l.map (fun (i, x) => (i, a.eval x)) = m
  | [], [], _ => rfl
  | (i, x) :: r, (j, v) :: s, ⟨h1, h2, h3⟩ => by simp [h1, hS.eval h2, PartsAre.eval hS h3]
def zeroRow (zs : List Value) (k : Nat) : Array Value := (Array.range k).map (fun j => zs.toArray[j % zs.toArray.size]!)
theorem foldl_set (cs : List Value) : ∀ (k : Nat) (done rest : List Value) (off : Nat), off + k = done.length → cs.length ≤ rest.length →
    (cs.zipIdx k).foldl (fun (acc : Array Value) (q : Value × Nat) => acc.setIfInBounds (off + q.2) q.1) (done ++ rest).toArray = (done ++ cs ++ rest.drop cs.length).toArray := by
  induction cs with
  | nil => intro k done rest off _ _; simp
  | cons c cs ih =>
    intro k done rest off h1 h2
    cases rest with
    | nil => simp at h2
    | cons r rest =>
      simp only [List.zipIdx_cons, List.foldl_cons]
      have e : (done ++ r :: rest).toArray.setIfInBounds (off + k) c = ((done ++ [c]) ++ rest).toArray := by
        rw [h1]
        simp
      rw [e, ih (k + 1) (done ++ [c]) rest off (by simp; omega) (by simpa using h2)]
      simp
def numb : Nat → List Value → List (Nat × Value)
  | _, [] => []
  | i, v :: r => (i, v) :: numb (i + 1) r
theorem fill_seq (sz : Nat) : ∀ (vs : List Value) (j : Nat) (done rest : List Value), (∀ v ∈ vs, v.cells.toList.length = sz) → done.length = j * sz → rest.length = vs.length * sz →
    Instr.fill (fun i => some (i * sz, sz)) (done ++ rest).toArray (numb j vs) = some (done ++ vs.flatMap (fun v => v.cells.toList)).toArray := by
  intro vs
  induction vs with
  | nil =>
    intro j done rest _ _ h
    have : rest = [] := List.eq_nil_of_length_eq_zero (by simpa using h)
    subst this
    simp [numb, Instr.fill]
  | cons v vs ih =>
    intro j done rest hv hd hr
    have hv0 := hv v (by simp)
    simp only [List.length_cons, Nat.add_mul, Nat.one_mul] at hr
    have c1 : ¬ (v.cells.size ≠ sz ∨ j * sz + v.cells.size > (done ++ rest).toArray.size) := by
      simp only [Array.length_toList] at hv0
      simp [hv0, hd]
      omega
    simp only [numb, Instr.fill]
    have hb : (v.cells.size ≠ sz || decide (j * sz + v.cells.size > (done ++ rest).toArray.size)) = false := by
      simp only [Array.length_toList] at hv0
      simp [hv0, hd]
      omega
    have hz : v.cells.zipIdx.foldl (fun (acc : Array Value) (q : Value × Nat) => acc.setIfInBounds (j * sz + q.2) q.1) (done ++ rest).toArray = ((done ++ v.cells.toList) ++ rest.drop sz).toArray := by
      rw [← Array.foldl_toList, Array.toList_zipIdx]
      have := foldl_set v.cells.toList 0 done rest (j * sz) (by omega) (by omega)
      rw [this, hv0]
    have step : (if v.cells.size ≠ sz || j * sz + v.cells.size > (done ++ rest).toArray.size then (none : Option (Array Value))
      else Instr.fill (fun i => some (i * sz, sz)) (v.cells.zipIdx.foldl (fun cs (x : Value × Nat) => match x with | (c, k) => cs.setIfInBounds (j * sz + k) c) (done ++ rest).toArray) (numb (j + 1) vs))
      = some (done ++ (v :: vs).flatMap (fun v => v.cells.toList)).toArray := by
      rw [if_neg (by rw [hb]; decide)]
      have := ih (j + 1) (done ++ v.cells.toList) (rest.drop sz) (fun u hu => hv u (List.mem_cons_of_mem _ hu)) (by simp only [List.length_append, hd, hv0, Nat.add_mul, Nat.one_mul]) (by rw [List.length_drop]; omega)
      have hz' : (v.cells.zipIdx.foldl (fun cs (x : Value × Nat) => match x with | (c, k) => cs.setIfInBounds (j * sz + k) c) (done ++ rest).toArray) = ((done ++ v.cells.toList) ++ rest.drop sz).toArray := hz
      rw [hz', this]
      simp
    exact step
theorem TOps.buildSlice {d s m U p e rest} {parts : List (Nat × Operand)} {vs : List Value} {E sz y : Nat} {g : Bool} {zs xs : List Value} (hs : P.underlying s = some (.slice E)) (ht : TI P E g zs sz y)
    (hp : PartsAre S parts (numb 0 vs)) (hm : Nat.ble (m * sz) 16777216 = true) (h0 : Nat.blt 0 (m * sz) = true) (hvl : vs.length = m) (hcells : (vs.all fun v => Nat.beq v.cells.toList.length sz) = true) (hxs : vs.flatMap (fun v => v.cells.toList) = xs) (hl : xs.length = m * sz) (hC : m ≤ 9223372036854775807) (hn : Nat.blt d n = true)
    (h : ∀ b, TOps P n ((d, slV (some b) 0 m m) :: S) (row (some b) E sz m xs :: H) rest A Q) :
    TOps P n S H (⟨some d, .buildSlice s m parts.toArray, U, p, e, none⟩ :: rest) A Q :=
  TOps.newRow (sp := []) (val := fun b => slV (some b) 0 m m) rfl rfl hn (by simpa using hl) hC (fun a w hS hM => by
    obtain ⟨i, z, h1, h2, h3, h4, h5⟩ := ht.i
    have h0' : ¬ (m = 0 ∨ sz = 0) := by
      have : 0 < m * sz := by simpa [Nat.blt_eq] using h0
      rintro (rfl | rfl) <;> simp at this
    have hm2 : m * sz ≤ 16777216 := by simpa [Nat.ble_eq] using hm
    have hm' : ¬ (16777216 < m * sz) := by omega
    have he := hp.eval hS
    have hq : (Array.map (fun x : Nat × Operand => (x.1, a.eval x.2)) parts.toArray).toList = numb 0 vs := by simpa using he
    have hfill := fill_seq sz vs 0 [] (zeroRow zs (m * sz)).toList (fun v hv => by simpa using List.all_eq_true.1 hcells v hv) (by simp) (by simp [zeroRow, hvl])
    simp only [List.nil_append, Array.toArray_toList, hxs] at hfill
    unfold zeroRow at hfill
    simp only [execOp, Instr.buildSlice, Sem.run_bind, run_underlying hs, Result.andThen_ok, ht.size, hm', if_false, Sem.run_pure]
    simp only [h0', Nat.mul_eq_zero, if_false, Sem.run_bind, zeroValue, typeInfo, run_program, Result.andThen_ok, h1, h2, Sem.run_pure, h3]
    rw [hq, hfill]
    simp [Go.newRow, slV]) h
theorem TOps.buildSlice0 {d s U p e rest} {E sz y : Nat} {g : Bool} {zs : List Value} (hs : P.underlying s = some (.slice E)) (ht : TI P E g zs sz y) (hn : Nat.blt d n = true)
    (h : ∀ b, TOps P n ((d, slV (some b) 0 0 0) :: S) (row (some b) E sz 0 [] :: H) rest A Q) :
    TOps P n S H (⟨some d, .buildSlice s 0 (List.toArray []), U, p, e, none⟩ :: rest) A Q :=
  TOps.newRow (sp := []) (val := fun b => slV (some b) 0 0 0) rfl rfl hn (by simp) (by decide) (fun a w hS hM => by
    obtain ⟨i, z, h1, h2, h3, h4, h5⟩ := ht.i
    simp [execOp, Instr.buildSlice, run_underlying hs, sizeOf, zeroValue, typeInfo, h1, h2, h3, h4, Instr.fill, Go.newRow, slV, Array.range_zero']) h
end
end Go.GL
