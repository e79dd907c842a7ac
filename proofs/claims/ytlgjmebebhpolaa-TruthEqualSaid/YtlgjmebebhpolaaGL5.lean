import Derived.Test.YtlgjmebebhpolaaGL4
import Derived.LaidEql
namespace Go.GL
set_option linter.unusedVariables false
set_option linter.unusedSimpArgs false
section
variable {P : Program} {n : Nat} {S : List (Nat × Value)} {H : List Ent} {A : Array Oper} {Q : Exit → Act → World → Prop}
theorem TOps.sliceLo {d s x lo U p e rest} {a : Option Nat} {off m cap l E sz y : Nat} {k : IntKind} {zs : List Value} {g : Bool} (hx : opv S x = some (slV a off m cap)) (hl : opv S lo = some (.int k l))
    (hs : P.underlying s = some (.slice E)) (ht : TI P E g zs sz y) (h1 : l ≤ m) (hn : Nat.blt d n = true)
    (h : TOps P n ((d, slV a (bif cap == l then off else off + l * sz) (m - l) (cap - l)) :: S) H rest A Q) : TOps P n S H (⟨some d, .slice s x (some lo) none none, U, p, e, none⟩ :: rest) A Q :=
  TOps.pure rfl rfl hn (fun ac w hS _ => by
    have h1' : (l : Int) ≤ m := by omega
    cases a with
    | none => by_cases hc : cap = l <;> simp [execOp, hS.eval hx, hS.eval hl, slV, Instr.sliceAt, Instr.slice, run_underlying hs, Instr.sliceBounds, Instr.sliceBound, asIntOf, h1, ht.size]
    | some b => by_cases hc : cap = l <;> simp [execOp, hS.eval hx, hS.eval hl, slV, Instr.sliceAt, Instr.slice, run_underlying hs, Instr.sliceBounds, Instr.sliceBound, asIntOf, h1, ht.size, hc, addr_add]
              <;> (try (have hcb : (cap == l) = false := by simpa using hc
                        simp [hcb]))) h
theorem TOps.sliceHi {d s x hi U p e rest} {a : Option Nat} {off m cap u E sz y : Nat} {k : IntKind} {zs : List Value} {g : Bool} (hx : opv S x = some (slV a off m cap)) (hu : opv S hi = some (.int k u))
    (hs : P.underlying s = some (.slice E)) (ht : TI P E g zs sz y) (h1 : u ≤ cap) (hn : Nat.blt d n = true)
    (h : TOps P n ((d, slV a off u cap) :: S) H rest A Q) : TOps P n S H (⟨some d, .slice s x none (some hi) none, U, p, e, none⟩ :: rest) A Q :=
  TOps.pure rfl rfl hn (fun ac w hS _ => by
    have h1' : (u : Int) ≤ cap := by omega
    cases a with
    | none => by_cases hc : cap = 0 <;> simp [execOp, hS.eval hx, hS.eval hu, slV, Instr.sliceAt, Instr.slice, run_underlying hs, Instr.sliceBounds, Instr.sliceBound, asIntOf, h1, ht.size]
    | some b => by_cases hc : cap = 0 <;> simp [execOp, hS.eval hx, hS.eval hu, slV, Instr.sliceAt, Instr.slice, run_underlying hs, Instr.sliceBounds, Instr.sliceBound, asIntOf, h1, ht.size, addr_add]) h
theorem TOps.makeInterface {d T x U p e rest} {v : Value} {td : TypeDesc} (hx : opv S x = some v) (hs : P.underlying T = some td) (hi : (match td with | .interface _ => false | _ => true) = true) (hn : Nat.blt d n = true)
    (h : TOps P n ((d, .iface T v) :: S) H rest A Q) : TOps P n S H (⟨some d, .makeInterface T x, U, p, e, none⟩ :: rest) A Q :=
  TOps.pure rfl rfl hn (fun ac w hS _ => by
    cases td <;> first | (simp at hi; done) | simp [execOp, hS.eval hx, Instr.makeInterface, run_underlying hs]) h
def errV (T : TypeId) : Option Int → Value
  | none => .nilIface
  | some c => .iface T (.int .i64 c)
theorem run_equal_err {T I : TypeId} {ms : Array (String × TypeId)} (hI : P.underlying I = some (.interface ms)) (o : Option Int) (w : World) :
    (Op.equal I (errV T o) .nilIface).run P w = .ok o.isNone w := by
  have key : ∀ d, (Op.equalIn (d + 1) I (errV T o) .nilIface).run P w = .ok o.isNone w := by
    intro d
    cases o <;> simp [Op.equalIn, errV, run_underlying hI]
  unfold Op.equal
  rw [show Op.maxDepth = 9999 + 1 from rfl]
  exact key 9999
theorem TOps.eqlNil {d I x T' U p e rest} {T : TypeId} {o : Option Int} {ms : Array (String × TypeId)} (hx : opv S x = some (errV T o)) (hI : P.underlying I = some (.interface ms)) (hn : Nat.blt d n = true)
    (h : TOps P n ((d, .bool o.isNone) :: S) H rest A Q) : TOps P n S H (⟨some d, .binOp .eql I x (.const .nilIface) T', U, p, e, none⟩ :: rest) A Q :=
  TOps.pure rfl rfl hn (fun ac w hS _ => by
    have he := run_equal_err (P := P) (T := T) hI o w
    have hk : ac.eval (.const .nilIface) = .nilIface := rfl
    cases o <;> simp [errV] at he <;> simp [execOp, hS.eval hx, hk, eqGuard, binOp, errV, he]) h
theorem TOps.neqNil {d I x T' U p e rest} {T : TypeId} {o : Option Int} {ms : Array (String × TypeId)} (hx : opv S x = some (errV T o)) (hI : P.underlying I = some (.interface ms)) (hn : Nat.blt d n = true)
    (h : TOps P n ((d, .bool o.isSome) :: S) H rest A Q) : TOps P n S H (⟨some d, .binOp .neq I x (.const .nilIface) T', U, p, e, none⟩ :: rest) A Q :=
  TOps.pure rfl rfl hn (fun ac w hS _ => by
    have he := run_equal_err (P := P) (T := T) hI o w
    have hk : ac.eval (.const .nilIface) = .nilIface := rfl
    cases o <;> simp [errV] at he <;> simp [execOp, hS.eval hx, hk, eqGuard, binOp, errV, he]) h
theorem TOps.typeAssertErr {d x I T U p e rest} {o : Option Int} {td : TypeDesc} {zv : Value} (hx : opv S x = some (errV T o)) (hT : P.underlying T = some td) (hi : (match td with | .interface _ => false | _ => true) = true)
    (hz : ∀ w, (zeroValue T).run P w = .ok (.int .i64 0) w) (hn : Nat.blt d n = true)
    (h : TOps P n ((d, .tuple #[.int .i64 (o.getD 0), .bool o.isSome]) :: S) H rest A Q) : TOps P n S H (⟨some d, .typeAssert x I T true, U, p, e, none⟩ :: rest) A Q :=
  TOps.pure rfl rfl hn (fun ac w hS _ => by
    cases o <;> cases td <;> first | (simp at hi; done) | simp [execOp, hS.eval hx, errV, Instr.typeAssert, run_underlying hT, hz]) h
theorem TOps.extract {d x i U p e rest} {vs : List Value} {v : Value} (hx : opv S x = some (.tuple vs.toArray)) (hv : vs[i]? = some v) (hn : Nat.blt d n = true)
    (h : TOps P n ((d, v) :: S) H rest A Q) : TOps P n S H (⟨some d, .extract x i, U, p, e, none⟩ :: rest) A Q :=
  TOps.pure rfl rfl hn (fun ac w hS _ => by simp [execOp, hS.eval hx, Instr.extract, hv]) h
theorem run_equal_bool {T : TypeId} (hT : P.underlying T = some .bool) (a b : Bool) (w : World) : (Op.equal T (.bool a) (.bool b)).run P w = .ok (a == b) w := by
  have key : ∀ d, (Op.equalIn (d + 1) T (.bool a) (.bool b)).run P w = .ok (a == b) w := by
    intro d
    simp [Op.equalIn, run_underlying hT]
  unfold Op.equal
  rw [show Op.maxDepth = 9999 + 1 from rfl]
  exact key 9999
theorem TOps.eqlB {d T x y T' U p e rest} {a b : Bool} (hx : opv S x = some (.bool a)) (hy : opv S y = some (.bool b)) (hT : P.underlying T = some .bool) (hn : Nat.blt d n = true)
    (h : TOps P n ((d, .bool (a == b)) :: S) H rest A Q) : TOps P n S H (⟨some d, .binOp .eql T x y T', U, p, e, none⟩ :: rest) A Q :=
  TOps.pure rfl rfl hn (fun ac w hS _ => by simp [execOp, hS.eval hx, hS.eval hy, eqGuard, binOp, run_equal_bool hT]) h
theorem TOps.neqB {d T x y T' U p e rest} {a b : Bool} (hx : opv S x = some (.bool a)) (hy : opv S y = some (.bool b)) (hT : P.underlying T = some .bool) (hn : Nat.blt d n = true)
    (h : TOps P n ((d, .bool (a != b)) :: S) H rest A Q) : TOps P n S H (⟨some d, .binOp .neq T x y T', U, p, e, none⟩ :: rest) A Q :=
  TOps.pure rfl rfl hn (fun ac w hS _ => by simp [execOp, hS.eval hx, hS.eval hy, eqGuard, binOp, run_equal_bool hT, bne]) h
theorem Sl.yielded {a : Act} (hS : Sl n S a) {A : Array Oper} {j d : Nat} {b : Bool} (hA : (A[j]?).bind (·.dst) = some d) (hb : get S d = some (.bool b)) : yielded A a.tmps j = some b := by
  obtain ⟨h1, h2⟩ := hS.g d _ hb
  have : a.tmps[d]? = some (.bool b) := by
    rw [Array.getElem?_eq_getElem (by rw [hS.sz]; exact h1)]
    rw [Array.getD_eq_getD_getElem?, Array.getElem?_eq_getElem (by rw [hS.sz]; exact h1)] at h2
    simpa using h2
  simp only [Go.yielded, hA, Option.bind_some, this]
theorem TOps.wantYes {d op U p e rest} {j dj : Nat} {b : Bool} (hA : (A[j]?).bind (·.dst) = some dj) (hb : get S dj = some (.bool b))
    (h : TOps P n S H (⟨d, op, U, p, e, none⟩ :: rest) A Q) : TOps P n S H (⟨d, op, U, p, e, some (j, b)⟩ :: rest) A Q := by
  intro a w hS hM
  have h0 := h a w hS hM
  have hy := hS.yielded hA hb
  unfold wpList at h0 ⊢
  simp only [Region.wanted, if_true] at h0
  simp only [Region.wanted, hy, beq_self_eq_true, if_true]
  exact h0
theorem TOps.wantNo {d op U p e rest} {j dj : Nat} {b b' : Bool} (hA : (A[j]?).bind (·.dst) = some dj) (hb : get S dj = some (.bool b)) (hne : (b == b') = false) (hn : Nat.blt d n = true)
    (h : TOps P n ((d, undef) :: S) H rest A Q) : TOps P n S H (⟨some d, op, U, p, e, some (j, b')⟩ :: rest) A Q := by
  intro a w hS hM
  have hy := hS.yielded hA hb
  unfold wpList
  have hw : (some b == some b') = false := by cases b <;> cases b' <;> simp_all
  simp only [Region.wanted, hy, hw]
  exact h _ _ (hS.put undef (by simpa [Nat.blt_eq] using hn)) hM
def ArgsAre (S : List (Nat × Value)) : List Operand → List Value → Prop
  | [], [] => True
  | x :: r, v :: s => opv S x = some v ∧ ArgsAre S r s
  | _, _ => False
theorem ArgsAre.eval {a : Act} (hS : Sl n S a) : ∀ {l : List Operand} {m : List Value}, ArgsAre S l m → l.map a.eval = m
  | [], [], _ => rfl
  | x :: r, v :: s, ⟨h1, h2⟩ => by simp [hS.eval h1, ArgsAre.eval hS h2]
theorem TOps.call {d f ts U p e rest} {args : List Operand} {vs : List Value} {R : Value → List Ent → Prop} (hc : ∀ as w, (callFunc f as).run P w = .ok (.enter f as) w)
    (ha : ArgsAre S args vs) (hg : Gives P f vs H R) (hn : Nat.blt d n = true)
    (h : ∀ v H', R v H' → TOps P n ((d, v) :: S) H' rest A Q) : TOps P n S H (⟨some d, .call ⟨.value (.func f), args.toArray, ts⟩, U, p, e, none⟩ :: rest) A Q := by
  intro a w hS hM
  refine wpList_plain rfl fun K hK => ?_
  have he := ha.eval hS
  have hr : (execOp a.eval ⟨some d, .call ⟨.value (.func f), args.toArray, ts⟩, U, p, e, none⟩).run P w = .ok (.enter f vs.toArray) w := by
    simp [execOp, resolve, Act.eval, Deferred.ofValue, invoke, hc, he]
  unfold Oper.wp
  rw [hr, Oper.upon_enter]
  refine (hg w hM).mono fun en w' h' => ?_
  obtain ⟨v, H', hR, rfl, hM'⟩ := h'
  exact hK _ _ (h v H' hR _ _ (hS.put v (by simpa [Nat.blt_eq] using hn)) hM')
def numbered : Nat → List Value → List (Nat × Value)
  | _, [] => []
  | i, v :: r => (i, v) :: numbered (i + 1) r
theorem get_numbered : ∀ (l : List Value) (i k : Nat) (v : Value), get (numbered i l) k = some v → i ≤ k ∧ l[k - i]? = some v
  | [], i, k, v, h => by simp [numbered, get] at h
  | x :: r, i, k, v, h => by
    by_cases e : i = k
    · subst e
      rw [numbered, get_cons_same] at h
      cases h
      exact ⟨Nat.le_refl _, by simp⟩
    · rw [numbered, get_cons_ne e] at h
      obtain ⟨h1, h2⟩ := get_numbered r (i + 1) k v h
      refine ⟨by omega, ?_⟩
      rw [show k - i = (k - (i + 1)) + 1 by omega]
      simpa using h2
def Post (R : Value → List Ent → Prop) : Ending → World → Prop := fun e w' => ∃ v H', R v H' ∧ e = .returned v ∧ Mem H' w'
theorem Gives.enter {f N : Nat} {fn : Func} {c : Code} {args : List Value} {R : Value → List Ent → Prop} (hf : P.funcs[f]? = some fn) (hb : fn.body = some c) (hn : fn.ntmps = N) (hl : Nat.ble args.length N = true)
    (h : Tri P N (numbered 0 args) H c (bodyPost P fn (Post R))) : Gives P f args H R := by
  intro w hM
  refine calls_of_wp hf hb (h _ _ ?_ hM)
  have hl' : args.length ≤ N := by simpa [Nat.ble_eq] using hl
  refine ⟨by simp [hn]; omega, rfl, fun k v hk => ?_⟩
  obtain ⟨_, h2⟩ := get_numbered _ _ _ _ hk
  simp only [Nat.sub_zero] at h2
  obtain ⟨h3, h4⟩ := List.getElem?_eq_some_iff.1 h2
  refine ⟨by omega, ?_⟩
  simp [Array.getElem?_append, h3, h4]
inductive ResIs (P : Program) (S : List (Nat × Value)) (H : List Ent) : ResultVar → Value → Prop
  | tmp {t v} : get S t = some v → ResIs P S H (.tmp t) v
  | cell1 {t T b off v g zv y} : get S t = some (.pointer (some ⟨b, off, none⟩)) → g = false → TI P T g zv 1 y → Rd H b off [v] → ResIs P S H (.cell t T) v
  | cellN {t T b off vs g zv sz y} : get S t = some (.pointer (some ⟨b, off, none⟩)) → g = true → TI P T g zv sz y → Rd H b off vs → vs.length = sz → ResIs P S H (.cell t T) (.agg vs.toArray)
def resRun (tmps : Array Value) : ResultVar → Sem Value
  | .tmp t => pure (tmps.getD t undef)
  | .cell a t => do loadVar t (← asAddr (tmps.getD a undef))
theorem ResIs.run {r : ResultVar} {v : Value} (h : ResIs P S H r v) {a : Act} {w : World} (hS : Sl n S a) (hM : Mem H w) : (resRun a.tmps r).run P w = .ok v w := by
  cases h with
  | tmp h => simp [resRun, (hS.g _ _ h).2]
  | cell1 h hg ht hr =>
    subst hg
    have hc := hr w hM 0 v rfl
    simp only [Nat.add_zero] at hc
    simp only [resRun, (hS.g _ _ h).2]
    simp [asAddr, loadVar, ht.ag, hc]
  | @cellN t T b off vs g zv sz y h hg ht hr hl =>
    subst hg
    have hc := run_loadCells (P := P) w b off vs 0 #[] (fun j v hj => by simpa using hr w hM j v hj)
    rw [hl] at hc
    simp only [resRun, (hS.g _ _ h).2]
    simp [asAddr, loadVar, ht.ag, ht.size, loadCells, hc]
theorem results_eq (fn : Func) (tmps : Array Value) : results fn tmps = (do let vs ← fn.results.mapM (resRun tmps); pure (if h : vs.size = 1 then vs[0] else .tuple vs)) := by
  unfold results
  congr 1
theorem Tri.ret1 {fn : Func} {r : ResultVar} {v : Value} {R : Value → List Ent → Prop} {H' : List Ent} (hres : fn.results = #[r]) (hq : ∀ a w, bodyPost P fn (Post R) .ret a w → Q .ret a w)
    (hr : ResIs P S H r v) (hl : Le H H') (hR : R v H') : Tri P n S H .ret Q :=
  Tri.ret fun a w hS hM => hq a w ⟨hS.df, v, by rw [results_eq, hres]; simp [hr.run hS hM], v, H', hR, rfl, hl w hM⟩
theorem Tri.ret2 {fn : Func} {r1 r2 : ResultVar} {v1 v2 : Value} {R : Value → List Ent → Prop} {H' : List Ent} (hres : fn.results = #[r1, r2]) (hq : ∀ a w, bodyPost P fn (Post R) .ret a w → Q .ret a w)
    (hr1 : ResIs P S H r1 v1) (hr2 : ResIs P S H r2 v2) (hl : Le H H') (hR : R (.tuple #[v1, v2]) H') : Tri P n S H .ret Q :=
  Tri.ret fun a w hS hM => hq a w ⟨hS.df, _, by rw [results_eq, hres]; simp [hr1.run hS hM, hr2.run hS hM], _, H', hR, rfl, hl w hM⟩
theorem Tri.ret3 {fn : Func} {r1 r2 r3 : ResultVar} {v1 v2 v3 : Value} {R : Value → List Ent → Prop} {H' : List Ent} (hres : fn.results = #[r1, r2, r3]) (hq : ∀ a w, bodyPost P fn (Post R) .ret a w → Q .ret a w)
    (hr1 : ResIs P S H r1 v1) (hr2 : ResIs P S H r2 v2) (hr3 : ResIs P S H r3 v3) (hl : Le H H') (hR : R (.tuple #[v1, v2, v3]) H') : Tri P n S H .ret Q :=
  Tri.ret fun a w hS hM => hq a w ⟨hS.df, _, by rw [results_eq, hres]; simp [hr1.run hS hM, hr2.run hS hM, hr3.run hS hM], _, H', hR, rfl, hl w hM⟩
end
end Go.GL
