import Derived.Test.YtffghipagnjggaaGL45
import Derived.Laws.StructEq
namespace Go.GL
set_option linter.unusedVariables false
set_option linter.unusedSimpArgs false
section
variable {P : Program} {n : Nat} {S : List (Nat × Value)} {H : List Ent} {A : Array Oper} {Q : Exit → Act → World → Prop}
theorem TOps.nilCheck {d x U p e rest} {a : Addr} (hx : opv S x = some (.pointer (some a))) (hn : Nat.blt d n = true)
    (h : TOps P n ((d, .pointer (some a)) :: S) H rest A Q) : TOps P n S H (⟨some d, .nilCheck x, U, p, e, none⟩ :: rest) A Q :=
  TOps.pure rfl rfl hn (fun ac w hS _ => by simp [execOp, hS.eval hx]) h
theorem run_equal_ptrnil {T E : TypeId} (hT : P.underlying T = some (.pointer E)) (a : Option Addr) (w : World) : (Op.equal T (.pointer a) (.pointer none)).run P w = .ok a.isNone w := by
  have key : ∀ d, (Op.equalIn (d + 1) T (.pointer a) (.pointer none)).run P w = .ok a.isNone w := by
    intro d
    cases a <;> simp [Op.equalIn, run_underlying hT]
  unfold Op.equal
  rw [show Op.maxDepth = 9999 + 1 from rfl]
  exact key 9999
theorem TOps.eqlPtrNil {d T x T' U p e rest} {E : TypeId} {a : Option Addr} (hx : opv S x = some (.pointer a)) (hT : P.underlying T = some (.pointer E)) (hn : Nat.blt d n = true)
    (h : TOps P n ((d, .bool a.isNone) :: S) H rest A Q) : TOps P n S H (⟨some d, .binOp .eql T x (.const (.pointer none)) T', U, p, e, none⟩ :: rest) A Q :=
  TOps.pure rfl rfl hn (fun ac w hS _ => by
    have hk : ac.eval (.const (.pointer none)) = .pointer none := rfl
    have he := run_equal_ptrnil (P := P) hT a w
    have hb : binOp .eql T (.pointer a) (.pointer none) = (Functor.map Value.bool (Op.equal T (.pointer a) (.pointer none))) := by
      simp [binOp]
    simp only [execOp, hS.eval hx, hk, hb]
    cases a <;> simp at he <;> simp [eqGuard, he]) h
theorem TOps.neqPtrNil {d T x T' U p e rest} {E : TypeId} {a : Option Addr} (hx : opv S x = some (.pointer a)) (hT : P.underlying T = some (.pointer E)) (hn : Nat.blt d n = true)
    (h : TOps P n ((d, .bool a.isSome) :: S) H rest A Q) : TOps P n S H (⟨some d, .binOp .neq T x (.const (.pointer none)) T', U, p, e, none⟩ :: rest) A Q :=
  TOps.pure rfl rfl hn (fun ac w hS _ => by
    have hk : ac.eval (.const (.pointer none)) = .pointer none := rfl
    have he := run_equal_ptrnil (P := P) hT a w
    simp only [execOp, hS.eval hx, hk]
    cases a <;> simp at he <;> simp [eqGuard, binOp, he]) h
theorem run_part_one {t : TypeId} {cs : Array Value} {off : Nat} {v : Value} (ha : ∀ w, (isAgg t).run P w = .ok false w) (hc : cs[off]? = some v) (w : World) : (Go.part t cs off).run P w = .ok v w := by
  simp [Go.part, ha, hc]
theorem run_equal_ibb {T Ti Tb : TypeId} {g0 g1 g2 : Field} (hT : P.underlying T = some (.struct #[g0, g1, g2])) (t0 : g0.type = Ti) (t1 : g1.type = Tb) (t2 : g2.type = Tb)
    (hi : P.underlying Ti = some (.int .i64)) (hb : P.underlying Tb = some .bool) (n0 : g0.name ≠ "_") (n1 : g1.name ≠ "_") (n2 : g2.name ≠ "_") (o0 : g0.offset = 0) (o1 : g1.offset = 1) (o2 : g2.offset = 2)
    (ai : ∀ w, (isAgg Ti).run P w = .ok false w) (ab : ∀ w, (isAgg Tb).run P w = .ok false w) (hh : P.stoodInHeld T = false) (a b : Int) (a1 b1 a2 b2 : Bool) (w : World) :
    (Op.equalIn 10000 T (.agg #[.int .i64 a, .bool a1, .bool a2]) (.agg #[.int .i64 b, .bool b1, .bool b2])).run P w = .ok (decide (a = b) && (a1 == b1 && a2 == b2)) w := by
  have hf : P.fieldsOf T = #[g0, g1, g2] := by simp [Program.fieldsOf, hT]
  rw [show (10000 : Nat) = 9998 + 1 + 1 from rfl, run_equalIn_struct w (9998 + 1) T _ _ (by rw [hf]; exact hT) hh, hf]
  have e0 : ∀ w, (Op.equalIn (9998 + 1) g0.type (.int .i64 a) (.int .i64 b)).run P w = .ok (a == b) w := fun w => run_equalIn_int w 9998 g0.type .i64 .i64 a b (by rw [t0]; exact hi)
  have e1 : ∀ w, (Op.equalIn (9998 + 1) g1.type (.bool a1) (.bool b1)).run P w = .ok (a1 == b1) w := fun w => run_equalIn_bool' w 9998 g1.type a1 b1 (by rw [t1]; exact hb)
  have e2 : ∀ w, (Op.equalIn (9998 + 1) g2.type (.bool a2) (.bool b2)).run P w = .ok (a2 == b2) w := fun w => run_equalIn_bool' w 9998 g2.type a2 b2 (by rw [t2]; exact hb)
  have x0 : ∀ w, (Go.part g0.type #[.int .i64 a, .bool a1, .bool a2] g0.offset).run P w = .ok (.int .i64 a) w := run_part_one (by rw [t0]; exact ai) (by rw [o0]; rfl)
  have x1 : ∀ w, (Go.part g1.type #[.int .i64 a, .bool a1, .bool a2] g1.offset).run P w = .ok (.bool a1) w := run_part_one (by rw [t1]; exact ab) (by rw [o1]; rfl)
  have x2 : ∀ w, (Go.part g2.type #[.int .i64 a, .bool a1, .bool a2] g2.offset).run P w = .ok (.bool a2) w := run_part_one (by rw [t2]; exact ab) (by rw [o2]; rfl)
  have y0 : ∀ w, (Go.part g0.type #[.int .i64 b, .bool b1, .bool b2] g0.offset).run P w = .ok (.int .i64 b) w := run_part_one (by rw [t0]; exact ai) (by rw [o0]; rfl)
  have y1 : ∀ w, (Go.part g1.type #[.int .i64 b, .bool b1, .bool b2] g1.offset).run P w = .ok (.bool b1) w := run_part_one (by rw [t1]; exact ab) (by rw [o1]; rfl)
  have y2 : ∀ w, (Go.part g2.type #[.int .i64 b, .bool b1, .bool b2] g2.offset).run P w = .ok (.bool b2) w := run_part_one (by rw [t2]; exact ab) (by rw [o2]; rfl)
  show (Op.eqFields (9998 + 1) #[.int .i64 a, .bool a1, .bool a2] #[.int .i64 b, .bool b1, .bool b2] [g0, g1, g2]).run P w = _
  simp only [Op.eqFields, n0, n1, n2, ne_eq, not_false_eq_true, if_true, Sem.run_bind, x0, y0, e0, Result.andThen_ok, Sem.run_ite, x1, y1, e1, x2, y2, e2, Sem.run_pure]
  by_cases hab : a = b
  · subst hab
    cases a1 <;> cases a2 <;> cases b1 <;> cases b2 <;> simp
  · simp [hab]
theorem TOps.neqIBB {d T x y T' U p e rest} {Ti Tb : TypeId} {g0 g1 g2 : Field} {a b : Int} {a1 b1 a2 b2 r : Bool} {zv zv' : List Value} {sz sz' q q' : Nat}
    (hx : opv S x = some (.agg (List.toArray [.int .i64 a, .bool a1, .bool a2]))) (hy : opv S y = some (.agg (List.toArray [.int .i64 b, .bool b1, .bool b2])))
    (hT : P.underlying T = some (.struct #[g0, g1, g2])) (t0 : g0.type = Ti) (t1 : g1.type = Tb) (t2 : g2.type = Tb)
    (hi : P.underlying Ti = some (.int .i64)) (hb : P.underlying Tb = some .bool) (n0 : (g0.name == "_") = false) (n1 : (g1.name == "_") = false) (n2 : (g2.name == "_") = false) (o0 : g0.offset = 0) (o1 : g1.offset = 1) (o2 : g2.offset = 2)
    (ai : TI P Ti false zv sz q) (ab : TI P Tb false zv' sz' q') (hh : P.stoodInHeld T = false) (hm : P.eqGuardType P.depth T = false) (hr : (!(decide (a = b) && (a1 == b1 && a2 == b2))) = r) (hn : Nat.blt d n = true)
    (h : TOps P n ((d, .bool r) :: S) H rest A Q) : TOps P n S H (⟨some d, .binOp .neq T x y T', U, p, e, none⟩ :: rest) A Q :=
  TOps.pure rfl rfl hn (fun ac w hS _ => by
    have h1 := run_equal_ibb (P := P) hT t0 t1 t2 hi hb (by simpa using n0) (by simpa using n1) (by simpa using n2) o0 o1 o2 ai.ag ab.ag hh a b a1 b1 a2 b2 w
    have h2 := run_neq_struct (P := P) w T #[.int .i64 a, .bool a1, .bool a2] #[.int .i64 b, .bool b1, .bool b2]
    rw [h1] at h2
    have h3 := run_eqGuard_agg (P := P) w .neq T x y #[.int .i64 a, .bool a1, .bool a2] #[.int .i64 b, .bool b1, .bool b2] hm
    subst hr
    simp [execOp, hS.eval hx, hS.eval hy, h3, h2]) h
end
theorem Rd.pre {H : List Ent} {b off : Nat} {vs : List Value} (h : Rd H b off vs) (n : Nat) : Rd H b off (vs.take n) := by
  intro w hM i u hi
  refine h w hM i u ?_
  rw [List.getElem?_take] at hi
  split at hi
  · exact hi
  · cases hi
theorem Le.rowCut {a : Option Nat} {E sz cap : Nat} {xs ys : List Value} {H : List Ent} : Le (row a E sz cap (xs ++ ys) :: H) (row a E sz cap xs :: H) := by
  intro w ⟨h1, h2, h3, h4⟩
  refine ⟨?_, h2, h3, h4⟩
  cases a with
  | none =>
    obtain ⟨h1, h5⟩ := h1
    exact ⟨(List.append_eq_nil_iff.1 h1).1, h5⟩
  | some b =>
    obtain ⟨sp, h1, h5, h6⟩ := h1
    refine ⟨ys ++ sp, by rw [← List.append_assoc]; exact h1, by simp at h5 ⊢; omega, h6⟩
theorem Le.rowCut2 {e : Ent} {a : Option Nat} {E sz cap : Nat} {xs ys : List Value} {H : List Ent} : Le (e :: row a E sz cap (xs ++ ys) :: H) (e :: row a E sz cap xs :: H) :=
  Le.swap.trans (Le.rowCut.trans Le.swap)
abbrev OA (cs : List Value) := {a : Option Nat // cs ≠ [] → ∃ b, a = some b}
def OA.zero (cs : List Value) : OA cs := ⟨some 0, fun _ => ⟨0, rfl⟩⟩
theorem oneInts (xs : List Int) : ∀ u ∈ ints xs, u.oneCell' = true := by
  intro u hu; obtain ⟨q, _, rfl⟩ := List.mem_map.1 hu; rfl
end Go.GL
