import Derived.Test.YtclpcnbdmmlogaaGL30
namespace Go.GL
set_option linter.unusedVariables false
set_option linter.unusedSimpArgs false
section
variable {P : Program} {n : Nat} {S : List (Nat × Value)} {H : List Ent} {A : Array Oper} {Q : Exit → Act → World → Prop}
theorem TOps.buildArr0 {d T U p e rest} {zs zs' : List Value} {sz y m sz' y' : Nat} {E : TypeId} {g' : Bool} (hT : P.underlying T = some (.array m E)) (ht : TI P T true zs sz y) (hE : TI P E g' zs' sz' y') (hn : Nat.blt d n = true)
    (h : TOps P n ((d, .agg zs.toArray) :: S) H rest A Q) : TOps P n S H (⟨some d, .build T (List.toArray []), U, p, e, none⟩ :: rest) A Q :=
  TOps.pure rfl rfl hn (fun ac w hS _ => by
    obtain ⟨i, z, h1, h2, h3, h4, h5⟩ := ht.i
    simp [execOp, Instr.build, zeroValue, typeInfo, h1, h2, h3, run_underlying hT, hE.size, Instr.fill]) h
end
theorem tc_sum' {v : List Nat} {l : List Int} (h : ∀ a ∈ l, v.getD a.toNat 2 ≤ 2) : tc v 0 l + tc v 1 l + tc v 2 l = l.length :=
  tcOf_sum (f := fun j => v.getD j 2) h
section
variable {α : Type} (f : List α → Nd → α) (z : α)
def refG (v : Nat) (ev : List α) (nodes : List Nd) (k : Nat) : List α := (genFrom f ev (nodes.take k)).drop v ++ List.replicate (nodes.length - k) z
variable {f z}
theorem refG_length {v : Nat} {ev : List α} {nodes : List Nd} {k : Nat} (he : ev.length = v) (hk : k ≤ nodes.length) : (refG f z v ev nodes k).length = nodes.length := by
  unfold refG
  rw [List.length_append, List.length_drop, genFrom_length, List.length_take, List.length_replicate]
  omega
theorem refG_set {v : Nat} {ev : List α} {nodes : List Nd} {k : Nat} (he : ev.length = v) (hk : k < nodes.length) :
    (refG f z v ev nodes k).set k (f (genFrom f ev (nodes.take k)) nodes[k]) = refG f z v ev nodes (k + 1) := by
  have hl : ((genFrom f ev (nodes.take k)).drop v).length = k := by rw [List.length_drop, genFrom_length, List.length_take]; omega
  unfold refG
  rw [List.set_append_right _ _ (by omega), hl, Nat.sub_self, genFrom_take_succ f hk, List.drop_append_of_le_length (by rw [genFrom_length, List.length_take]; omega), show nodes.length - k = (nodes.length - (k + 1)) + 1 by omega, List.replicate_succ]
  simp
theorem refG_get {v : Nat} {ev : List α} {nodes : List Nd} {k a : Nat} (w : α) (he : ev.length = v) (hk : k ≤ nodes.length) (h1 : v ≤ a) (h2 : a < v + k) : (refG f z v ev nodes k).getD (a - v) w = (genFrom f ev (nodes.take k)).getD a w := by
  have hl : ((genFrom f ev (nodes.take k)).drop v).length = k := by rw [List.length_drop, genFrom_length, List.length_take]; omega
  unfold refG
  rw [List.getD_eq_getElem?_getD, List.getElem?_append_left (by omega), List.getElem?_drop, List.getD_eq_getElem?_getD]
  congr 3
  omega
theorem refG_all {v : Nat} {ev : List α} {nodes : List Nd} : refG f z v ev nodes nodes.length = (genFrom f ev nodes).drop v := by
  unfold refG
  simp
theorem refG_zero {v : Nat} {ev : List α} {nodes : List Nd} (he : ev.length = v) : refG f z v ev nodes 0 = List.replicate nodes.length z := by
  unfold refG
  simp [genFrom, ← he]
end
def ofT (v : Int) (vs : List Nat) (y n : Int) (a : Int) : Nat := if v ≤ a then vs.getD (a - v).toNat 2 else lev (bitB y a.toNat) (bitB n a.toNat)
theorem ofT_eq {v : Nat} {y n : Int} {nodes : List Nd} {k : Nat} {a : Int} (hk : k ≤ nodes.length) (h0 : 0 ≤ a) (h1 : a < (v : Int) + k) :
    ofT v (refG tfun 0 v (tevents v y n) nodes k) y n a = (genFrom tfun (tevents v y n) (nodes.take k)).getD a.toNat 2 := by
  unfold ofT
  split
  · rw [← refG_get 2 (tevents_length v y n) hk (a := a.toNat) (by omega) (by omega)]
    congr 1
    omega
  · rw [genFrom_getD_lt _ _ _ _ _ (by rw [tevents_length]; omega)]
    simp [tevents, show a.toNat < v by omega]
theorem lev_xor (a b : Nat) : lev (decide ((a : Int) = 0) && decide ((b : Int).tmod 2 = 1)) (decide ((a : Int) = 0)) = lev (decide ((a : Int) = 0) && decide ((b : Int).tmod 2 = 1)) (decide ((a : Int) = 0) && decide ((b : Int).tmod 2 = 0)) := by
  have ht : ((b : Int).tmod 2) = ((b % 2 : Nat) : Int) := by norm_cast
  rw [ht]
  generalize decide ((a : Int) = 0) = A
  rcases Nat.mod_two_eq_zero_or_one b with h | h <;> rw [h] <;> cases A <;> rfl
theorem lev_tt {y n n' : Bool} (h : y = false → n = n') : lev y n = lev y n' := by
  cases y with
  | true => rfl
  | false => rw [h rfl]
end Go.GL
namespace Go.GL
theorem Fm.cubeErr_ne {F : Fm} {y n e : Int} (h : F.cubeErr y n = some e) : e ≠ 0 := by
  unfold Fm.cubeErr at h
  cases he : F.err with
  | some e' => rw [he] at h; cases h; exact Fm.err_ne_zero he
  | none =>
    rw [he] at h
    simp only at h
    split at h
    · cases h; decide
    · split at h
      · cases h; decide
      · cases h
theorem ofT_tval {F : Fm} (hg : F.Good) (y n : Int) {a : Int} (h0 : 0 ≤ a) : ofT F.vars (F.tnodeVals y n) y n a = F.tval y n a.toNat := by
  have g0 := hg.v0
  unfold ofT
  split
  · rw [F.tnodeVals_getD, show F.vars.toNat + (a - F.vars).toNat = a.toNat by omega]
  · rw [F.tval_event y n (by omega)]
end Go.GL
