import Derived.Test.YtlgjmebebhpolaaGL24
namespace Go.GL
set_option linter.unusedVariables false
set_option linter.unusedSimpArgs false
section
variable {P : Program} {n : Nat} {S : List (Nat × Value)} {H : List Ent} {A : Array Oper} {Q : Exit → Act → World → Prop}
theorem TOps.indexAddrA {d s x i U p e rest} {E : TypeId} {b off m off' : Nat} {k : IntKind} {z : Int} (hx : opv S x = some (.pointer (some ⟨b, off, none⟩))) (hi : opv S i = some (.int k z))
    (hs : P.underlying s = some (.array m E)) {g : Bool} {zv : List Value} {sz y : Nat} (ht : TI P E g zv sz y) (h0 : 0 ≤ z) (h1 : z < m) (ho : off + z.toNat * sz = off') (hn : Nat.blt d n = true)
    (h : TOps P n ((d, .pointer (some ⟨b, off', none⟩)) :: S) H rest A Q) : TOps P n S H (⟨some d, .indexAddr s x i, U, p, e, none⟩ :: rest) A Q :=
  TOps.pure rfl rfl hn (fun a w hS _ => by
    subst ho
    have : (⟨b, off, none⟩ : Addr).add (z.toNat * sz) = ⟨b, off + z.toNat * sz, none⟩ := by
      by_cases h0 : z.toNat * sz = 0 <;> simp [Addr.add, h0]
    simp [execOp, hS.eval hx, hS.eval hi, Instr.indexAt, asIntOf, run_underlying hs, Instr.sureAddr, h0, h1, ht.size, this]) h
theorem TOps.geqr {d x y T T' U p e rest} {k : IntKind} {a b : Int} {r : Bool} (hx : opv S x = some (.int k a)) (hy : opv S y = some (.int k b)) (hr : decide (b ≤ a) = r) (hn : Nat.blt d n = true)
    (h : TOps P n ((d, .bool r) :: S) H rest A Q) : TOps P n S H (⟨some d, .binOp .geq T x y T', U, p, e, none⟩ :: rest) A Q := by
  subst hr; exact TOps.geq hx hy hn h
theorem TOps.gtrr {d x y T T' U p e rest} {k : IntKind} {a b : Int} {r : Bool} (hx : opv S x = some (.int k a)) (hy : opv S y = some (.int k b)) (hr : decide (b < a) = r) (hn : Nat.blt d n = true)
    (h : TOps P n ((d, .bool r) :: S) H rest A Q) : TOps P n S H (⟨some d, .binOp .gtr T x y T', U, p, e, none⟩ :: rest) A Q := by
  subst hr; exact TOps.gtr hx hy hn h
theorem four {a b t : Int} : decide (a < 0) = true ∨ (decide (a < 0) = false ∧ decide (t ≤ a) = true) ∨ (decide (a < 0) = false ∧ decide (t ≤ a) = false ∧ decide (b < 0) = true) ∨ (decide (a < 0) = false ∧ decide (t ≤ a) = false ∧ decide (b < 0) = false) := by
  by_cases h : a < 0 <;> by_cases g : t ≤ a <;> by_cases f : b < 0 <;> simp [h, g, f]
theorem TOps.convI {d src dst x U p e rest} {k' k : IntKind} {z r : Int} (hx : opv S x = some (.int k' z)) (hs : P.underlying src = some (.int k')) (hd : P.underlying dst = some (.int k)) (hr : k.wrap z = r) (hn : Nat.blt d n = true)
    (h : TOps P n ((d, .int k r) :: S) H rest A Q) : TOps P n S H (⟨some d, .convert src dst x, U, p, e, none⟩ :: rest) A Q :=
  TOps.pure rfl rfl hn (fun a w hS _ => by
    subst hr
    simp [execOp, hS.eval hx, convert, run_underlying hs, run_underlying hd, Conv.intToInt]) h
theorem TOps.makeFunc {d f U p e rest} {caps : List Operand} {vs : List Value} (ha : ArgsAre S caps vs) (hn : Nat.blt d n = true)
    (h : TOps P n ((d, .func (.func f) #[] vs.toArray) :: S) H rest A Q) : TOps P n S H (⟨some d, .makeFunc (.func f) (List.toArray []) caps.toArray, U, p, e, none⟩ :: rest) A Q :=
  TOps.pure rfl rfl hn (fun a w hS _ => by
    have he := ha.eval hS
    simp [execOp, Instr.makeFunc, he]) h
theorem TOps.callV {d x f ts U p e rest} {args : List Operand} {vs caps : List Value} {R : Value → List Ent → Prop} (hx : opv S x = some (.func (.func f) #[] caps.toArray)) (hc : ∀ as w, (callFunc f as).run P w = .ok (.enter f as) w)
    (ha : ArgsAre S args vs) (hg : Gives P f (vs ++ caps) H R) (hn : Nat.blt d n = true)
    (h : ∀ v H', R v H' → TOps P n ((d, v) :: S) H' rest A Q) : TOps P n S H (⟨some d, .call ⟨.value x, args.toArray, ts⟩, U, p, e, none⟩ :: rest) A Q := by
  intro a w hS hM
  refine wpList_plain rfl fun K hK => ?_
  have he := ha.eval hS
  have hr : (execOp a.eval ⟨some d, .call ⟨.value x, args.toArray, ts⟩, U, p, e, none⟩).run P w = .ok (.enter f (vs ++ caps).toArray) w := by
    simp [execOp, resolve, hS.eval hx, Deferred.ofValue, invoke, hc, he]
  unfold Oper.wp
  rw [hr, Oper.upon_enter]
  refine (hg w hM).mono fun en w' h' => ?_
  obtain ⟨v, H', hR, rfl, hM'⟩ := h'
  exact hK _ _ (h v H' hR _ _ (hS.put v (by simpa [Nat.blt_eq] using hn)) hM')
end
section
variable {α : Type} (f : List α → Nd → α)
def genFrom : List α → List Nd → List α
  | v, [] => v
  | v, d :: r => genFrom (v ++ [f v d]) r
theorem genFrom_append (l1 l2 : List Nd) : ∀ v, genFrom f v (l1 ++ l2) = genFrom f (genFrom f v l1) l2 := by
  induction l1 with
  | nil => intro v; rfl
  | cons d r ih => intro v; exact ih _
theorem genFrom_length (l : List Nd) : ∀ v, (genFrom f v l).length = v.length + l.length := by
  induction l with
  | nil => intro v; rfl
  | cons d r ih => intro v; simp [genFrom, ih]; omega
theorem genFrom_take_succ {v : List α} {l : List Nd} {k : Nat} (hk : k < l.length) :
    genFrom f v (l.take (k + 1)) = genFrom f v (l.take k) ++ [f (genFrom f v (l.take k)) l[k]] := by
  rw [List.take_succ_eq_append_getElem hk, genFrom_append]
  rfl
theorem genFrom_getD_lt (z : α) (l : List Nd) : ∀ (v0 : List α) (j : Nat), j < v0.length → (genFrom f v0 l).getD j z = v0.getD j z := by
  induction l with
  | nil => intro v0 j _; rfl
  | cons d r ih =>
    intro v0 j hj
    rw [genFrom, ih _ j (by simp; omega)]
    simp [List.getD_eq_getElem?_getD, List.getElem?_append_left hj]
theorem genFrom_node (z : α) (l : List Nd) (v0 : List α) (i : Nat) (hi : i < l.length) (ha : ∀ a ∈ l[i].args, a.toNat < v0.length + i)
    (hf : ∀ v w : List α, (∀ a ∈ l[i].args, v.getD a.toNat z = w.getD a.toNat z) → f v l[i] = f w l[i]) :
    (genFrom f v0 l).getD (v0.length + i) z = f (genFrom f v0 l) l[i] := by
  have hsplit : l = l.take i ++ l[i] :: l.drop (i + 1) := by
    rw [List.getElem_cons_drop]
    simp
  have hlen : (genFrom f v0 (l.take i)).length = v0.length + i := by
    rw [genFrom_length, List.length_take]
    omega
  have h1 : genFrom f v0 l = genFrom f (genFrom f v0 (l.take i) ++ [f (genFrom f v0 (l.take i)) l[i]]) (l.drop (i + 1)) := by
    conv => lhs; rw [hsplit]
    rw [genFrom_append]
    rfl
  have h2 : f (genFrom f v0 (l.take i)) l[i] = f (genFrom f v0 l) l[i] := by
    refine hf _ _ fun a haa => ?_
    have hlt := ha a haa
    rw [h1, genFrom_getD_lt f z (l.drop (i + 1)) _ a.toNat (by rw [List.length_append, hlen, List.length_singleton]; omega)]
    rw [List.getD_eq_getElem?_getD, List.getD_eq_getElem?_getD, List.getElem?_append_left (show a.toNat < (genFrom f v0 (l.take i)).length by omega)]
  rw [← h2, h1, genFrom_getD_lt f z (l.drop (i + 1)) _ (v0.length + i) (by rw [List.length_append, hlen, List.length_singleton]; omega), ← hlen]
  simp [List.getD_eq_getElem?_getD]
end
def firstI (q : Int → Bool) (xs : List Int) : Int := match xs.findIdx? q with | some i => (i : Int) | none => -1
theorem firstI_at {q : Int → Bool} {xs : List Int} {k : Nat} (hk : k < xs.length) (h : ∀ j (hj : j < xs.length), j < k → q xs[j] = false) (h1 : q xs[k] = true) : firstI q xs = k := by
  have : xs.findIdx? q = some k := by
    rw [List.findIdx?_eq_some_iff_getElem]
    exact ⟨hk, h1, fun j hj => by simp [h j (by omega) hj]⟩
  unfold firstI
  rw [this]
theorem firstI_none {q : Int → Bool} {xs : List Int} (h : ∀ j (hj : j < xs.length), q xs[j] = false) : firstI q xs = -1 := by
  have : xs.findIdx? q = none := by
    rw [List.findIdx?_eq_none_iff]
    intro x hx
    obtain ⟨j, hj, rfl⟩ := List.getElem_of_mem hx
    simp [h j hj]
  unfold firstI
  rw [this]
theorem firstI_some {q : Int → Bool} {xs : List Int} (h : ∃ x ∈ xs, q x = true) : ∃ k, ∃ hk : k < xs.length, firstI q xs = k ∧ q xs[k] = true := by
  cases hf : xs.findIdx? q with
  | none =>
    rw [List.findIdx?_eq_none_iff] at hf
    obtain ⟨x, hx, hq⟩ := h
    rw [hf x hx] at hq; cases hq
  | some k =>
    have h2 := hf
    rw [List.findIdx?_eq_some_iff_getElem] at h2
    obtain ⟨hk, h1, _⟩ := h2
    exact ⟨k, hk, by unfold firstI; rw [hf], h1⟩
end Go.GL
