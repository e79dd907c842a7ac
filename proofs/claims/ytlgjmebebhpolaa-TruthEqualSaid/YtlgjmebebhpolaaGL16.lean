import Derived.Test.YtlgjmebebhpolaaGL15
namespace Go.GL
set_option linter.unusedVariables false
section
variable {P : Program}
theorem zeroInt {T : TypeId} (h : (P.info? T).bind (fun i => i.zero) = some (Value.int .i64 0)) (w : World) : (zeroValue T).run P w = .ok (.int .i64 0) w := by
  cases hi : P.info? T with
  | none => rw [hi] at h; cases h
  | some i =>
    rw [hi] at h
    simp only [Option.bind_some] at h
    simp [zeroValue, typeInfo, hi, h]
end
def NewS (E : TypeId) (xs : List Value) (n : Nat) (H : List Ent) : Value → List Ent → Prop := fun u H' => ∃ a cap, u = slV a 0 n cap ∧ (xs ≠ [] → ∃ b, a = some b) ∧ row a E 1 cap xs :: H = H'
theorem RdS.ofRowA {H : List Ent} {a : Option Nat} {E sz cap : Nat} {xs : List Value} (hm : row a E sz cap xs ∈ H) (ha : xs ≠ [] → ∃ b, a = some b) : RdS H a 0 xs := by
  cases xs with
  | nil => exact .inl rfl
  | cons x r =>
    obtain ⟨b, rfl⟩ := ha (by simp)
    exact RdS.ofRowS hm
theorem RdS.drop {H : List Ent} {a : Option Nat} {off : Nat} {xs : List Value} {sp : Option Nat} (h : RdS H a off xs sp) (k : Nat) : RdS H a (off + k) (xs.drop k) sp := by
  rcases h with h | ⟨b, h1, h2, h3⟩
  · subst h; exact .inl (by simp)
  · refine .inr ⟨b, h1, h2, ?_⟩
    intro w hM j v hj
    have := h3 w hM (k + j) v (by rw [List.getElem?_drop] at hj; exact hj)
    rw [show off + k + j = off + (k + j) by omega]
    exact this
theorem RdS.none {H : List Ent} {off : Nat} {xs : List Value} {sp : Option Nat} (h : RdS H Option.none off xs sp) : xs = [] := by
  rcases h with h | ⟨b, h1, _⟩
  · exact h
  · cases h1
theorem pref_succ {α : Type} {xs ys : List α} {k : Nat} (hk : k < xs.length) (hl : xs.length = ys.length) (h : xs.take k = ys.take k) (h1 : xs[k] = ys[k]'(by omega)) : xs.take (k + 1) = ys.take (k + 1) := by
  rw [List.take_succ_eq_append_getElem hk, List.take_succ_eq_append_getElem (by omega), h, h1]
theorem pref_ne {α : Type} {xs ys : List α} {k : Nat} (hk : k < xs.length) (hl : xs.length = ys.length) (h1 : xs[k] ≠ ys[k]'(by omega)) : xs ≠ ys := by
  intro h; subst h; exact h1 rfl
theorem pref_all {α : Type} {xs ys : List α} (hl : xs.length = ys.length) (h : xs.take xs.length = ys.take xs.length) : xs = ys := by
  rw [List.take_length] at h
  rw [h, hl, List.take_length]
def Fm.nodeVals (F : Fm) (z : Int) : List Bool := (F.values z).drop F.vars.toNat
theorem Fm.values_length (F : Fm) (z : Int) : (F.values z).length = F.vars.toNat + F.nodes.length := by
  unfold Fm.values; rw [valsFrom_length, events_length]
theorem Fm.nodeVals_length (F : Fm) (z : Int) : (F.nodeVals z).length = F.nodes.length := by
  unfold Fm.nodeVals; rw [List.length_drop, F.values_length]; omega
theorem nodeErr_ne_zero {v i e : Int} {d : Nd} (h : nodeErr v i d = some e) : e ≠ 0 := by
  unfold nodeErr at h
  (repeat' split at h) <;> first | (cases h; decide) | cases h
def argsLo (k : Int) : Int := if k = 0 then 0 else 1
def argsHi (k : Int) : Int := if k = 0 then 0 else if k = 1 then 1 else 16
theorem argsB_lohi {k : Int} {n : Nat} : argsB k n = (decide (argsLo k ≤ n) && decide ((n : Int) ≤ argsHi k)) := by
  unfold argsB argsLo argsHi
  split
  · by_cases h : (n : Int) = 0 <;> simp <;> omega
  · split
    · by_cases h : (n : Int) = 1
      · simp [h]
      · rw [decide_eq_false h]; symm; simp; omega
    · rfl
end Go.GL
