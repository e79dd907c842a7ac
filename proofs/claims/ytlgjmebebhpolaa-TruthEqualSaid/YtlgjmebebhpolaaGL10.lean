import Derived.Test.YtlgjmebebhpolaaGL9
namespace Go.GL
set_option linter.unusedVariables false
structure Fm.Good (F : Fm) : Prop where
  v0 : 0 ≤ F.vars
  v1 : F.vars ≤ 24
  n1 : F.nodes.length ≤ 128
  node : ∀ i (h : i < F.nodes.length), nodeErr F.vars i F.nodes[i] = none
  top : F.valid F.top = true
theorem nodesErr_none_iff (vars : Int) : ∀ (l : List Nd) (i : Nat), nodesErr vars i l = none ↔ ∀ j (h : j < l.length), nodeErr vars ((i + j : Nat) : Int) l[j] = none := by
  intro l i
  refine ⟨?_, nodesErr_none vars l i⟩
  induction l generalizing i with
  | nil => intro _ j h; simp at h
  | cons d r ih =>
    intro h j hj
    cases he : nodeErr vars i d with
    | some e => simp [nodesErr, he] at h
    | none =>
      simp only [nodesErr, he] at h
      cases j with
      | zero => simpa using he
      | succ j =>
        have := ih (i + 1) h j (by simpa using hj)
        rw [show i + 1 + j = i + (j + 1) by omega] at this
        simpa using this
theorem Fm.good_iff (F : Fm) : F.err = none ↔ F.Good := by
  unfold Fm.err
  constructor
  · intro h
    split at h
    · cases h
    · split at h
      · cases h
      · rename_i h1 h2
        cases hn : nodesErr F.vars 0 F.nodes with
        | some e => rw [hn] at h; cases h
        | none =>
          rw [hn] at h
          simp only at h
          split at h
          · rename_i h3
            have h4 := (nodesErr_none_iff F.vars F.nodes 0).1 hn
            exact ⟨by omega, by omega, by omega, fun i hi => by simpa using h4 i hi, h3⟩
          · cases h
  · intro h
    have hn := (nodesErr_none_iff F.vars F.nodes 0).2 (fun j hj => by simpa using h.node j hj)
    have h0 := h.v0; have h1 := h.v1; have h2 := h.n1
    rw [if_neg (by omega), if_neg (by omega), hn]
    simp [h.top]
structure Nd.Fits (d : Nd) (m : Int) : Prop where
  k0 : 0 ≤ d.kind
  k1 : d.kind ≤ 5
  ar : argsB d.kind d.args.length = true
  args : ∀ a ∈ d.args, 0 ≤ a ∧ a < m
  kk : (d.kind = 0 → d.k = 0 ∨ d.k = 1) ∧ (d.kind = 4 → 1 ≤ d.k ∧ d.k ≤ d.args.length) ∧ (d.kind ≠ 0 → d.kind ≠ 4 → d.k = 0)
theorem nodeErr_none {vars i : Int} {d : Nd} : nodeErr vars i d = none ↔ d.Fits (vars + i) := by
  unfold nodeErr
  constructor
  · intro h
    split at h
    · cases h
    rename_i h1
    split at h
    · cases h
    rename_i h2
    split at h
    · cases h
    rename_i h3
    refine ⟨by omega, by omega, by simpa using h2, ?_, ?_⟩
    · intro a ha
      have : ¬ (d.args.any fun a => decide (a < 0) || decide (vars + i ≤ a)) = true := h3
      rw [List.any_eq_true] at this
      have h4 : ¬ ((decide (a < 0) || decide (vars + i ≤ a)) = true) := fun h => this ⟨a, ha, h⟩
      simp at h4
      omega
    · split at h
      · rename_i h4
        split at h
        · cases h
        · refine ⟨fun _ => by omega, fun h => by omega, fun h => absurd h4 h⟩
      · split at h
        · split at h
          · cases h
          · refine ⟨fun h => by omega, fun _ => by omega, fun _ h => absurd ‹_› h⟩
        · split at h
          · cases h
          · refine ⟨fun h => by omega, fun h => by omega, fun _ _ => by omega⟩
  · intro h
    have h0 := h.k0; have h1 := h.k1
    rw [if_neg (by omega), if_neg (by rw [h.ar]; decide), if_neg]
    · obtain ⟨a, b, c⟩ := h.kk
      split
      · rename_i h4
        have := a h4
        rw [if_neg (by omega)]
      · split
        · rename_i h5
          have := b h5
          rw [if_neg (by omega)]
        · rename_i h4 h5
          rw [if_neg (by have := c h4 h5; omega)]
    · rw [List.any_eq_true]
      rintro ⟨a, ha, h2⟩
      have := h.args a ha
      simp at h2
      omega
theorem Fm.Good.fits {F : Fm} (h : F.Good) (i : Nat) (hi : i < F.nodes.length) : F.nodes[i].Fits (F.vars + i) := nodeErr_none.1 (h.node i hi)
theorem Nd.Fits.len {d : Nd} {m : Int} (h : d.Fits m) : d.args.length ≤ 16 := by
  have := h.ar
  unfold argsB at this
  split at this
  · simp at this; simp [this]
  · split at this <;> simp at this <;> omega
theorem Fm.Good.topLt {F : Fm} (h : F.Good) : 0 ≤ F.top ∧ F.top < F.vars + F.nodes.length := by
  have := h.top
  simp [Fm.valid] at this
  omega
def bitB (z : Int) (i : Nat) : Bool := decide (iand (ishr z i) 1 = 1)
def nodeVal (d : Nd) (c : Int) : Bool :=
  if d.kind = 0 then decide (d.k = 1) else if d.kind = 1 then decide (c = 0) else if d.kind = 2 then decide (c = d.args.length)
  else if d.kind = 3 then decide (0 < c) else if d.kind = 4 then decide (d.k ≤ c) else if d.kind = 5 then decide (c.tmod 2 = 1) else false
def cnt (v : List Bool) (args : List Int) : Nat := args.countP (fun a => v.getD a.toNat false)
def valsFrom (v : List Bool) : List Nd → List Bool
  | [] => v
  | d :: r => valsFrom (v ++ [nodeVal d (cnt v d.args)]) r
def events (v : Nat) (failed : Int) : List Bool := (List.range v).map (bitB failed)
def Fm.values (F : Fm) (failed : Int) : List Bool := valsFrom (events F.vars.toNat failed) F.nodes
theorem valsFrom_append (l1 l2 : List Nd) : ∀ v, valsFrom v (l1 ++ l2) = valsFrom (valsFrom v l1) l2 := by
  induction l1 with
  | nil => intro v; rfl
  | cons d r ih => intro v; exact ih _
theorem valsFrom_length (l : List Nd) : ∀ v, (valsFrom v l).length = v.length + l.length := by
  induction l with
  | nil => intro v; rfl
  | cons d r ih => intro v; simp [valsFrom, ih]; omega
theorem events_length (v : Nat) (f : Int) : (events v f).length = v := by simp [events]
theorem values_take_succ {v : List Bool} {l : List Nd} {k : Nat} (hk : k < l.length) :
    valsFrom v (l.take (k + 1)) = valsFrom v (l.take k) ++ [nodeVal l[k] (cnt (valsFrom v (l.take k)) l[k].args)] := by
  rw [List.take_succ_eq_append_getElem hk, valsFrom_append]
  rfl
theorem cnt_take_succ {v : List Bool} {l : List Int} {k : Nat} (hk : k < l.length) :
    cnt v (l.take (k + 1)) = cnt v (l.take k) + (if v.getD l[k].toNat false then 1 else 0) := by
  unfold cnt
  rw [List.take_succ_eq_append_getElem hk, List.countP_append]
  simp [List.countP_cons, List.countP_nil]
theorem cnt_le (v : List Bool) (l : List Int) : cnt v l ≤ l.length := List.countP_le_length
abbrev bools (l : List Bool) : List Value := l.map Value.bool
theorem bools_get {l : List Bool} {i : Nat} (hi : i < l.length) : (bools l)[i]? = some (.bool (l.getD i false)) := by
  simp [hi]
theorem fill_set {α : Type} {v k : Nat} (f : Nat → α) (z : α) (hk : k < v) : ((List.range k).map f ++ List.replicate (v - k) z).set k (f k) = (List.range (k + 1)).map f ++ List.replicate (v - (k + 1)) z := by
  rw [List.set_append_right _ _ (by simp)]
  simp only [List.length_map, List.length_range, Nat.sub_self, List.range_succ, List.map_append, List.map_cons, List.map_nil, List.append_assoc, List.cons_append, List.nil_append]
  congr 1
  rw [show v - k = (v - (k + 1)) + 1 by omega, List.replicate_succ]
  rfl
end Go.GL
