import Derived.Test.YtffghipagnjggaaGL90
namespace Go.GL
set_option linter.unusedVariables false
set_option linter.unusedSimpArgs false
def flatA (ns : List Nd) : List Int := ns.flatMap (·.args)
def usesF (v n : Nat) (l : List Int) : List Int := (List.range n).map (fun j : Nat => ((l.count ((v : Int) + j) : Nat) : Int))
theorem usesF_length (v n : Nat) (l : List Int) : (usesF v n l).length = n := by simp [usesF]
theorem usesF_nil (v n : Nat) : ints (usesF v n []) = List.replicate n (.int .i64 0) := by
  unfold usesF ints
  rw [List.map_map]
  refine List.eq_replicate_iff.2 ⟨by simp, fun b hb => ?_⟩
  obtain ⟨j, _, rfl⟩ := List.mem_map.1 hb
  rfl
theorem usesF_get {v n : Nat} {l : List Int} {j : Nat} (h : j < n) : (ints (usesF v n l))[j]? = some (.int .i64 ((l.count ((v : Int) + j) : Nat) : Int)) := by
  unfold usesF ints
  simp [h]
theorem usesF_hit {v n : Nat} {l : List Int} {j : Nat} (h : j < n) : (ints (usesF v n l)).set j (.int .i64 (((l.count ((v : Int) + j) : Nat) : Int) + 1)) = ints (usesF v n (l ++ [(v : Int) + j])) := by
  refine List.ext_getElem? fun i => ?_
  by_cases hi : i < n
  · rw [usesF_get hi, count_snoc]
    by_cases hij : j = i
    · subst hij
      rw [List.getElem?_set_self (by rw [List.length_map, usesF_length]; exact h)]
      unfold oneIf
      rw [if_pos rfl]
      simp
    · rw [List.getElem?_set_ne hij, usesF_get hi]
      unfold oneIf
      rw [if_neg (by omega)]
      rfl
  · rw [List.getElem?_eq_none (by rw [List.length_set, List.length_map, usesF_length]; omega), List.getElem?_eq_none (by rw [List.length_map, usesF_length]; omega)]
theorem usesF_miss {v n : Nat} {l : List Int} {a : Int} (h : a < v) : usesF v n (l ++ [a]) = usesF v n l := by
  unfold usesF
  refine List.map_congr_left fun j _ => ?_
  rw [count_snoc]
  unfold oneIf
  rw [if_neg (by omega)]
  rfl
theorem flatA_succ {ns : List Nd} {k : Nat} (h : k < ns.length) : flatA (ns.take (k + 1)) = flatA (ns.take k) ++ ns[k].args := by
  unfold flatA
  rw [List.take_succ_eq_append_getElem h, List.flatMap_append]
  simp
theorem flatA_sub {ns : List Nd} {k j : Nat} (h : k < ns.length) : (flatA (ns.take k) ++ ns[k].args.take j).Sublist (flatA ns) := by
  refine ((List.Sublist.refl _).append (List.take_sublist _ _)).trans ?_
  rw [← flatA_succ h]
  conv => rhs; rw [← List.take_append_drop (k + 1) ns]
  unfold flatA
  rw [List.flatMap_append]
  exact List.sublist_append_left _ _
theorem treeF_vars {F : Fm} (hg : F.Good) (h : F.treeE = none) : F.treeF.vars = F.vars := by
  rcases treeE_cases hg with ⟨_, _, h3⟩ | ⟨h1, _⟩
  · rw [h3]
  · rw [h1] at h; cases h
theorem expF_vars {F : Fm} {what : Nat} (h : F.expE what = none) : (F.expF what).vars = F.vars := (expF_val h 0).2
theorem Rd.seg {H : List Ent} {b : Nat} {xs : List Value} (h : Rd H b 0 xs) (off n : Nat) : Rd H b off ((xs.drop off).take n) := fun w hm j v hj => by
  rw [List.getElem?_take] at hj
  split at hj
  · rw [List.getElem?_drop] at hj
    have := h w hm (off + j) v hj
    rwa [Nat.zero_add] at this
  · cases hj
structure SameAt (T : TypeId) (H : List Ent) (be bg k : Nat) (F : Fm) (X : Int) (o : Option Int) (G : Fm) (a : Option Nat) (c : Nat) : Prop where
  e : Rd H be k [errV T o]
  g : Rd H bg (k * 3) [.int .i64 G.vars, slV a 0 G.nodes.length c, .int .i64 G.top]
  r : RNodes H a 0 G.nodes
  ok : G.ok
  l : o = none → G.Good ∧ G.value X = F.value X ∧ G.vars = F.vars
  f : o ≠ none → o = some 4
theorem same_exp {F : Fm} (hg : F.Good) (what : Nat) (X : Int) : (F.expE what = none → (F.expF what).Good ∧ (F.expF what).value X = F.value X ∧ (F.expF what).vars = F.vars) ∧ (F.expE what ≠ none → F.expE what = some 4) :=
  ⟨fun h => ⟨expF_good h, (expF_val h X).1, (expF_val h X).2⟩, expE_four hg⟩
theorem same_plain {F : Fm} (hg : F.Good) (X : Int) : (F.plainE = none → F.plainF.Good ∧ F.plainF.value X = F.value X ∧ F.plainF.vars = F.vars) ∧ (F.plainE ≠ none → F.plainE = some 4) :=
  ⟨fun h => ⟨(plain_good h).2.2.2.2.2, (plain_val h X).1, (plain_val h X).2.1⟩, plainE_four hg⟩
theorem same_tree {F : Fm} (hg : F.Good) (X : Int) : (F.treeE = none → F.treeF.Good ∧ F.treeF.value X = F.value X ∧ F.treeF.vars = F.vars) ∧ (F.treeE ≠ none → F.treeE = some 4) :=
  ⟨fun h => ⟨(treeF_law hg h).1, (treeF_law hg h).2.1 X, treeF_vars hg h⟩, treeE_four hg⟩
theorem errV_cells (T : TypeId) (o : Option Int) : (errV T o).cells.toList = [errV T o] := by cases o <;> rfl
def errs5 (T : TypeId) (a b c d e : Option Int) : List Value := [errV T a, errV T b, errV T c, errV T d, errV T e]
theorem errs5_all (T : TypeId) (a b c d e : Option Int) : ((errs5 T a b c d e).all fun v => Nat.beq v.cells.toList.length 1) = true := by
  have h : ∀ o : Option Int, Nat.beq (errV T o).cells.toList.length 1 = true := fun o => by rw [errV_cells]; rfl
  show (Nat.beq (errV T a).cells.toList.length 1 && (Nat.beq (errV T b).cells.toList.length 1 && (Nat.beq (errV T c).cells.toList.length 1 && (Nat.beq (errV T d).cells.toList.length 1 && (Nat.beq (errV T e).cells.toList.length 1 && true))))) = true
  rw [h, h, h, h, h]
  rfl
theorem errs5_cells (T : TypeId) (a b c d e : Option Int) : (errs5 T a b c d e).flatMap (fun v => v.cells.toList) = errs5 T a b c d e := by
  unfold errs5
  simp [errV_cells]
end Go.GL
