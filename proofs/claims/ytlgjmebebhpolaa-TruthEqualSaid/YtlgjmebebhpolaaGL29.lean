import Derived.Test.YtlgjmebebhpolaaGL28
namespace Go.GL
set_option linter.unusedVariables false
section
variable {P : Program} {n : Nat} {S : List (Nat × Value)} {H : List Ent} {A : Array Oper} {Q : Exit → Act → World → Prop}
theorem row_cap {a : Option Nat} {E sz cap : Nat} {xs : List Value} {w : World} (h : (row a E sz cap xs).ok w) : xs.length ≤ cap * sz := by
  cases a with
  | none => obtain ⟨rfl, rfl⟩ := h; simp
  | some b =>
    obtain ⟨sp, _, h2, _⟩ := h
    omega
theorem TOps.rowCapA {l : List Oper} {a : Option Nat} {E sz cap : Nat} {xs : List Value} (hm : row a E sz cap xs ∈ H) (h : xs.length ≤ cap * sz → TOps P n S H l A Q) : TOps P n S H l A Q :=
  fun ac w hS hM => h (row_cap (hM.ok _ hm)) ac w hS hM
theorem Tri.rowCapA {c} {a : Option Nat} {E sz cap : Nat} {xs : List Value} (hm : row a E sz cap xs ∈ H) (h : xs.length ≤ cap * sz → Tri P n S H c Q) : Tri P n S H c Q :=
  fun ac w hS hM => h (row_cap (hM.ok _ hm)) ac w hS hM
end
def argSumI (ns : List Nd) : Int := ns.foldl (fun z d => IntKind.i64.wrap (z + d.args.length)) 0
theorem argSumI_take_succ {ns : List Nd} {k : Nat} (hk : k < ns.length) : argSumI (ns.take (k + 1)) = IntKind.i64.wrap (argSumI (ns.take k) + ns[k].args.length) := by
  unfold argSumI
  rw [List.take_succ_eq_append_getElem hk, List.foldl_append]
  rfl
def Fm.heavy (F : Fm) : Bool := ((decide ((40 : Int) < F.nodes.length) && decide ((F.nodes.length : Int) ≤ 128)) || decide ((300 : Int) < F.nodes.length)) || decide (2000 < argSumI F.nodes)
theorem nats_at {H : List Ent} {a sp : Option Nat} {off : Nat} {l : List Nat} (h : RdS H a off (nats l) sp) {i : Nat} (hi : i < l.length) : ∃ b, a = some b ∧ sp = none ∧ Rd H b (off + i) [.int .i64 (l[i] : Nat)] := by
  have := RdS.at h (i := i) (by simpa using hi)
  simpa using this
def exF29 (t : Bool) : Fm := ⟨4, [⟨3, 0, [0, 1]⟩, ⟨3, 0, [bif t then 2 else 1, 2]⟩, ⟨2, 0, [2, 3]⟩, ⟨2, 0, [4, 5, 6]⟩], 7⟩
theorem exF29_good (t : Bool) : (exF29 t).Good := (Fm.good_iff _).1 (by cases t <;> decide)
theorem exF29_find : (exF29 false).find = [7] ∧ (exF29 true).find = [4, 7] := by decide
theorem Fm.find_lt {F : Fm} {k : Nat} (hk : k < F.find.length) : F.find[k] < F.vars.toNat + F.nodes.length := by
  obtain ⟨i, hi, _, _, h⟩ := Fm.mem_find.1 (List.getElem_mem hk)
  omega
theorem Fm.find_len (F : Fm) : F.find.length ≤ F.nodes.length := F.findTo_le _
theorem Fm.find_mono {F : Fm} {j k : Nat} (hjk : j < k) (hk : k < F.find.length) : F.find[j] < F.find[k] := List.pairwise_iff_getElem.1 F.find_sorted j k (by omega) hk hjk
theorem any_take_succ' {l : List Nat} {k : Nat} (p : Nat → Bool) (hk : k < l.length) : (l.take (k + 1)).any p = ((l.take k).any p || p l[k]) := by
  rw [List.take_succ_eq_append_getElem hk, List.any_append]
  simp
end Go.GL
