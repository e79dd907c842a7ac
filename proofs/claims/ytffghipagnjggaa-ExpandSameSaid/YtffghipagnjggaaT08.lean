import Derived.Test.YtffghipagnjggaaK08
import Derived.Test.YtffghipagnjggaaGL20
namespace Go.Proofs
open Go.GL
set_option linter.unusedVariables false
set_option linter.unusedSimpArgs false
end Go.Proofs
namespace Go.Proofs
open Go.GL
set_option linter.unusedVariables false
set_option linter.unusedSimpArgs false
theorem max_nat {a b : Nat} : (if (b : Int) > (a : Int) then (b : Int) else (a : Int)) = ((max a b : Nat) : Int) := by
  rw [Nat.max_def]; split <;> split <;> omega
theorem depthBound {v : Nat} {nodes : List Nd} {k : Nat} (args : List Int) : maxD (depFrom (List.replicate v 0) (nodes.take k)) args ≤ k := by
  refine maxD_le (fun j => ?_) args
  have h := depFrom_le v (nodes.take k) (List.replicate v 0) 0 (fun j => by simp [List.getD_eq_getElem?_getD, List.getElem?_replicate]; split <;> simp) j
  rw [List.length_take] at h
  omega
end Go.Proofs
namespace Go.Proofs
open Go.GL
set_option linter.unusedVariables false
set_option linter.unusedSimpArgs false
end Go.Proofs
