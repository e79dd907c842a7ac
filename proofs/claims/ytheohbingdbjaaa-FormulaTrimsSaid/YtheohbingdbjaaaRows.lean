/-
  No cell of these rows narrows 'for every input' (looked for: loops, veiled, ifaces, maps, wideKeys, modest, calm, conditions, laid).
  DERIVED. THE GIVEN ROWS OF THIS SEAT. 6 by the template 'for every input the law returns true; each argument reads behind the call as it read before'; 0 by the template 'total and deterministic' (their statements: YtheohbingdbjaaaTotals.lean).
  GIVEN WITH THE SEED: the statements are not yours to turn. If you find one false, say at which input.
  Laid BY PROGRAM, IN A SANDBOX (cutbox-rows.mjs): the forced cells as the released guide's own fill.sh prints them over the translation 03d30538a302565c… (all of the seat's roots in one cut). By AI agents, Wed Nov 11 2026. No macro, syntax, notation, axiom, sorry.
-/
import Derived.Test.YtheohbingdbjaaaChecked
import GoSem.Claim
import GoSem.ClaimJoined
import GoSem.ClaimMapViews
import Derived.JoinedTies
import Derived.KernelRfl
namespace Go.Proofs.Ytheohbingdbjaaa
/- THE CELL 'sum', in the pinned program and in every row, IS THE sha256 OF THE DUMP (.gsa) THAT YtheohbingdbjaaaProg.lean LOADS. Nothing in Lean hashes anything: it is a label: what it is worth is what the hold of that sum in a sandbox is worth. -/
noncomputable def Try.pinned : Pinned := { name := "ytheohbingdbjaaa", sum := "03d30538a302565cbf74442b7820e544e1f7bbc75c9ab92c06106b78b8f36024", checked := Try.checked }
namespace Rows
def none {H : Type} : Left H := { results := [], args := [] }

/-- 'faultlinelaw08.FormulaSupport': WHATEVER THE INPUT: true; the input reads as it did. -/
def formulaSupportSpec : ChangeSpec := { name := "formulaSupport", fn := fun _ => fun
  | [d1, d2, d3] => { results := [.lit (.bool true)], args := [d1, d2, d3] }
  | _ => none }
def formulaSupportRow : OpenClaim := { program := "ytheohbingdbjaaa", sum := "03d30538a302565cbf74442b7820e544e1f7bbc75c9ab92c06106b78b8f36024", func := "faultline/faultlinelaw08.FormulaSupport", spec := "formulaSupport", apart := false }
def FormulaSupportSaid : Prop := formulaSupportRow.holds Try.pinned (OpenSpec.ofChange formulaSupportSpec)

/-- ITS FALSE NEIGHBOUR: 'it returns false'. Refute it at one input. -/
def formulaSupportWrong : ChangeSpec := { name := "formulaSupport", fn := fun _ => fun
  | [d1, d2, d3] => { results := [.lit (.bool false)], args := [d1, d2, d3] }
  | _ => none }
def FormulaSupportWrongFalsely : Prop := formulaSupportRow.holds Try.pinned (OpenSpec.ofChange formulaSupportWrong)

/-- 'faultlinelaw08.FormulaGrows': WHATEVER THE INPUT: true; the input reads as it did. -/
def formulaGrowsSpec : ChangeSpec := { name := "formulaGrows", fn := fun _ => fun
  | [d1, d2, d3] => { results := [.lit (.bool true)], args := [d1, d2, d3] }
  | _ => none }
def formulaGrowsRow : OpenClaim := { program := "ytheohbingdbjaaa", sum := "03d30538a302565cbf74442b7820e544e1f7bbc75c9ab92c06106b78b8f36024", func := "faultline/faultlinelaw08.FormulaGrows", spec := "formulaGrows", apart := false }
def FormulaGrowsSaid : Prop := formulaGrowsRow.holds Try.pinned (OpenSpec.ofChange formulaGrowsSpec)

/-- ITS FALSE NEIGHBOUR: 'it returns false'. Refute it at one input. -/
def formulaGrowsWrong : ChangeSpec := { name := "formulaGrows", fn := fun _ => fun
  | [d1, d2, d3] => { results := [.lit (.bool false)], args := [d1, d2, d3] }
  | _ => none }
def FormulaGrowsWrongFalsely : Prop := formulaGrowsRow.holds Try.pinned (OpenSpec.ofChange formulaGrowsWrong)

/-- 'faultlinelaw08.FormulaValues': WHATEVER THE INPUT: true; the input reads as it did. -/
def formulaValuesSpec : ChangeSpec := { name := "formulaValues", fn := fun _ => fun
  | [d1, d2] => { results := [.lit (.bool true)], args := [d1, d2] }
  | _ => none }
def formulaValuesRow : OpenClaim := { program := "ytheohbingdbjaaa", sum := "03d30538a302565cbf74442b7820e544e1f7bbc75c9ab92c06106b78b8f36024", func := "faultline/faultlinelaw08.FormulaValues", spec := "formulaValues", apart := false }
def FormulaValuesSaid : Prop := formulaValuesRow.holds Try.pinned (OpenSpec.ofChange formulaValuesSpec)

/-- ITS FALSE NEIGHBOUR: 'it returns false'. Refute it at one input. -/
def formulaValuesWrong : ChangeSpec := { name := "formulaValues", fn := fun _ => fun
  | [d1, d2] => { results := [.lit (.bool false)], args := [d1, d2] }
  | _ => none }
def FormulaValuesWrongFalsely : Prop := formulaValuesRow.holds Try.pinned (OpenSpec.ofChange formulaValuesWrong)

/-- 'faultlinelaw08.FormulaNodes': WHATEVER THE INPUT: true; the input reads as it did. -/
def formulaNodesSpec : ChangeSpec := { name := "formulaNodes", fn := fun _ => fun
  | [d1, d2] => { results := [.lit (.bool true)], args := [d1, d2] }
  | _ => none }
def formulaNodesRow : OpenClaim := { program := "ytheohbingdbjaaa", sum := "03d30538a302565cbf74442b7820e544e1f7bbc75c9ab92c06106b78b8f36024", func := "faultline/faultlinelaw08.FormulaNodes", spec := "formulaNodes", apart := false }
def FormulaNodesSaid : Prop := formulaNodesRow.holds Try.pinned (OpenSpec.ofChange formulaNodesSpec)

/-- ITS FALSE NEIGHBOUR: 'it returns false'. Refute it at one input. -/
def formulaNodesWrong : ChangeSpec := { name := "formulaNodes", fn := fun _ => fun
  | [d1, d2] => { results := [.lit (.bool false)], args := [d1, d2] }
  | _ => none }
def FormulaNodesWrongFalsely : Prop := formulaNodesRow.holds Try.pinned (OpenSpec.ofChange formulaNodesWrong)

/-- 'faultlinelaw08.FormulaMeasures': WHATEVER THE INPUT: true; the input reads as it did. -/
def formulaMeasuresSpec : ChangeSpec := { name := "formulaMeasures", fn := fun _ => fun
  | [d] => { results := [.lit (.bool true)], args := [d] }
  | _ => none }
def formulaMeasuresRow : OpenClaim := { program := "ytheohbingdbjaaa", sum := "03d30538a302565cbf74442b7820e544e1f7bbc75c9ab92c06106b78b8f36024", func := "faultline/faultlinelaw08.FormulaMeasures", spec := "formulaMeasures", apart := false }
def FormulaMeasuresSaid : Prop := formulaMeasuresRow.holds Try.pinned (OpenSpec.ofChange formulaMeasuresSpec)

/-- ITS FALSE NEIGHBOUR: 'it returns false'. Refute it at one input. -/
def formulaMeasuresWrong : ChangeSpec := { name := "formulaMeasures", fn := fun _ => fun
  | [d] => { results := [.lit (.bool false)], args := [d] }
  | _ => none }
def FormulaMeasuresWrongFalsely : Prop := formulaMeasuresRow.holds Try.pinned (OpenSpec.ofChange formulaMeasuresWrong)

/-- 'faultlinelaw08.FormulaTrims': WHATEVER THE INPUT: true; the input reads as it did. -/
def formulaTrimsSpec : ChangeSpec := { name := "formulaTrims", fn := fun _ => fun
  | [d1, d2] => { results := [.lit (.bool true)], args := [d1, d2] }
  | _ => none }
def formulaTrimsRow : OpenClaim := { program := "ytheohbingdbjaaa", sum := "03d30538a302565cbf74442b7820e544e1f7bbc75c9ab92c06106b78b8f36024", func := "faultline/faultlinelaw08.FormulaTrims", spec := "formulaTrims", apart := false }
def FormulaTrimsSaid : Prop := formulaTrimsRow.holds Try.pinned (OpenSpec.ofChange formulaTrimsSpec)

/-- ITS FALSE NEIGHBOUR: 'it returns false'. Refute it at one input. -/
def formulaTrimsWrong : ChangeSpec := { name := "formulaTrims", fn := fun _ => fun
  | [d1, d2] => { results := [.lit (.bool false)], args := [d1, d2] }
  | _ => none }
def FormulaTrimsWrongFalsely : Prop := formulaTrimsRow.holds Try.pinned (OpenSpec.ofChange formulaTrimsWrong)

/- THE SECOND FORM. 'bulk': how many values and letters a reading holds, each counted each time it is reached (what is shared counts as often as it is met; a slice's spare places count too). A statement '..UptoSaid' is the law's where the arguments, and the package variables that the reading takes, are together of bulk at most 1048576: NARROWER than '..Said'. Prove '..Said' where nothing that the law and all that it calls make is longer than what came in: it says more and counts as full. Else prove '..UptoSaid'. A law counts once. -/
mutual
def uptoBulk {H : Type} : DataW H → Nat
  | .lit (.string bytes) => bytes.length + 1
  | .lit _ => 1
  | .nil => 1
  | .ptr d => uptoBulk d + 1
  | .slice elems spare => uptoBulkAll elems + uptoBulkAll spare + 1
  | .agg parts => uptoBulkAll parts + 1
  | .iface _ d => uptoBulk d + 1
  | .map entries => uptoBulkEntries entries + 1
  | .held _ => 1
def uptoBulkAll {H : Type} : List (DataW H) → Nat
  | [] => 0
  | d :: r => uptoBulk d + uptoBulkAll r
def uptoBulkEntries {H : Type} : List (Lit × DataW H) → Nat
  | [] => 0
  | x :: r => uptoBulkEntry x + uptoBulkEntries r
def uptoBulkEntry {H : Type} : Lit × DataW H → Nat
  | (.string bytes, d) => bytes.length + uptoBulk d + 1
  | (_, d) => uptoBulk d + 1
 end
def uptoSmall : (H : Type) → List (DataW H) → Bool := fun _ ds => decide (uptoBulkAll ds ≤ 1048576)
def OpenSpec.upto (s : _root_.Go.ChangeSpec) : _root_.Go.OpenSpec := { _root_.Go.OpenSpec.ofChange s with cond := some uptoSmall }

/-- 'faultlinelaw08.FormulaSupport', WHERE WHAT IT READS IS OF BULK AT MOST 1048576: true; the input reads as it did. -/
def formulaSupportUptoRow : OpenClaim := { program := "ytheohbingdbjaaa", sum := "03d30538a302565cbf74442b7820e544e1f7bbc75c9ab92c06106b78b8f36024", func := "faultline/faultlinelaw08.FormulaSupport", spec := "formulaSupport", apart := false, narrowed := true }
def FormulaSupportUptoSaid : Prop := formulaSupportUptoRow.holds Try.pinned (OpenSpec.upto formulaSupportSpec)

/-- 'faultlinelaw08.FormulaGrows', WHERE WHAT IT READS IS OF BULK AT MOST 1048576: true; the input reads as it did. -/
def formulaGrowsUptoRow : OpenClaim := { program := "ytheohbingdbjaaa", sum := "03d30538a302565cbf74442b7820e544e1f7bbc75c9ab92c06106b78b8f36024", func := "faultline/faultlinelaw08.FormulaGrows", spec := "formulaGrows", apart := false, narrowed := true }
def FormulaGrowsUptoSaid : Prop := formulaGrowsUptoRow.holds Try.pinned (OpenSpec.upto formulaGrowsSpec)

/-- 'faultlinelaw08.FormulaValues', WHERE WHAT IT READS IS OF BULK AT MOST 1048576: true; the input reads as it did. -/
def formulaValuesUptoRow : OpenClaim := { program := "ytheohbingdbjaaa", sum := "03d30538a302565cbf74442b7820e544e1f7bbc75c9ab92c06106b78b8f36024", func := "faultline/faultlinelaw08.FormulaValues", spec := "formulaValues", apart := false, narrowed := true }
def FormulaValuesUptoSaid : Prop := formulaValuesUptoRow.holds Try.pinned (OpenSpec.upto formulaValuesSpec)

/-- 'faultlinelaw08.FormulaNodes', WHERE WHAT IT READS IS OF BULK AT MOST 1048576: true; the input reads as it did. -/
def formulaNodesUptoRow : OpenClaim := { program := "ytheohbingdbjaaa", sum := "03d30538a302565cbf74442b7820e544e1f7bbc75c9ab92c06106b78b8f36024", func := "faultline/faultlinelaw08.FormulaNodes", spec := "formulaNodes", apart := false, narrowed := true }
def FormulaNodesUptoSaid : Prop := formulaNodesUptoRow.holds Try.pinned (OpenSpec.upto formulaNodesSpec)

/-- 'faultlinelaw08.FormulaMeasures', WHERE WHAT IT READS IS OF BULK AT MOST 1048576: true; the input reads as it did. -/
def formulaMeasuresUptoRow : OpenClaim := { program := "ytheohbingdbjaaa", sum := "03d30538a302565cbf74442b7820e544e1f7bbc75c9ab92c06106b78b8f36024", func := "faultline/faultlinelaw08.FormulaMeasures", spec := "formulaMeasures", apart := false, narrowed := true }
def FormulaMeasuresUptoSaid : Prop := formulaMeasuresUptoRow.holds Try.pinned (OpenSpec.upto formulaMeasuresSpec)

/-- 'faultlinelaw08.FormulaTrims', WHERE WHAT IT READS IS OF BULK AT MOST 1048576: true; the input reads as it did. -/
def formulaTrimsUptoRow : OpenClaim := { program := "ytheohbingdbjaaa", sum := "03d30538a302565cbf74442b7820e544e1f7bbc75c9ab92c06106b78b8f36024", func := "faultline/faultlinelaw08.FormulaTrims", spec := "formulaTrims", apart := false, narrowed := true }
def FormulaTrimsUptoSaid : Prop := formulaTrimsUptoRow.holds Try.pinned (OpenSpec.upto formulaTrimsSpec)

end Rows
end Go.Proofs.Ytheohbingdbjaaa
