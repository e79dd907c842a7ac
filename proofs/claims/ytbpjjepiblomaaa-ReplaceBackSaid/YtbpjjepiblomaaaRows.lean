/-
  No cell of these rows narrows 'for every input' (looked for: loops, veiled, ifaces, maps, wideKeys, modest, calm, conditions, laid).
  DERIVED. THE GIVEN ROWS OF THIS SEAT. 7 by the template 'for every input the law returns true; each argument reads behind the call as it read before'; 0 by the template 'total and deterministic' (their statements: YtbpjjepiblomaaaTotals.lean).
  GIVEN WITH THE SEED: the statements are not yours to turn. If you find one false, say at which input.
  Laid BY PROGRAM, IN A SANDBOX (cutbox-rows.mjs): the forced cells as the released guide's own fill.sh prints them over the translation 01a0a5e99e45c16b… (all of the seat's roots in one cut). By AI agents, Wed Nov 11 2026. No macro, syntax, notation, axiom, sorry.
-/
import Derived.Test.YtbpjjepiblomaaaChecked
import GoSem.Claim
import GoSem.ClaimJoined
import GoSem.ClaimMapViews
import Derived.JoinedTies
import Derived.KernelRfl
namespace Go.Proofs.Ytbpjjepiblomaaa
/- THE CELL 'sum', in the pinned program and in every row, IS THE sha256 OF THE DUMP (.gsa) THAT YtbpjjepiblomaaaProg.lean LOADS. Nothing in Lean hashes anything: it is a label: what it is worth is what the hold of that sum in a sandbox is worth. -/
noncomputable def Try.pinned : Pinned := { name := "ytbpjjepiblomaaa", sum := "01a0a5e99e45c16b1135c84fa682717706ef40e19c8cc49c2ee8e5e82d1e4baa", checked := Try.checked }
namespace Rows
def none {H : Type} : Left H := { results := [], args := [] }

/-- 'faultlinelaw30.ReplaceCuts': WHATEVER THE INPUT: true; the input reads as it did. -/
def replaceCutsSpec : ChangeSpec := { name := "replaceCuts", fn := fun _ => fun
  | [d1, d2] => { results := [.lit (.bool true)], args := [d1, d2] }
  | _ => none }
def replaceCutsRow : OpenClaim := { program := "ytbpjjepiblomaaa", sum := "01a0a5e99e45c16b1135c84fa682717706ef40e19c8cc49c2ee8e5e82d1e4baa", func := "faultline/faultlinelaw30.ReplaceCuts", spec := "replaceCuts", apart := false }
def ReplaceCutsSaid : Prop := replaceCutsRow.holds Try.pinned (OpenSpec.ofChange replaceCutsSpec)

/-- ITS FALSE NEIGHBOUR: 'it returns false'. Refute it at one input. -/
def replaceCutsWrong : ChangeSpec := { name := "replaceCuts", fn := fun _ => fun
  | [d1, d2] => { results := [.lit (.bool false)], args := [d1, d2] }
  | _ => none }
def ReplaceCutsWrongFalsely : Prop := replaceCutsRow.holds Try.pinned (OpenSpec.ofChange replaceCutsWrong)

/-- 'faultlinelaw30.ReplacePuts': WHATEVER THE INPUT: true; the input reads as it did. -/
def replacePutsSpec : ChangeSpec := { name := "replacePuts", fn := fun _ => fun
  | [d1, d2] => { results := [.lit (.bool true)], args := [d1, d2] }
  | _ => none }
def replacePutsRow : OpenClaim := { program := "ytbpjjepiblomaaa", sum := "01a0a5e99e45c16b1135c84fa682717706ef40e19c8cc49c2ee8e5e82d1e4baa", func := "faultline/faultlinelaw30.ReplacePuts", spec := "replacePuts", apart := false }
def ReplacePutsSaid : Prop := replacePutsRow.holds Try.pinned (OpenSpec.ofChange replacePutsSpec)

/-- ITS FALSE NEIGHBOUR: 'it returns false'. Refute it at one input. -/
def replacePutsWrong : ChangeSpec := { name := "replacePuts", fn := fun _ => fun
  | [d1, d2] => { results := [.lit (.bool false)], args := [d1, d2] }
  | _ => none }
def ReplacePutsWrongFalsely : Prop := replacePutsRow.holds Try.pinned (OpenSpec.ofChange replacePutsWrong)

/-- 'faultlinelaw30.ReplaceWrong': WHATEVER THE INPUT: true; the input reads as it did. -/
def replaceWrongSpec : ChangeSpec := { name := "replaceWrong", fn := fun _ => fun
  | [d1, d2] => { results := [.lit (.bool true)], args := [d1, d2] }
  | _ => none }
def replaceWrongRow : OpenClaim := { program := "ytbpjjepiblomaaa", sum := "01a0a5e99e45c16b1135c84fa682717706ef40e19c8cc49c2ee8e5e82d1e4baa", func := "faultline/faultlinelaw30.ReplaceWrong", spec := "replaceWrong", apart := false }
def ReplaceWrongSaid : Prop := replaceWrongRow.holds Try.pinned (OpenSpec.ofChange replaceWrongSpec)

/-- ITS FALSE NEIGHBOUR: 'it returns false'. Refute it at one input. -/
def replaceWrongWrong : ChangeSpec := { name := "replaceWrong", fn := fun _ => fun
  | [d1, d2] => { results := [.lit (.bool false)], args := [d1, d2] }
  | _ => none }
def ReplaceWrongWrongFalsely : Prop := replaceWrongRow.holds Try.pinned (OpenSpec.ofChange replaceWrongWrong)

/-- 'faultlinelaw30.ReplaceSimple': WHATEVER THE INPUT: true; the input reads as it did. -/
def replaceSimpleSpec : ChangeSpec := { name := "replaceSimple", fn := fun _ => fun
  | [d] => { results := [.lit (.bool true)], args := [d] }
  | _ => none }
def replaceSimpleRow : OpenClaim := { program := "ytbpjjepiblomaaa", sum := "01a0a5e99e45c16b1135c84fa682717706ef40e19c8cc49c2ee8e5e82d1e4baa", func := "faultline/faultlinelaw30.ReplaceSimple", spec := "replaceSimple", apart := false }
def ReplaceSimpleSaid : Prop := replaceSimpleRow.holds Try.pinned (OpenSpec.ofChange replaceSimpleSpec)

/-- ITS FALSE NEIGHBOUR: 'it returns false'. Refute it at one input. -/
def replaceSimpleWrong : ChangeSpec := { name := "replaceSimple", fn := fun _ => fun
  | [d] => { results := [.lit (.bool false)], args := [d] }
  | _ => none }
def ReplaceSimpleWrongFalsely : Prop := replaceSimpleRow.holds Try.pinned (OpenSpec.ofChange replaceSimpleWrong)

/-- 'faultlinelaw30.ReplaceValues': WHATEVER THE INPUT: true; the input reads as it did. -/
def replaceValuesSpec : ChangeSpec := { name := "replaceValues", fn := fun _ => fun
  | [d1, d2, d3] => { results := [.lit (.bool true)], args := [d1, d2, d3] }
  | _ => none }
def replaceValuesRow : OpenClaim := { program := "ytbpjjepiblomaaa", sum := "01a0a5e99e45c16b1135c84fa682717706ef40e19c8cc49c2ee8e5e82d1e4baa", func := "faultline/faultlinelaw30.ReplaceValues", spec := "replaceValues", apart := false }
def ReplaceValuesSaid : Prop := replaceValuesRow.holds Try.pinned (OpenSpec.ofChange replaceValuesSpec)

/-- ITS FALSE NEIGHBOUR: 'it returns false'. Refute it at one input. -/
def replaceValuesWrong : ChangeSpec := { name := "replaceValues", fn := fun _ => fun
  | [d1, d2, d3] => { results := [.lit (.bool false)], args := [d1, d2, d3] }
  | _ => none }
def ReplaceValuesWrongFalsely : Prop := replaceValuesRow.holds Try.pinned (OpenSpec.ofChange replaceValuesWrong)

/-- 'faultlinelaw30.ReplaceLevels': WHATEVER THE INPUT: true; the input reads as it did. -/
def replaceLevelsSpec : ChangeSpec := { name := "replaceLevels", fn := fun _ => fun
  | [d1, d2] => { results := [.lit (.bool true)], args := [d1, d2] }
  | _ => none }
def replaceLevelsRow : OpenClaim := { program := "ytbpjjepiblomaaa", sum := "01a0a5e99e45c16b1135c84fa682717706ef40e19c8cc49c2ee8e5e82d1e4baa", func := "faultline/faultlinelaw30.ReplaceLevels", spec := "replaceLevels", apart := false }
def ReplaceLevelsSaid : Prop := replaceLevelsRow.holds Try.pinned (OpenSpec.ofChange replaceLevelsSpec)

/-- ITS FALSE NEIGHBOUR: 'it returns false'. Refute it at one input. -/
def replaceLevelsWrong : ChangeSpec := { name := "replaceLevels", fn := fun _ => fun
  | [d1, d2] => { results := [.lit (.bool false)], args := [d1, d2] }
  | _ => none }
def ReplaceLevelsWrongFalsely : Prop := replaceLevelsRow.holds Try.pinned (OpenSpec.ofChange replaceLevelsWrong)

/-- 'faultlinelaw30.ReplaceBack': WHATEVER THE INPUT: true; the input reads as it did. -/
def replaceBackSpec : ChangeSpec := { name := "replaceBack", fn := fun _ => fun
  | [d1, d2, d3] => { results := [.lit (.bool true)], args := [d1, d2, d3] }
  | _ => none }
def replaceBackRow : OpenClaim := { program := "ytbpjjepiblomaaa", sum := "01a0a5e99e45c16b1135c84fa682717706ef40e19c8cc49c2ee8e5e82d1e4baa", func := "faultline/faultlinelaw30.ReplaceBack", spec := "replaceBack", apart := false }
def ReplaceBackSaid : Prop := replaceBackRow.holds Try.pinned (OpenSpec.ofChange replaceBackSpec)

/-- ITS FALSE NEIGHBOUR: 'it returns false'. Refute it at one input. -/
def replaceBackWrong : ChangeSpec := { name := "replaceBack", fn := fun _ => fun
  | [d1, d2, d3] => { results := [.lit (.bool false)], args := [d1, d2, d3] }
  | _ => none }
def ReplaceBackWrongFalsely : Prop := replaceBackRow.holds Try.pinned (OpenSpec.ofChange replaceBackWrong)

/- THE SECOND FORM. 'bulk': how many values and letters a reading holds, each counted each time it is reached (what is shared counts as often as it is met; a slice's spare places count too). A statement '..UptoSaid' is the law's where the arguments, and the package variables that the reading takes, are together of bulk at most 1048576: NARROWER than '..Said'. Prove '..Said' where nothing that the law and all that it calls make is longer than what came in: it says more and counts as full. Else prove '..UptoSaid'. A law counts once. -/
mutual
def uptoBulk {H : Type} : DataW H → Nat
  | .lit (.string bytes) => bytes.length + 1
  | .lit _ => 1
  | .nil => 1
  | .ptr d => uptoBulk d + 1
  | .slice elems spare => uptoBulkAll elems + uptoBulkAll spare + 1
  | .agg parts => uptoBulkAll parts + 1
  | .iface _ d => uptoBulk d + 1
  | .map entries => uptoBulkEntries entries + 1
  | .held _ => 1
def uptoBulkAll {H : Type} : List (DataW H) → Nat
  | [] => 0
  | d :: r => uptoBulk d + uptoBulkAll r
def uptoBulkEntries {H : Type} : List (Lit × DataW H) → Nat
  | [] => 0
  | x :: r => uptoBulkEntry x + uptoBulkEntries r
def uptoBulkEntry {H : Type} : Lit × DataW H → Nat
  | (.string bytes, d) => bytes.length + uptoBulk d + 1
  | (_, d) => uptoBulk d + 1
 end
def uptoSmall : (H : Type) → List (DataW H) → Bool := fun _ ds => decide (uptoBulkAll ds ≤ 1048576)
def OpenSpec.upto (s : _root_.Go.ChangeSpec) : _root_.Go.OpenSpec := { _root_.Go.OpenSpec.ofChange s with cond := some uptoSmall }

/-- 'faultlinelaw30.ReplaceCuts', WHERE WHAT IT READS IS OF BULK AT MOST 1048576: true; the input reads as it did. -/
def replaceCutsUptoRow : OpenClaim := { program := "ytbpjjepiblomaaa", sum := "01a0a5e99e45c16b1135c84fa682717706ef40e19c8cc49c2ee8e5e82d1e4baa", func := "faultline/faultlinelaw30.ReplaceCuts", spec := "replaceCuts", apart := false, narrowed := true }
def ReplaceCutsUptoSaid : Prop := replaceCutsUptoRow.holds Try.pinned (OpenSpec.upto replaceCutsSpec)

/-- 'faultlinelaw30.ReplacePuts', WHERE WHAT IT READS IS OF BULK AT MOST 1048576: true; the input reads as it did. -/
def replacePutsUptoRow : OpenClaim := { program := "ytbpjjepiblomaaa", sum := "01a0a5e99e45c16b1135c84fa682717706ef40e19c8cc49c2ee8e5e82d1e4baa", func := "faultline/faultlinelaw30.ReplacePuts", spec := "replacePuts", apart := false, narrowed := true }
def ReplacePutsUptoSaid : Prop := replacePutsUptoRow.holds Try.pinned (OpenSpec.upto replacePutsSpec)

/-- 'faultlinelaw30.ReplaceWrong', WHERE WHAT IT READS IS OF BULK AT MOST 1048576: true; the input reads as it did. -/
def replaceWrongUptoRow : OpenClaim := { program := "ytbpjjepiblomaaa", sum := "01a0a5e99e45c16b1135c84fa682717706ef40e19c8cc49c2ee8e5e82d1e4baa", func := "faultline/faultlinelaw30.ReplaceWrong", spec := "replaceWrong", apart := false, narrowed := true }
def ReplaceWrongUptoSaid : Prop := replaceWrongUptoRow.holds Try.pinned (OpenSpec.upto replaceWrongSpec)

/-- 'faultlinelaw30.ReplaceSimple', WHERE WHAT IT READS IS OF BULK AT MOST 1048576: true; the input reads as it did. -/
def replaceSimpleUptoRow : OpenClaim := { program := "ytbpjjepiblomaaa", sum := "01a0a5e99e45c16b1135c84fa682717706ef40e19c8cc49c2ee8e5e82d1e4baa", func := "faultline/faultlinelaw30.ReplaceSimple", spec := "replaceSimple", apart := false, narrowed := true }
def ReplaceSimpleUptoSaid : Prop := replaceSimpleUptoRow.holds Try.pinned (OpenSpec.upto replaceSimpleSpec)

/-- 'faultlinelaw30.ReplaceValues', WHERE WHAT IT READS IS OF BULK AT MOST 1048576: true; the input reads as it did. -/
def replaceValuesUptoRow : OpenClaim := { program := "ytbpjjepiblomaaa", sum := "01a0a5e99e45c16b1135c84fa682717706ef40e19c8cc49c2ee8e5e82d1e4baa", func := "faultline/faultlinelaw30.ReplaceValues", spec := "replaceValues", apart := false, narrowed := true }
def ReplaceValuesUptoSaid : Prop := replaceValuesUptoRow.holds Try.pinned (OpenSpec.upto replaceValuesSpec)

/-- 'faultlinelaw30.ReplaceLevels', WHERE WHAT IT READS IS OF BULK AT MOST 1048576: true; the input reads as it did. -/
def replaceLevelsUptoRow : OpenClaim := { program := "ytbpjjepiblomaaa", sum := "01a0a5e99e45c16b1135c84fa682717706ef40e19c8cc49c2ee8e5e82d1e4baa", func := "faultline/faultlinelaw30.ReplaceLevels", spec := "replaceLevels", apart := false, narrowed := true }
def ReplaceLevelsUptoSaid : Prop := replaceLevelsUptoRow.holds Try.pinned (OpenSpec.upto replaceLevelsSpec)

/-- 'faultlinelaw30.ReplaceBack', WHERE WHAT IT READS IS OF BULK AT MOST 1048576: true; the input reads as it did. -/
def replaceBackUptoRow : OpenClaim := { program := "ytbpjjepiblomaaa", sum := "01a0a5e99e45c16b1135c84fa682717706ef40e19c8cc49c2ee8e5e82d1e4baa", func := "faultline/faultlinelaw30.ReplaceBack", spec := "replaceBack", apart := false, narrowed := true }
def ReplaceBackUptoSaid : Prop := replaceBackUptoRow.holds Try.pinned (OpenSpec.upto replaceBackSpec)

end Rows
end Go.Proofs.Ytbpjjepiblomaaa
