/-
  No cell of these rows narrows 'for every input' (looked for: loops, veiled, ifaces, maps, wideKeys, modest, calm, conditions, laid).
  DERIVED. THE GIVEN ROWS OF THIS SEAT. 6 by the template 'for every input the law returns true; each argument reads behind the call as it read before'; 0 by the template 'total and deterministic' (their statements: YtlgjmebebhpolaaTotals.lean).
  GIVEN WITH THE SEED: the statements are not yours to turn. If you find one false, say at which input.
  Laid BY PROGRAM, IN A SANDBOX (cutbox-rows.mjs): the forced cells as the released guide's own fill.sh prints them over the translation 58a162ae46f6efbf… (all of the seat's roots in one cut). By AI agents, Wed Nov 11 2026. No macro, syntax, notation, axiom, sorry.
-/
import Derived.Test.YtlgjmebebhpolaaChecked
import GoSem.Claim
import GoSem.ClaimJoined
import GoSem.ClaimMapViews
import Derived.JoinedTies
import Derived.KernelRfl
namespace Go.Proofs.Ytlgjmebebhpolaa
/- THE CELL 'sum', in the pinned program and in every row, IS THE sha256 OF THE DUMP (.gsa) THAT YtlgjmebebhpolaaProg.lean LOADS. Nothing in Lean hashes anything: it is a label: what it is worth is what the hold of that sum in a sandbox is worth. -/
noncomputable def Try.pinned : Pinned := { name := "ytlgjmebebhpolaa", sum := "58a162ae46f6efbfc4f5a4d9093fd782cbc81871468b71e9697270f66cf72c6f", checked := Try.checked }
namespace Rows
def none {H : Type} : Left H := { results := [], args := [] }

/-- 'faultlinelaw10.TruthValues': WHATEVER THE INPUT: true; the input reads as it did. -/
def truthValuesSpec : ChangeSpec := { name := "truthValues", fn := fun _ => fun
  | [d1, d2] => { results := [.lit (.bool true)], args := [d1, d2] }
  | _ => none }
def truthValuesRow : OpenClaim := { program := "ytlgjmebebhpolaa", sum := "58a162ae46f6efbfc4f5a4d9093fd782cbc81871468b71e9697270f66cf72c6f", func := "faultline/faultlinelaw10.TruthValues", spec := "truthValues", apart := false }
def TruthValuesSaid : Prop := truthValuesRow.holds Try.pinned (OpenSpec.ofChange truthValuesSpec)

/-- ITS FALSE NEIGHBOUR: 'it returns false'. Refute it at one input. -/
def truthValuesWrong : ChangeSpec := { name := "truthValues", fn := fun _ => fun
  | [d1, d2] => { results := [.lit (.bool false)], args := [d1, d2] }
  | _ => none }
def TruthValuesWrongFalsely : Prop := truthValuesRow.holds Try.pinned (OpenSpec.ofChange truthValuesWrong)

/-- 'faultlinelaw10.TruthSums': WHATEVER THE INPUT: true; the input reads as it did. -/
def truthSumsSpec : ChangeSpec := { name := "truthSums", fn := fun _ => fun
  | [d] => { results := [.lit (.bool true)], args := [d] }
  | _ => none }
def truthSumsRow : OpenClaim := { program := "ytlgjmebebhpolaa", sum := "58a162ae46f6efbfc4f5a4d9093fd782cbc81871468b71e9697270f66cf72c6f", func := "faultline/faultlinelaw10.TruthSums", spec := "truthSums", apart := false }
def TruthSumsSaid : Prop := truthSumsRow.holds Try.pinned (OpenSpec.ofChange truthSumsSpec)

/-- ITS FALSE NEIGHBOUR: 'it returns false'. Refute it at one input. -/
def truthSumsWrong : ChangeSpec := { name := "truthSums", fn := fun _ => fun
  | [d] => { results := [.lit (.bool false)], args := [d] }
  | _ => none }
def TruthSumsWrongFalsely : Prop := truthSumsRow.holds Try.pinned (OpenSpec.ofChange truthSumsWrong)

/-- 'faultlinelaw10.TruthEqual': WHATEVER THE INPUT: true; the input reads as it did. -/
def truthEqualSpec : ChangeSpec := { name := "truthEqual", fn := fun _ => fun
  | [d1, d2] => { results := [.lit (.bool true)], args := [d1, d2] }
  | _ => none }
def truthEqualRow : OpenClaim := { program := "ytlgjmebebhpolaa", sum := "58a162ae46f6efbfc4f5a4d9093fd782cbc81871468b71e9697270f66cf72c6f", func := "faultline/faultlinelaw10.TruthEqual", spec := "truthEqual", apart := false }
def TruthEqualSaid : Prop := truthEqualRow.holds Try.pinned (OpenSpec.ofChange truthEqualSpec)

/-- ITS FALSE NEIGHBOUR: 'it returns false'. Refute it at one input. -/
def truthEqualWrong : ChangeSpec := { name := "truthEqual", fn := fun _ => fun
  | [d1, d2] => { results := [.lit (.bool false)], args := [d1, d2] }
  | _ => none }
def TruthEqualWrongFalsely : Prop := truthEqualRow.holds Try.pinned (OpenSpec.ofChange truthEqualWrong)

/-- 'faultlinelaw10.TruthDiffers': WHATEVER THE INPUT: true; the input reads as it did. -/
def truthDiffersSpec : ChangeSpec := { name := "truthDiffers", fn := fun _ => fun
  | [d1, d2, d3] => { results := [.lit (.bool true)], args := [d1, d2, d3] }
  | _ => none }
def truthDiffersRow : OpenClaim := { program := "ytlgjmebebhpolaa", sum := "58a162ae46f6efbfc4f5a4d9093fd782cbc81871468b71e9697270f66cf72c6f", func := "faultline/faultlinelaw10.TruthDiffers", spec := "truthDiffers", apart := false }
def TruthDiffersSaid : Prop := truthDiffersRow.holds Try.pinned (OpenSpec.ofChange truthDiffersSpec)

/-- ITS FALSE NEIGHBOUR: 'it returns false'. Refute it at one input. -/
def truthDiffersWrong : ChangeSpec := { name := "truthDiffers", fn := fun _ => fun
  | [d1, d2, d3] => { results := [.lit (.bool false)], args := [d1, d2, d3] }
  | _ => none }
def TruthDiffersWrongFalsely : Prop := truthDiffersRow.holds Try.pinned (OpenSpec.ofChange truthDiffersWrong)

/-- 'faultlinelaw10.TruthTables': WHATEVER THE INPUT: true; the input reads as it did. -/
def truthTablesSpec : ChangeSpec := { name := "truthTables", fn := fun _ => fun
  | [d] => { results := [.lit (.bool true)], args := [d] }
  | _ => none }
def truthTablesRow : OpenClaim := { program := "ytlgjmebebhpolaa", sum := "58a162ae46f6efbfc4f5a4d9093fd782cbc81871468b71e9697270f66cf72c6f", func := "faultline/faultlinelaw10.TruthTables", spec := "truthTables", apart := false }
def TruthTablesSaid : Prop := truthTablesRow.holds Try.pinned (OpenSpec.ofChange truthTablesSpec)

/-- ITS FALSE NEIGHBOUR: 'it returns false'. Refute it at one input. -/
def truthTablesWrong : ChangeSpec := { name := "truthTables", fn := fun _ => fun
  | [d] => { results := [.lit (.bool false)], args := [d] }
  | _ => none }
def TruthTablesWrongFalsely : Prop := truthTablesRow.holds Try.pinned (OpenSpec.ofChange truthTablesWrong)

/-- 'faultlinelaw10.TruthRelevant': WHATEVER THE INPUT: true; the input reads as it did. -/
def truthRelevantSpec : ChangeSpec := { name := "truthRelevant", fn := fun _ => fun
  | [d1, d2, d3] => { results := [.lit (.bool true)], args := [d1, d2, d3] }
  | _ => none }
def truthRelevantRow : OpenClaim := { program := "ytlgjmebebhpolaa", sum := "58a162ae46f6efbfc4f5a4d9093fd782cbc81871468b71e9697270f66cf72c6f", func := "faultline/faultlinelaw10.TruthRelevant", spec := "truthRelevant", apart := false }
def TruthRelevantSaid : Prop := truthRelevantRow.holds Try.pinned (OpenSpec.ofChange truthRelevantSpec)

/-- ITS FALSE NEIGHBOUR: 'it returns false'. Refute it at one input. -/
def truthRelevantWrong : ChangeSpec := { name := "truthRelevant", fn := fun _ => fun
  | [d1, d2, d3] => { results := [.lit (.bool false)], args := [d1, d2, d3] }
  | _ => none }
def TruthRelevantWrongFalsely : Prop := truthRelevantRow.holds Try.pinned (OpenSpec.ofChange truthRelevantWrong)

/- THE SECOND FORM. 'bulk': how many values and letters a reading holds, each counted each time it is reached (what is shared counts as often as it is met; a slice's spare places count too). A statement '..UptoSaid' is the law's where the arguments, and the package variables that the reading takes, are together of bulk at most 1048576: NARROWER than '..Said'. Prove '..Said' where nothing that the law and all that it calls make is longer than what came in: it says more and counts as full. Else prove '..UptoSaid'. A law counts once. -/
mutual
def uptoBulk {H : Type} : DataW H → Nat
  | .lit (.string bytes) => bytes.length + 1
  | .lit _ => 1
  | .nil => 1
  | .ptr d => uptoBulk d + 1
  | .slice elems spare => uptoBulkAll elems + uptoBulkAll spare + 1
  | .agg parts => uptoBulkAll parts + 1
  | .iface _ d => uptoBulk d + 1
  | .map entries => uptoBulkEntries entries + 1
  | .held _ => 1
def uptoBulkAll {H : Type} : List (DataW H) → Nat
  | [] => 0
  | d :: r => uptoBulk d + uptoBulkAll r
def uptoBulkEntries {H : Type} : List (Lit × DataW H) → Nat
  | [] => 0
  | x :: r => uptoBulkEntry x + uptoBulkEntries r
def uptoBulkEntry {H : Type} : Lit × DataW H → Nat
  | (.string bytes, d) => bytes.length + uptoBulk d + 1
  | (_, d) => uptoBulk d + 1
 end
def uptoSmall : (H : Type) → List (DataW H) → Bool := fun _ ds => decide (uptoBulkAll ds ≤ 1048576)
def OpenSpec.upto (s : _root_.Go.ChangeSpec) : _root_.Go.OpenSpec := { _root_.Go.OpenSpec.ofChange s with cond := some uptoSmall }

/-- 'faultlinelaw10.TruthValues', WHERE WHAT IT READS IS OF BULK AT MOST 1048576: true; the input reads as it did. -/
def truthValuesUptoRow : OpenClaim := { program := "ytlgjmebebhpolaa", sum := "58a162ae46f6efbfc4f5a4d9093fd782cbc81871468b71e9697270f66cf72c6f", func := "faultline/faultlinelaw10.TruthValues", spec := "truthValues", apart := false, narrowed := true }
def TruthValuesUptoSaid : Prop := truthValuesUptoRow.holds Try.pinned (OpenSpec.upto truthValuesSpec)

/-- 'faultlinelaw10.TruthSums', WHERE WHAT IT READS IS OF BULK AT MOST 1048576: true; the input reads as it did. -/
def truthSumsUptoRow : OpenClaim := { program := "ytlgjmebebhpolaa", sum := "58a162ae46f6efbfc4f5a4d9093fd782cbc81871468b71e9697270f66cf72c6f", func := "faultline/faultlinelaw10.TruthSums", spec := "truthSums", apart := false, narrowed := true }
def TruthSumsUptoSaid : Prop := truthSumsUptoRow.holds Try.pinned (OpenSpec.upto truthSumsSpec)

/-- 'faultlinelaw10.TruthEqual', WHERE WHAT IT READS IS OF BULK AT MOST 1048576: true; the input reads as it did. -/
def truthEqualUptoRow : OpenClaim := { program := "ytlgjmebebhpolaa", sum := "58a162ae46f6efbfc4f5a4d9093fd782cbc81871468b71e9697270f66cf72c6f", func := "faultline/faultlinelaw10.TruthEqual", spec := "truthEqual", apart := false, narrowed := true }
def TruthEqualUptoSaid : Prop := truthEqualUptoRow.holds Try.pinned (OpenSpec.upto truthEqualSpec)

/-- 'faultlinelaw10.TruthDiffers', WHERE WHAT IT READS IS OF BULK AT MOST 1048576: true; the input reads as it did. -/
def truthDiffersUptoRow : OpenClaim := { program := "ytlgjmebebhpolaa", sum := "58a162ae46f6efbfc4f5a4d9093fd782cbc81871468b71e9697270f66cf72c6f", func := "faultline/faultlinelaw10.TruthDiffers", spec := "truthDiffers", apart := false, narrowed := true }
def TruthDiffersUptoSaid : Prop := truthDiffersUptoRow.holds Try.pinned (OpenSpec.upto truthDiffersSpec)

/-- 'faultlinelaw10.TruthTables', WHERE WHAT IT READS IS OF BULK AT MOST 1048576: true; the input reads as it did. -/
def truthTablesUptoRow : OpenClaim := { program := "ytlgjmebebhpolaa", sum := "58a162ae46f6efbfc4f5a4d9093fd782cbc81871468b71e9697270f66cf72c6f", func := "faultline/faultlinelaw10.TruthTables", spec := "truthTables", apart := false, narrowed := true }
def TruthTablesUptoSaid : Prop := truthTablesUptoRow.holds Try.pinned (OpenSpec.upto truthTablesSpec)

/-- 'faultlinelaw10.TruthRelevant', WHERE WHAT IT READS IS OF BULK AT MOST 1048576: true; the input reads as it did. -/
def truthRelevantUptoRow : OpenClaim := { program := "ytlgjmebebhpolaa", sum := "58a162ae46f6efbfc4f5a4d9093fd782cbc81871468b71e9697270f66cf72c6f", func := "faultline/faultlinelaw10.TruthRelevant", spec := "truthRelevant", apart := false, narrowed := true }
def TruthRelevantUptoSaid : Prop := truthRelevantUptoRow.holds Try.pinned (OpenSpec.upto truthRelevantSpec)

end Rows
end Go.Proofs.Ytlgjmebebhpolaa
