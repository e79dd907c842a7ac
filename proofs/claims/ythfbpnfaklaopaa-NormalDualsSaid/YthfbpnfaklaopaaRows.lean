/-
  No cell of these rows narrows 'for every input' (looked for: loops, veiled, ifaces, maps, wideKeys, modest, calm, conditions, laid).
  DERIVED. THE GIVEN ROWS OF THIS SEAT. 8 by the template 'for every input the law returns true; each argument reads behind the call as it read before'; 0 by the template 'total and deterministic' (their statements: YthfbpnfaklaopaaTotals.lean).
  GIVEN WITH THE SEED: the statements are not yours to turn. If you find one false, say at which input.
  Laid BY PROGRAM, IN A SANDBOX (cutbox-rows.mjs): the forced cells as the released guide's own fill.sh prints them over the translation f0483e372f403e1a… (all of the seat's roots in one cut). By AI agents, Wed Nov 11 2026. No macro, syntax, notation, axiom, sorry.
-/
import Derived.Test.YthfbpnfaklaopaaChecked
import GoSem.Claim
import GoSem.ClaimJoined
import GoSem.ClaimMapViews
import Derived.JoinedTies
import Derived.KernelRfl
namespace Go.Proofs.Ythfbpnfaklaopaa
/- THE CELL 'sum', in the pinned program and in every row, IS THE sha256 OF THE DUMP (.gsa) THAT YthfbpnfaklaopaaProg.lean LOADS. Nothing in Lean hashes anything: it is a label: what it is worth is what the hold of that sum in a sandbox is worth. -/
noncomputable def Try.pinned : Pinned := { name := "ythfbpnfaklaopaa", sum := "f0483e372f403e1a9663773a4b3895f49d4e215c6c5cbc5141c34b764ee6cd21", checked := Try.checked }
namespace Rows
def none {H : Type} : Left H := { results := [], args := [] }

/-- 'faultlinelaw11.NormalPushes': WHATEVER THE INPUT: true; the input reads as it did. -/
def normalPushesSpec : ChangeSpec := { name := "normalPushes", fn := fun _ => fun
  | [d] => { results := [.lit (.bool true)], args := [d] }
  | _ => none }
def normalPushesRow : OpenClaim := { program := "ythfbpnfaklaopaa", sum := "f0483e372f403e1a9663773a4b3895f49d4e215c6c5cbc5141c34b764ee6cd21", func := "faultline/faultlinelaw11.NormalPushes", spec := "normalPushes", apart := false }
def NormalPushesSaid : Prop := normalPushesRow.holds Try.pinned (OpenSpec.ofChange normalPushesSpec)

/-- ITS FALSE NEIGHBOUR: 'it returns false'. Refute it at one input. -/
def normalPushesWrong : ChangeSpec := { name := "normalPushes", fn := fun _ => fun
  | [d] => { results := [.lit (.bool false)], args := [d] }
  | _ => none }
def NormalPushesWrongFalsely : Prop := normalPushesRow.holds Try.pinned (OpenSpec.ofChange normalPushesWrong)

/-- 'faultlinelaw11.NormalReplaces': WHATEVER THE INPUT: true; the input reads as it did. -/
def normalReplacesSpec : ChangeSpec := { name := "normalReplaces", fn := fun _ => fun
  | [d1, d2, d3] => { results := [.lit (.bool true)], args := [d1, d2, d3] }
  | _ => none }
def normalReplacesRow : OpenClaim := { program := "ythfbpnfaklaopaa", sum := "f0483e372f403e1a9663773a4b3895f49d4e215c6c5cbc5141c34b764ee6cd21", func := "faultline/faultlinelaw11.NormalReplaces", spec := "normalReplaces", apart := false }
def NormalReplacesSaid : Prop := normalReplacesRow.holds Try.pinned (OpenSpec.ofChange normalReplacesSpec)

/-- ITS FALSE NEIGHBOUR: 'it returns false'. Refute it at one input. -/
def normalReplacesWrong : ChangeSpec := { name := "normalReplaces", fn := fun _ => fun
  | [d1, d2, d3] => { results := [.lit (.bool false)], args := [d1, d2, d3] }
  | _ => none }
def NormalReplacesWrongFalsely : Prop := normalReplacesRow.holds Try.pinned (OpenSpec.ofChange normalReplacesWrong)

/-- 'faultlinelaw11.NormalAssigns': WHATEVER THE INPUT: true; the input reads as it did. -/
def normalAssignsSpec : ChangeSpec := { name := "normalAssigns", fn := fun _ => fun
  | [d1, d2] => { results := [.lit (.bool true)], args := [d1, d2] }
  | _ => none }
def normalAssignsRow : OpenClaim := { program := "ythfbpnfaklaopaa", sum := "f0483e372f403e1a9663773a4b3895f49d4e215c6c5cbc5141c34b764ee6cd21", func := "faultline/faultlinelaw11.NormalAssigns", spec := "normalAssigns", apart := false }
def NormalAssignsSaid : Prop := normalAssignsRow.holds Try.pinned (OpenSpec.ofChange normalAssignsSpec)

/-- ITS FALSE NEIGHBOUR: 'it returns false'. Refute it at one input. -/
def normalAssignsWrong : ChangeSpec := { name := "normalAssigns", fn := fun _ => fun
  | [d1, d2] => { results := [.lit (.bool false)], args := [d1, d2] }
  | _ => none }
def NormalAssignsWrongFalsely : Prop := normalAssignsRow.holds Try.pinned (OpenSpec.ofChange normalAssignsWrong)

/-- 'faultlinelaw11.NormalReplaced': WHATEVER THE INPUT: true; the input reads as it did. -/
def normalReplacedSpec : ChangeSpec := { name := "normalReplaced", fn := fun _ => fun
  | [d1, d2, d3] => { results := [.lit (.bool true)], args := [d1, d2, d3] }
  | _ => none }
def normalReplacedRow : OpenClaim := { program := "ythfbpnfaklaopaa", sum := "f0483e372f403e1a9663773a4b3895f49d4e215c6c5cbc5141c34b764ee6cd21", func := "faultline/faultlinelaw11.NormalReplaced", spec := "normalReplaced", apart := false }
def NormalReplacedSaid : Prop := normalReplacedRow.holds Try.pinned (OpenSpec.ofChange normalReplacedSpec)

/-- ITS FALSE NEIGHBOUR: 'it returns false'. Refute it at one input. -/
def normalReplacedWrong : ChangeSpec := { name := "normalReplaced", fn := fun _ => fun
  | [d1, d2, d3] => { results := [.lit (.bool false)], args := [d1, d2, d3] }
  | _ => none }
def NormalReplacedWrongFalsely : Prop := normalReplacedRow.holds Try.pinned (OpenSpec.ofChange normalReplacedWrong)

/-- 'faultlinelaw11.NormalDual': WHATEVER THE INPUT: true; the input reads as it did. -/
def normalDualSpec : ChangeSpec := { name := "normalDual", fn := fun _ => fun
  | [d1, d2] => { results := [.lit (.bool true)], args := [d1, d2] }
  | _ => none }
def normalDualRow : OpenClaim := { program := "ythfbpnfaklaopaa", sum := "f0483e372f403e1a9663773a4b3895f49d4e215c6c5cbc5141c34b764ee6cd21", func := "faultline/faultlinelaw11.NormalDual", spec := "normalDual", apart := false }
def NormalDualSaid : Prop := normalDualRow.holds Try.pinned (OpenSpec.ofChange normalDualSpec)

/-- ITS FALSE NEIGHBOUR: 'it returns false'. Refute it at one input. -/
def normalDualWrong : ChangeSpec := { name := "normalDual", fn := fun _ => fun
  | [d1, d2] => { results := [.lit (.bool false)], args := [d1, d2] }
  | _ => none }
def NormalDualWrongFalsely : Prop := normalDualRow.holds Try.pinned (OpenSpec.ofChange normalDualWrong)

/-- 'faultlinelaw11.NormalDuals': WHATEVER THE INPUT: true; the input reads as it did. -/
def normalDualsSpec : ChangeSpec := { name := "normalDuals", fn := fun _ => fun
  | [d] => { results := [.lit (.bool true)], args := [d] }
  | _ => none }
def normalDualsRow : OpenClaim := { program := "ythfbpnfaklaopaa", sum := "f0483e372f403e1a9663773a4b3895f49d4e215c6c5cbc5141c34b764ee6cd21", func := "faultline/faultlinelaw11.NormalDuals", spec := "normalDuals", apart := false }
def NormalDualsSaid : Prop := normalDualsRow.holds Try.pinned (OpenSpec.ofChange normalDualsSpec)

/-- ITS FALSE NEIGHBOUR: 'it returns false'. Refute it at one input. -/
def normalDualsWrong : ChangeSpec := { name := "normalDuals", fn := fun _ => fun
  | [d] => { results := [.lit (.bool false)], args := [d] }
  | _ => none }
def NormalDualsWrongFalsely : Prop := normalDualsRow.holds Try.pinned (OpenSpec.ofChange normalDualsWrong)

/-- 'faultlinelaw11.NormalPushed': WHATEVER THE INPUT: true; the input reads as it did. -/
def normalPushedSpec : ChangeSpec := { name := "normalPushed", fn := fun _ => fun
  | [d1, d2] => { results := [.lit (.bool true)], args := [d1, d2] }
  | _ => none }
def normalPushedRow : OpenClaim := { program := "ythfbpnfaklaopaa", sum := "f0483e372f403e1a9663773a4b3895f49d4e215c6c5cbc5141c34b764ee6cd21", func := "faultline/faultlinelaw11.NormalPushed", spec := "normalPushed", apart := false }
def NormalPushedSaid : Prop := normalPushedRow.holds Try.pinned (OpenSpec.ofChange normalPushedSpec)

/-- ITS FALSE NEIGHBOUR: 'it returns false'. Refute it at one input. -/
def normalPushedWrong : ChangeSpec := { name := "normalPushed", fn := fun _ => fun
  | [d1, d2] => { results := [.lit (.bool false)], args := [d1, d2] }
  | _ => none }
def NormalPushedWrongFalsely : Prop := normalPushedRow.holds Try.pinned (OpenSpec.ofChange normalPushedWrong)

/-- 'faultlinelaw11.NormalAssigned': WHATEVER THE INPUT: true; the input reads as it did. -/
def normalAssignedSpec : ChangeSpec := { name := "normalAssigned", fn := fun _ => fun
  | [d1, d2, d3] => { results := [.lit (.bool true)], args := [d1, d2, d3] }
  | _ => none }
def normalAssignedRow : OpenClaim := { program := "ythfbpnfaklaopaa", sum := "f0483e372f403e1a9663773a4b3895f49d4e215c6c5cbc5141c34b764ee6cd21", func := "faultline/faultlinelaw11.NormalAssigned", spec := "normalAssigned", apart := false }
def NormalAssignedSaid : Prop := normalAssignedRow.holds Try.pinned (OpenSpec.ofChange normalAssignedSpec)

/-- ITS FALSE NEIGHBOUR: 'it returns false'. Refute it at one input. -/
def normalAssignedWrong : ChangeSpec := { name := "normalAssigned", fn := fun _ => fun
  | [d1, d2, d3] => { results := [.lit (.bool false)], args := [d1, d2, d3] }
  | _ => none }
def NormalAssignedWrongFalsely : Prop := normalAssignedRow.holds Try.pinned (OpenSpec.ofChange normalAssignedWrong)

/- THE SECOND FORM. 'bulk': how many values and letters a reading holds, each counted each time it is reached (what is shared counts as often as it is met; a slice's spare places count too). A statement '..UptoSaid' is the law's where the arguments, and the package variables that the reading takes, are together of bulk at most 1048576: NARROWER than '..Said'. Prove '..Said' where nothing that the law and all that it calls make is longer than what came in: it says more and counts as full. Else prove '..UptoSaid'. A law counts once. -/
mutual
def uptoBulk {H : Type} : DataW H → Nat
  | .lit (.string bytes) => bytes.length + 1
  | .lit _ => 1
  | .nil => 1
  | .ptr d => uptoBulk d + 1
  | .slice elems spare => uptoBulkAll elems + uptoBulkAll spare + 1
  | .agg parts => uptoBulkAll parts + 1
  | .iface _ d => uptoBulk d + 1
  | .map entries => uptoBulkEntries entries + 1
  | .held _ => 1
def uptoBulkAll {H : Type} : List (DataW H) → Nat
  | [] => 0
  | d :: r => uptoBulk d + uptoBulkAll r
def uptoBulkEntries {H : Type} : List (Lit × DataW H) → Nat
  | [] => 0
  | x :: r => uptoBulkEntry x + uptoBulkEntries r
def uptoBulkEntry {H : Type} : Lit × DataW H → Nat
  | (.string bytes, d) => bytes.length + uptoBulk d + 1
  | (_, d) => uptoBulk d + 1
 end
def uptoSmall : (H : Type) → List (DataW H) → Bool := fun _ ds => decide (uptoBulkAll ds ≤ 1048576)
def OpenSpec.upto (s : _root_.Go.ChangeSpec) : _root_.Go.OpenSpec := { _root_.Go.OpenSpec.ofChange s with cond := some uptoSmall }

/-- 'faultlinelaw11.NormalPushes', WHERE WHAT IT READS IS OF BULK AT MOST 1048576: true; the input reads as it did. -/
def normalPushesUptoRow : OpenClaim := { program := "ythfbpnfaklaopaa", sum := "f0483e372f403e1a9663773a4b3895f49d4e215c6c5cbc5141c34b764ee6cd21", func := "faultline/faultlinelaw11.NormalPushes", spec := "normalPushes", apart := false, narrowed := true }
def NormalPushesUptoSaid : Prop := normalPushesUptoRow.holds Try.pinned (OpenSpec.upto normalPushesSpec)

/-- 'faultlinelaw11.NormalReplaces', WHERE WHAT IT READS IS OF BULK AT MOST 1048576: true; the input reads as it did. -/
def normalReplacesUptoRow : OpenClaim := { program := "ythfbpnfaklaopaa", sum := "f0483e372f403e1a9663773a4b3895f49d4e215c6c5cbc5141c34b764ee6cd21", func := "faultline/faultlinelaw11.NormalReplaces", spec := "normalReplaces", apart := false, narrowed := true }
def NormalReplacesUptoSaid : Prop := normalReplacesUptoRow.holds Try.pinned (OpenSpec.upto normalReplacesSpec)

/-- 'faultlinelaw11.NormalAssigns', WHERE WHAT IT READS IS OF BULK AT MOST 1048576: true; the input reads as it did. -/
def normalAssignsUptoRow : OpenClaim := { program := "ythfbpnfaklaopaa", sum := "f0483e372f403e1a9663773a4b3895f49d4e215c6c5cbc5141c34b764ee6cd21", func := "faultline/faultlinelaw11.NormalAssigns", spec := "normalAssigns", apart := false, narrowed := true }
def NormalAssignsUptoSaid : Prop := normalAssignsUptoRow.holds Try.pinned (OpenSpec.upto normalAssignsSpec)

/-- 'faultlinelaw11.NormalReplaced', WHERE WHAT IT READS IS OF BULK AT MOST 1048576: true; the input reads as it did. -/
def normalReplacedUptoRow : OpenClaim := { program := "ythfbpnfaklaopaa", sum := "f0483e372f403e1a9663773a4b3895f49d4e215c6c5cbc5141c34b764ee6cd21", func := "faultline/faultlinelaw11.NormalReplaced", spec := "normalReplaced", apart := false, narrowed := true }
def NormalReplacedUptoSaid : Prop := normalReplacedUptoRow.holds Try.pinned (OpenSpec.upto normalReplacedSpec)

/-- 'faultlinelaw11.NormalDual', WHERE WHAT IT READS IS OF BULK AT MOST 1048576: true; the input reads as it did. -/
def normalDualUptoRow : OpenClaim := { program := "ythfbpnfaklaopaa", sum := "f0483e372f403e1a9663773a4b3895f49d4e215c6c5cbc5141c34b764ee6cd21", func := "faultline/faultlinelaw11.NormalDual", spec := "normalDual", apart := false, narrowed := true }
def NormalDualUptoSaid : Prop := normalDualUptoRow.holds Try.pinned (OpenSpec.upto normalDualSpec)

/-- 'faultlinelaw11.NormalDuals', WHERE WHAT IT READS IS OF BULK AT MOST 1048576: true; the input reads as it did. -/
def normalDualsUptoRow : OpenClaim := { program := "ythfbpnfaklaopaa", sum := "f0483e372f403e1a9663773a4b3895f49d4e215c6c5cbc5141c34b764ee6cd21", func := "faultline/faultlinelaw11.NormalDuals", spec := "normalDuals", apart := false, narrowed := true }
def NormalDualsUptoSaid : Prop := normalDualsUptoRow.holds Try.pinned (OpenSpec.upto normalDualsSpec)

/-- 'faultlinelaw11.NormalPushed', WHERE WHAT IT READS IS OF BULK AT MOST 1048576: true; the input reads as it did. -/
def normalPushedUptoRow : OpenClaim := { program := "ythfbpnfaklaopaa", sum := "f0483e372f403e1a9663773a4b3895f49d4e215c6c5cbc5141c34b764ee6cd21", func := "faultline/faultlinelaw11.NormalPushed", spec := "normalPushed", apart := false, narrowed := true }
def NormalPushedUptoSaid : Prop := normalPushedUptoRow.holds Try.pinned (OpenSpec.upto normalPushedSpec)

/-- 'faultlinelaw11.NormalAssigned', WHERE WHAT IT READS IS OF BULK AT MOST 1048576: true; the input reads as it did. -/
def normalAssignedUptoRow : OpenClaim := { program := "ythfbpnfaklaopaa", sum := "f0483e372f403e1a9663773a4b3895f49d4e215c6c5cbc5141c34b764ee6cd21", func := "faultline/faultlinelaw11.NormalAssigned", spec := "normalAssigned", apart := false, narrowed := true }
def NormalAssignedUptoSaid : Prop := normalAssignedUptoRow.holds Try.pinned (OpenSpec.upto normalAssignedSpec)

end Rows
end Go.Proofs.Ythfbpnfaklaopaa
