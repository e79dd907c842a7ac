/-
  No cell of these rows narrows 'for every input' (looked for: loops, veiled, ifaces, maps, wideKeys, modest, calm, conditions, laid).
  DERIVED. THE GIVEN ROWS OF THIS SEAT. 6 by the template 'for every input the law returns true; each argument reads behind the call as it read before'; 0 by the template 'total and deterministic' (their statements: YtlbiojciipkgbaaTotals.lean).
  GIVEN WITH THE SEED: the statements are not yours to turn. If you find one false, say at which input.
  Laid BY PROGRAM, IN A SANDBOX (cutbox-rows.mjs): the forced cells as the released guide's own fill.sh prints them over the translation 4e78b91302babe3b… (all of the seat's roots in one cut). By AI agents, Wed Nov 11 2026. No macro, syntax, notation, axiom, sorry.
-/
import Derived.Test.YtlbiojciipkgbaaChecked
import GoSem.Claim
import GoSem.ClaimJoined
import GoSem.ClaimMapViews
import Derived.JoinedTies
import Derived.KernelRfl
namespace Go.Proofs.Ytlbiojciipkgbaa
/- THE CELL 'sum', in the pinned program and in every row, IS THE sha256 OF THE DUMP (.gsa) THAT YtlbiojciipkgbaaProg.lean LOADS. Nothing in Lean hashes anything: it is a label: what it is worth is what the hold of that sum in a sandbox is worth. -/
noncomputable def Try.pinned : Pinned := { name := "ytlbiojciipkgbaa", sum := "4e78b91302babe3b8685cc33826ab4a20c211cc12a3744335f64f88647b79b9a", checked := Try.checked }
namespace Rows
def none {H : Type} : Left H := { results := [], args := [] }

/-- 'faultlinelaw28.CoherentSyntax': WHATEVER THE INPUT: true; the input reads as it did. -/
def coherentSyntaxSpec : ChangeSpec := { name := "coherentSyntax", fn := fun _ => fun
  | [d] => { results := [.lit (.bool true)], args := [d] }
  | _ => none }
def coherentSyntaxRow : OpenClaim := { program := "ytlbiojciipkgbaa", sum := "4e78b91302babe3b8685cc33826ab4a20c211cc12a3744335f64f88647b79b9a", func := "faultline/faultlinelaw28.CoherentSyntax", spec := "coherentSyntax", apart := false }
def CoherentSyntaxSaid : Prop := coherentSyntaxRow.holds Try.pinned (OpenSpec.ofChange coherentSyntaxSpec)

/-- ITS FALSE NEIGHBOUR: 'it returns false'. Refute it at one input. -/
def coherentSyntaxWrong : ChangeSpec := { name := "coherentSyntax", fn := fun _ => fun
  | [d] => { results := [.lit (.bool false)], args := [d] }
  | _ => none }
def CoherentSyntaxWrongFalsely : Prop := coherentSyntaxRow.holds Try.pinned (OpenSpec.ofChange coherentSyntaxWrong)

/-- 'faultlinelaw28.CoherentSound': WHATEVER THE INPUT: true; the input reads as it did. -/
def coherentSoundSpec : ChangeSpec := { name := "coherentSound", fn := fun _ => fun
  | [d1, d2, d3] => { results := [.lit (.bool true)], args := [d1, d2, d3] }
  | _ => none }
def coherentSoundRow : OpenClaim := { program := "ytlbiojciipkgbaa", sum := "4e78b91302babe3b8685cc33826ab4a20c211cc12a3744335f64f88647b79b9a", func := "faultline/faultlinelaw28.CoherentSound", spec := "coherentSound", apart := false }
def CoherentSoundSaid : Prop := coherentSoundRow.holds Try.pinned (OpenSpec.ofChange coherentSoundSpec)

/-- ITS FALSE NEIGHBOUR: 'it returns false'. Refute it at one input. -/
def coherentSoundWrong : ChangeSpec := { name := "coherentSound", fn := fun _ => fun
  | [d1, d2, d3] => { results := [.lit (.bool false)], args := [d1, d2, d3] }
  | _ => none }
def CoherentSoundWrongFalsely : Prop := coherentSoundRow.holds Try.pinned (OpenSpec.ofChange coherentSoundWrong)

/-- 'faultlinelaw28.CoherentWitness': WHATEVER THE INPUT: true; the input reads as it did. -/
def coherentWitnessSpec : ChangeSpec := { name := "coherentWitness", fn := fun _ => fun
  | [d] => { results := [.lit (.bool true)], args := [d] }
  | _ => none }
def coherentWitnessRow : OpenClaim := { program := "ytlbiojciipkgbaa", sum := "4e78b91302babe3b8685cc33826ab4a20c211cc12a3744335f64f88647b79b9a", func := "faultline/faultlinelaw28.CoherentWitness", spec := "coherentWitness", apart := false }
def CoherentWitnessSaid : Prop := coherentWitnessRow.holds Try.pinned (OpenSpec.ofChange coherentWitnessSpec)

/-- ITS FALSE NEIGHBOUR: 'it returns false'. Refute it at one input. -/
def coherentWitnessWrong : ChangeSpec := { name := "coherentWitness", fn := fun _ => fun
  | [d] => { results := [.lit (.bool false)], args := [d] }
  | _ => none }
def CoherentWitnessWrongFalsely : Prop := coherentWitnessRow.holds Try.pinned (OpenSpec.ofChange coherentWitnessWrong)

/-- 'faultlinelaw28.CoherentDecides': WHATEVER THE INPUT: true; the input reads as it did. -/
def coherentDecidesSpec : ChangeSpec := { name := "coherentDecides", fn := fun _ => fun
  | [d1, d2] => { results := [.lit (.bool true)], args := [d1, d2] }
  | _ => none }
def coherentDecidesRow : OpenClaim := { program := "ytlbiojciipkgbaa", sum := "4e78b91302babe3b8685cc33826ab4a20c211cc12a3744335f64f88647b79b9a", func := "faultline/faultlinelaw28.CoherentDecides", spec := "coherentDecides", apart := false }
def CoherentDecidesSaid : Prop := coherentDecidesRow.holds Try.pinned (OpenSpec.ofChange coherentDecidesSpec)

/-- ITS FALSE NEIGHBOUR: 'it returns false'. Refute it at one input. -/
def coherentDecidesWrong : ChangeSpec := { name := "coherentDecides", fn := fun _ => fun
  | [d1, d2] => { results := [.lit (.bool false)], args := [d1, d2] }
  | _ => none }
def CoherentDecidesWrongFalsely : Prop := coherentDecidesRow.holds Try.pinned (OpenSpec.ofChange coherentDecidesWrong)

/-- 'faultlinelaw28.CoherentDirections': WHATEVER THE INPUT: true; the input reads as it did. -/
def coherentDirectionsSpec : ChangeSpec := { name := "coherentDirections", fn := fun _ => fun
  | [d] => { results := [.lit (.bool true)], args := [d] }
  | _ => none }
def coherentDirectionsRow : OpenClaim := { program := "ytlbiojciipkgbaa", sum := "4e78b91302babe3b8685cc33826ab4a20c211cc12a3744335f64f88647b79b9a", func := "faultline/faultlinelaw28.CoherentDirections", spec := "coherentDirections", apart := false }
def CoherentDirectionsSaid : Prop := coherentDirectionsRow.holds Try.pinned (OpenSpec.ofChange coherentDirectionsSpec)

/-- ITS FALSE NEIGHBOUR: 'it returns false'. Refute it at one input. -/
def coherentDirectionsWrong : ChangeSpec := { name := "coherentDirections", fn := fun _ => fun
  | [d] => { results := [.lit (.bool false)], args := [d] }
  | _ => none }
def CoherentDirectionsWrongFalsely : Prop := coherentDirectionsRow.holds Try.pinned (OpenSpec.ofChange coherentDirectionsWrong)

/-- 'faultlinelaw28.CoherentNegates': WHATEVER THE INPUT: true; the input reads as it did. -/
def coherentNegatesSpec : ChangeSpec := { name := "coherentNegates", fn := fun _ => fun
  | [d1, d2] => { results := [.lit (.bool true)], args := [d1, d2] }
  | _ => none }
def coherentNegatesRow : OpenClaim := { program := "ytlbiojciipkgbaa", sum := "4e78b91302babe3b8685cc33826ab4a20c211cc12a3744335f64f88647b79b9a", func := "faultline/faultlinelaw28.CoherentNegates", spec := "coherentNegates", apart := false }
def CoherentNegatesSaid : Prop := coherentNegatesRow.holds Try.pinned (OpenSpec.ofChange coherentNegatesSpec)

/-- ITS FALSE NEIGHBOUR: 'it returns false'. Refute it at one input. -/
def coherentNegatesWrong : ChangeSpec := { name := "coherentNegates", fn := fun _ => fun
  | [d1, d2] => { results := [.lit (.bool false)], args := [d1, d2] }
  | _ => none }
def CoherentNegatesWrongFalsely : Prop := coherentNegatesRow.holds Try.pinned (OpenSpec.ofChange coherentNegatesWrong)

/- THE SECOND FORM. 'bulk': how many values and letters a reading holds, each counted each time it is reached (what is shared counts as often as it is met; a slice's spare places count too). A statement '..UptoSaid' is the law's where the arguments, and the package variables that the reading takes, are together of bulk at most 1048576: NARROWER than '..Said'. Prove '..Said' where nothing that the law and all that it calls make is longer than what came in: it says more and counts as full. Else prove '..UptoSaid'. A law counts once. -/
mutual
def uptoBulk {H : Type} : DataW H → Nat
  | .lit (.string bytes) => bytes.length + 1
  | .lit _ => 1
  | .nil => 1
  | .ptr d => uptoBulk d + 1
  | .slice elems spare => uptoBulkAll elems + uptoBulkAll spare + 1
  | .agg parts => uptoBulkAll parts + 1
  | .iface _ d => uptoBulk d + 1
  | .map entries => uptoBulkEntries entries + 1
  | .held _ => 1
def uptoBulkAll {H : Type} : List (DataW H) → Nat
  | [] => 0
  | d :: r => uptoBulk d + uptoBulkAll r
def uptoBulkEntries {H : Type} : List (Lit × DataW H) → Nat
  | [] => 0
  | x :: r => uptoBulkEntry x + uptoBulkEntries r
def uptoBulkEntry {H : Type} : Lit × DataW H → Nat
  | (.string bytes, d) => bytes.length + uptoBulk d + 1
  | (_, d) => uptoBulk d + 1
 end
def uptoSmall : (H : Type) → List (DataW H) → Bool := fun _ ds => decide (uptoBulkAll ds ≤ 1048576)
def OpenSpec.upto (s : _root_.Go.ChangeSpec) : _root_.Go.OpenSpec := { _root_.Go.OpenSpec.ofChange s with cond := some uptoSmall }

/-- 'faultlinelaw28.CoherentSyntax', WHERE WHAT IT READS IS OF BULK AT MOST 1048576: true; the input reads as it did. -/
def coherentSyntaxUptoRow : OpenClaim := { program := "ytlbiojciipkgbaa", sum := "4e78b91302babe3b8685cc33826ab4a20c211cc12a3744335f64f88647b79b9a", func := "faultline/faultlinelaw28.CoherentSyntax", spec := "coherentSyntax", apart := false, narrowed := true }
def CoherentSyntaxUptoSaid : Prop := coherentSyntaxUptoRow.holds Try.pinned (OpenSpec.upto coherentSyntaxSpec)

/-- 'faultlinelaw28.CoherentSound', WHERE WHAT IT READS IS OF BULK AT MOST 1048576: true; the input reads as it did. -/
def coherentSoundUptoRow : OpenClaim := { program := "ytlbiojciipkgbaa", sum := "4e78b91302babe3b8685cc33826ab4a20c211cc12a3744335f64f88647b79b9a", func := "faultline/faultlinelaw28.CoherentSound", spec := "coherentSound", apart := false, narrowed := true }
def CoherentSoundUptoSaid : Prop := coherentSoundUptoRow.holds Try.pinned (OpenSpec.upto coherentSoundSpec)

/-- 'faultlinelaw28.CoherentWitness', WHERE WHAT IT READS IS OF BULK AT MOST 1048576: true; the input reads as it did. -/
def coherentWitnessUptoRow : OpenClaim := { program := "ytlbiojciipkgbaa", sum := "4e78b91302babe3b8685cc33826ab4a20c211cc12a3744335f64f88647b79b9a", func := "faultline/faultlinelaw28.CoherentWitness", spec := "coherentWitness", apart := false, narrowed := true }
def CoherentWitnessUptoSaid : Prop := coherentWitnessUptoRow.holds Try.pinned (OpenSpec.upto coherentWitnessSpec)

/-- 'faultlinelaw28.CoherentDecides', WHERE WHAT IT READS IS OF BULK AT MOST 1048576: true; the input reads as it did. -/
def coherentDecidesUptoRow : OpenClaim := { program := "ytlbiojciipkgbaa", sum := "4e78b91302babe3b8685cc33826ab4a20c211cc12a3744335f64f88647b79b9a", func := "faultline/faultlinelaw28.CoherentDecides", spec := "coherentDecides", apart := false, narrowed := true }
def CoherentDecidesUptoSaid : Prop := coherentDecidesUptoRow.holds Try.pinned (OpenSpec.upto coherentDecidesSpec)

/-- 'faultlinelaw28.CoherentDirections', WHERE WHAT IT READS IS OF BULK AT MOST 1048576: true; the input reads as it did. -/
def coherentDirectionsUptoRow : OpenClaim := { program := "ytlbiojciipkgbaa", sum := "4e78b91302babe3b8685cc33826ab4a20c211cc12a3744335f64f88647b79b9a", func := "faultline/faultlinelaw28.CoherentDirections", spec := "coherentDirections", apart := false, narrowed := true }
def CoherentDirectionsUptoSaid : Prop := coherentDirectionsUptoRow.holds Try.pinned (OpenSpec.upto coherentDirectionsSpec)

/-- 'faultlinelaw28.CoherentNegates', WHERE WHAT IT READS IS OF BULK AT MOST 1048576: true; the input reads as it did. -/
def coherentNegatesUptoRow : OpenClaim := { program := "ytlbiojciipkgbaa", sum := "4e78b91302babe3b8685cc33826ab4a20c211cc12a3744335f64f88647b79b9a", func := "faultline/faultlinelaw28.CoherentNegates", spec := "coherentNegates", apart := false, narrowed := true }
def CoherentNegatesUptoSaid : Prop := coherentNegatesUptoRow.holds Try.pinned (OpenSpec.upto coherentNegatesSpec)

end Rows
end Go.Proofs.Ytlbiojciipkgbaa
