/-
  No cell of these rows narrows 'for every input' (looked for: loops, veiled, ifaces, maps, wideKeys, modest, calm, conditions, laid).
  DERIVED. THE GIVEN ROWS OF THIS SEAT. 6 by the template 'for every input the law returns true; each argument reads behind the call as it read before'; 0 by the template 'total and deterministic' (their statements: YtclpcnbdmmlogaaTotals.lean).
  GIVEN WITH THE SEED: the statements are not yours to turn. If you find one false, say at which input.
  Laid BY PROGRAM, IN A SANDBOX (cutbox-rows.mjs): the forced cells as the released guide's own fill.sh prints them over the translation 4640f9ae47091dbc… (all of the seat's roots in one cut). By AI agents, Wed Nov 11 2026. No macro, syntax, notation, axiom, sorry.
-/
import Derived.Test.YtclpcnbdmmlogaaChecked
import GoSem.Claim
import GoSem.ClaimJoined
import GoSem.ClaimMapViews
import Derived.JoinedTies
import Derived.KernelRfl
namespace Go.Proofs.Ytclpcnbdmmlogaa
/- THE CELL 'sum', in the pinned program and in every row, IS THE sha256 OF THE DUMP (.gsa) THAT YtclpcnbdmmlogaaProg.lean LOADS. Nothing in Lean hashes anything: it is a label: what it is worth is what the hold of that sum in a sandbox is worth. -/
noncomputable def Try.pinned : Pinned := { name := "ytclpcnbdmmlogaa", sum := "4640f9ae47091dbc4be7ea9fe6196fa8451ccf86da8916c8c4423c904d62c10b", checked := Try.checked }
namespace Rows
def none {H : Type} : Left H := { results := [], args := [] }

/-- 'faultlinelaw09.TernaryDual': WHATEVER THE INPUT: true; the input reads as it did. -/
def ternaryDualSpec : ChangeSpec := { name := "ternaryDual", fn := fun _ => fun
  | [d1, d2, d3] => { results := [.lit (.bool true)], args := [d1, d2, d3] }
  | _ => none }
def ternaryDualRow : OpenClaim := { program := "ytclpcnbdmmlogaa", sum := "4640f9ae47091dbc4be7ea9fe6196fa8451ccf86da8916c8c4423c904d62c10b", func := "faultline/faultlinelaw09.TernaryDual", spec := "ternaryDual", unfollowed := true, recurses := true, apart := false }
def TernaryDualSaid : Prop := ternaryDualRow.holds Try.pinned (OpenSpec.ofChange ternaryDualSpec)

/-- ITS FALSE NEIGHBOUR: 'it returns false'. Refute it at one input. -/
def ternaryDualWrong : ChangeSpec := { name := "ternaryDual", fn := fun _ => fun
  | [d1, d2, d3] => { results := [.lit (.bool false)], args := [d1, d2, d3] }
  | _ => none }
def TernaryDualWrongFalsely : Prop := ternaryDualRow.holds Try.pinned (OpenSpec.ofChange ternaryDualWrong)

/-- 'faultlinelaw09.TernaryVotes': WHATEVER THE INPUT: true; the input reads as it did. -/
def ternaryVotesSpec : ChangeSpec := { name := "ternaryVotes", fn := fun _ => fun
  | [d1, d2, d3] => { results := [.lit (.bool true)], args := [d1, d2, d3] }
  | _ => none }
def ternaryVotesRow : OpenClaim := { program := "ytclpcnbdmmlogaa", sum := "4640f9ae47091dbc4be7ea9fe6196fa8451ccf86da8916c8c4423c904d62c10b", func := "faultline/faultlinelaw09.TernaryVotes", spec := "ternaryVotes", unfollowed := true, recurses := true, apart := false }
def TernaryVotesSaid : Prop := ternaryVotesRow.holds Try.pinned (OpenSpec.ofChange ternaryVotesSpec)

/-- ITS FALSE NEIGHBOUR: 'it returns false'. Refute it at one input. -/
def ternaryVotesWrong : ChangeSpec := { name := "ternaryVotes", fn := fun _ => fun
  | [d1, d2, d3] => { results := [.lit (.bool false)], args := [d1, d2, d3] }
  | _ => none }
def TernaryVotesWrongFalsely : Prop := ternaryVotesRow.holds Try.pinned (OpenSpec.ofChange ternaryVotesWrong)

/-- 'faultlinelaw09.TernaryLearns': WHATEVER THE INPUT: true; the input reads as it did. -/
def ternaryLearnsSpec : ChangeSpec := { name := "ternaryLearns", fn := fun _ => fun
  | [d1, d2, d3] => { results := [.lit (.bool true)], args := [d1, d2, d3] }
  | _ => none }
def ternaryLearnsRow : OpenClaim := { program := "ytclpcnbdmmlogaa", sum := "4640f9ae47091dbc4be7ea9fe6196fa8451ccf86da8916c8c4423c904d62c10b", func := "faultline/faultlinelaw09.TernaryLearns", spec := "ternaryLearns", unfollowed := true, recurses := true, apart := false }
def TernaryLearnsSaid : Prop := ternaryLearnsRow.holds Try.pinned (OpenSpec.ofChange ternaryLearnsSpec)

/-- ITS FALSE NEIGHBOUR: 'it returns false'. Refute it at one input. -/
def ternaryLearnsWrong : ChangeSpec := { name := "ternaryLearns", fn := fun _ => fun
  | [d1, d2, d3] => { results := [.lit (.bool false)], args := [d1, d2, d3] }
  | _ => none }
def TernaryLearnsWrongFalsely : Prop := ternaryLearnsRow.holds Try.pinned (OpenSpec.ofChange ternaryLearnsWrong)

/-- 'faultlinelaw09.TernaryValues': WHATEVER THE INPUT: true; the input reads as it did. -/
def ternaryValuesSpec : ChangeSpec := { name := "ternaryValues", fn := fun _ => fun
  | [d1, d2] => { results := [.lit (.bool true)], args := [d1, d2] }
  | _ => none }
def ternaryValuesRow : OpenClaim := { program := "ytclpcnbdmmlogaa", sum := "4640f9ae47091dbc4be7ea9fe6196fa8451ccf86da8916c8c4423c904d62c10b", func := "faultline/faultlinelaw09.TernaryValues", spec := "ternaryValues", unfollowed := true, recurses := true, apart := false }
def TernaryValuesSaid : Prop := ternaryValuesRow.holds Try.pinned (OpenSpec.ofChange ternaryValuesSpec)

/-- ITS FALSE NEIGHBOUR: 'it returns false'. Refute it at one input. -/
def ternaryValuesWrong : ChangeSpec := { name := "ternaryValues", fn := fun _ => fun
  | [d1, d2] => { results := [.lit (.bool false)], args := [d1, d2] }
  | _ => none }
def TernaryValuesWrongFalsely : Prop := ternaryValuesRow.holds Try.pinned (OpenSpec.ofChange ternaryValuesWrong)

/-- 'faultlinelaw09.TernarySound': WHATEVER THE INPUT: true; the input reads as it did. -/
def ternarySoundSpec : ChangeSpec := { name := "ternarySound", fn := fun _ => fun
  | [d1, d2, d3] => { results := [.lit (.bool true)], args := [d1, d2, d3] }
  | _ => none }
def ternarySoundRow : OpenClaim := { program := "ytclpcnbdmmlogaa", sum := "4640f9ae47091dbc4be7ea9fe6196fa8451ccf86da8916c8c4423c904d62c10b", func := "faultline/faultlinelaw09.TernarySound", spec := "ternarySound", unfollowed := true, recurses := true, apart := false }
def TernarySoundSaid : Prop := ternarySoundRow.holds Try.pinned (OpenSpec.ofChange ternarySoundSpec)

/-- ITS FALSE NEIGHBOUR: 'it returns false'. Refute it at one input. -/
def ternarySoundWrong : ChangeSpec := { name := "ternarySound", fn := fun _ => fun
  | [d1, d2, d3] => { results := [.lit (.bool false)], args := [d1, d2, d3] }
  | _ => none }
def TernarySoundWrongFalsely : Prop := ternarySoundRow.holds Try.pinned (OpenSpec.ofChange ternarySoundWrong)

/-- 'faultlinelaw09.TernarySplits': WHATEVER THE INPUT: true; the input reads as it did. -/
def ternarySplitsSpec : ChangeSpec := { name := "ternarySplits", fn := fun _ => fun
  | [d1, d2, d3] => { results := [.lit (.bool true)], args := [d1, d2, d3] }
  | _ => none }
def ternarySplitsRow : OpenClaim := { program := "ytclpcnbdmmlogaa", sum := "4640f9ae47091dbc4be7ea9fe6196fa8451ccf86da8916c8c4423c904d62c10b", func := "faultline/faultlinelaw09.TernarySplits", spec := "ternarySplits", unfollowed := true, recurses := true, apart := false }
def TernarySplitsSaid : Prop := ternarySplitsRow.holds Try.pinned (OpenSpec.ofChange ternarySplitsSpec)

/-- ITS FALSE NEIGHBOUR: 'it returns false'. Refute it at one input. -/
def ternarySplitsWrong : ChangeSpec := { name := "ternarySplits", fn := fun _ => fun
  | [d1, d2, d3] => { results := [.lit (.bool false)], args := [d1, d2, d3] }
  | _ => none }
def TernarySplitsWrongFalsely : Prop := ternarySplitsRow.holds Try.pinned (OpenSpec.ofChange ternarySplitsWrong)

/- THE SECOND FORM. 'bulk': how many values and letters a reading holds, each counted each time it is reached (what is shared counts as often as it is met; a slice's spare places count too). A statement '..UptoSaid' is the law's where the arguments, and the package variables that the reading takes, are together of bulk at most 1048576: NARROWER than '..Said'. Prove '..Said' where nothing that the law and all that it calls make is longer than what came in: it says more and counts as full. Else prove '..UptoSaid'. A law counts once. -/
mutual
def uptoBulk {H : Type} : DataW H → Nat
  | .lit (.string bytes) => bytes.length + 1
  | .lit _ => 1
  | .nil => 1
  | .ptr d => uptoBulk d + 1
  | .slice elems spare => uptoBulkAll elems + uptoBulkAll spare + 1
  | .agg parts => uptoBulkAll parts + 1
  | .iface _ d => uptoBulk d + 1
  | .map entries => uptoBulkEntries entries + 1
  | .held _ => 1
def uptoBulkAll {H : Type} : List (DataW H) → Nat
  | [] => 0
  | d :: r => uptoBulk d + uptoBulkAll r
def uptoBulkEntries {H : Type} : List (Lit × DataW H) → Nat
  | [] => 0
  | x :: r => uptoBulkEntry x + uptoBulkEntries r
def uptoBulkEntry {H : Type} : Lit × DataW H → Nat
  | (.string bytes, d) => bytes.length + uptoBulk d + 1
  | (_, d) => uptoBulk d + 1
 end
def uptoSmall : (H : Type) → List (DataW H) → Bool := fun _ ds => decide (uptoBulkAll ds ≤ 1048576)
def OpenSpec.upto (s : _root_.Go.ChangeSpec) : _root_.Go.OpenSpec := { _root_.Go.OpenSpec.ofChange s with cond := some uptoSmall }

/-- 'faultlinelaw09.TernaryDual', WHERE WHAT IT READS IS OF BULK AT MOST 1048576: true; the input reads as it did. -/
def ternaryDualUptoRow : OpenClaim := { program := "ytclpcnbdmmlogaa", sum := "4640f9ae47091dbc4be7ea9fe6196fa8451ccf86da8916c8c4423c904d62c10b", func := "faultline/faultlinelaw09.TernaryDual", spec := "ternaryDual", unfollowed := true, recurses := true, apart := false, narrowed := true }
def TernaryDualUptoSaid : Prop := ternaryDualUptoRow.holds Try.pinned (OpenSpec.upto ternaryDualSpec)

/-- 'faultlinelaw09.TernaryVotes', WHERE WHAT IT READS IS OF BULK AT MOST 1048576: true; the input reads as it did. -/
def ternaryVotesUptoRow : OpenClaim := { program := "ytclpcnbdmmlogaa", sum := "4640f9ae47091dbc4be7ea9fe6196fa8451ccf86da8916c8c4423c904d62c10b", func := "faultline/faultlinelaw09.TernaryVotes", spec := "ternaryVotes", unfollowed := true, recurses := true, apart := false, narrowed := true }
def TernaryVotesUptoSaid : Prop := ternaryVotesUptoRow.holds Try.pinned (OpenSpec.upto ternaryVotesSpec)

/-- 'faultlinelaw09.TernaryLearns', WHERE WHAT IT READS IS OF BULK AT MOST 1048576: true; the input reads as it did. -/
def ternaryLearnsUptoRow : OpenClaim := { program := "ytclpcnbdmmlogaa", sum := "4640f9ae47091dbc4be7ea9fe6196fa8451ccf86da8916c8c4423c904d62c10b", func := "faultline/faultlinelaw09.TernaryLearns", spec := "ternaryLearns", unfollowed := true, recurses := true, apart := false, narrowed := true }
def TernaryLearnsUptoSaid : Prop := ternaryLearnsUptoRow.holds Try.pinned (OpenSpec.upto ternaryLearnsSpec)

/-- 'faultlinelaw09.TernaryValues', WHERE WHAT IT READS IS OF BULK AT MOST 1048576: true; the input reads as it did. -/
def ternaryValuesUptoRow : OpenClaim := { program := "ytclpcnbdmmlogaa", sum := "4640f9ae47091dbc4be7ea9fe6196fa8451ccf86da8916c8c4423c904d62c10b", func := "faultline/faultlinelaw09.TernaryValues", spec := "ternaryValues", unfollowed := true, recurses := true, apart := false, narrowed := true }
def TernaryValuesUptoSaid : Prop := ternaryValuesUptoRow.holds Try.pinned (OpenSpec.upto ternaryValuesSpec)

/-- 'faultlinelaw09.TernarySound', WHERE WHAT IT READS IS OF BULK AT MOST 1048576: true; the input reads as it did. -/
def ternarySoundUptoRow : OpenClaim := { program := "ytclpcnbdmmlogaa", sum := "4640f9ae47091dbc4be7ea9fe6196fa8451ccf86da8916c8c4423c904d62c10b", func := "faultline/faultlinelaw09.TernarySound", spec := "ternarySound", unfollowed := true, recurses := true, apart := false, narrowed := true }
def TernarySoundUptoSaid : Prop := ternarySoundUptoRow.holds Try.pinned (OpenSpec.upto ternarySoundSpec)

/-- 'faultlinelaw09.TernarySplits', WHERE WHAT IT READS IS OF BULK AT MOST 1048576: true; the input reads as it did. -/
def ternarySplitsUptoRow : OpenClaim := { program := "ytclpcnbdmmlogaa", sum := "4640f9ae47091dbc4be7ea9fe6196fa8451ccf86da8916c8c4423c904d62c10b", func := "faultline/faultlinelaw09.TernarySplits", spec := "ternarySplits", unfollowed := true, recurses := true, apart := false, narrowed := true }
def TernarySplitsUptoSaid : Prop := ternarySplitsUptoRow.holds Try.pinned (OpenSpec.upto ternarySplitsSpec)

end Rows
end Go.Proofs.Ytclpcnbdmmlogaa
