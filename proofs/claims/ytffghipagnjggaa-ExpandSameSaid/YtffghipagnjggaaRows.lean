/-
  No cell of these rows narrows 'for every input' (looked for: loops, veiled, ifaces, maps, wideKeys, modest, calm, conditions, laid).
  DERIVED. THE GIVEN ROWS OF THIS SEAT. 7 by the template 'for every input the law returns true; each argument reads behind the call as it read before'; 0 by the template 'total and deterministic' (their statements: YtffghipagnjggaaTotals.lean).
  GIVEN WITH THE SEED: the statements are not yours to turn. If you find one false, say at which input.
  Laid BY PROGRAM, IN A SANDBOX (cutbox-rows.mjs): the forced cells as the released guide's own fill.sh prints them over the translation 325ed53e3027c3f9… (all of the seat's roots in one cut). By AI agents, Wed Nov 11 2026. No macro, syntax, notation, axiom, sorry.
-/
import Derived.Test.YtffghipagnjggaaChecked
import GoSem.Claim
import GoSem.ClaimJoined
import GoSem.ClaimMapViews
import Derived.JoinedTies
import Derived.KernelRfl
namespace Go.Proofs.Ytffghipagnjggaa
/- THE CELL 'sum', in the pinned program and in every row, IS THE sha256 OF THE DUMP (.gsa) THAT YtffghipagnjggaaProg.lean LOADS. Nothing in Lean hashes anything: it is a label: what it is worth is what the hold of that sum in a sandbox is worth. -/
noncomputable def Try.pinned : Pinned := { name := "ytffghipagnjggaa", sum := "325ed53e3027c3f96e532de2c16f4c6b3f12f1c7ae26e5307217ca2a3127cbd5", checked := Try.checked }
namespace Rows
def none {H : Type} : Left H := { results := [], args := [] }

/-- 'faultlinelaw27.ExpandVotes': WHATEVER THE INPUT: true; the input reads as it did. -/
def expandVotesSpec : ChangeSpec := { name := "expandVotes", fn := fun _ => fun
  | [d] => { results := [.lit (.bool true)], args := [d] }
  | _ => none }
def expandVotesRow : OpenClaim := { program := "ytffghipagnjggaa", sum := "325ed53e3027c3f96e532de2c16f4c6b3f12f1c7ae26e5307217ca2a3127cbd5", func := "faultline/faultlinelaw27.ExpandVotes", spec := "expandVotes", unfollowed := true, recurses := true, plainKeys := false, apart := false }
def ExpandVotesSaid : Prop := expandVotesRow.holds Try.pinned (OpenSpec.ofChange expandVotesSpec)

/-- ITS FALSE NEIGHBOUR: 'it returns false'. Refute it at one input. -/
def expandVotesWrong : ChangeSpec := { name := "expandVotes", fn := fun _ => fun
  | [d] => { results := [.lit (.bool false)], args := [d] }
  | _ => none }
def ExpandVotesWrongFalsely : Prop := expandVotesRow.holds Try.pinned (OpenSpec.ofChange expandVotesWrong)

/-- 'faultlinelaw27.ExpandXors': WHATEVER THE INPUT: true; the input reads as it did. -/
def expandXorsSpec : ChangeSpec := { name := "expandXors", fn := fun _ => fun
  | [d] => { results := [.lit (.bool true)], args := [d] }
  | _ => none }
def expandXorsRow : OpenClaim := { program := "ytffghipagnjggaa", sum := "325ed53e3027c3f96e532de2c16f4c6b3f12f1c7ae26e5307217ca2a3127cbd5", func := "faultline/faultlinelaw27.ExpandXors", spec := "expandXors", unfollowed := true, recurses := true, plainKeys := false, apart := false }
def ExpandXorsSaid : Prop := expandXorsRow.holds Try.pinned (OpenSpec.ofChange expandXorsSpec)

/-- ITS FALSE NEIGHBOUR: 'it returns false'. Refute it at one input. -/
def expandXorsWrong : ChangeSpec := { name := "expandXors", fn := fun _ => fun
  | [d] => { results := [.lit (.bool false)], args := [d] }
  | _ => none }
def ExpandXorsWrongFalsely : Prop := expandXorsRow.holds Try.pinned (OpenSpec.ofChange expandXorsWrong)

/-- 'faultlinelaw27.ExpandKinds': WHATEVER THE INPUT: true; the input reads as it did. -/
def expandKindsSpec : ChangeSpec := { name := "expandKinds", fn := fun _ => fun
  | [d] => { results := [.lit (.bool true)], args := [d] }
  | _ => none }
def expandKindsRow : OpenClaim := { program := "ytffghipagnjggaa", sum := "325ed53e3027c3f96e532de2c16f4c6b3f12f1c7ae26e5307217ca2a3127cbd5", func := "faultline/faultlinelaw27.ExpandKinds", spec := "expandKinds", unfollowed := true, recurses := true, plainKeys := false, apart := false }
def ExpandKindsSaid : Prop := expandKindsRow.holds Try.pinned (OpenSpec.ofChange expandKindsSpec)

/-- ITS FALSE NEIGHBOUR: 'it returns false'. Refute it at one input. -/
def expandKindsWrong : ChangeSpec := { name := "expandKinds", fn := fun _ => fun
  | [d] => { results := [.lit (.bool false)], args := [d] }
  | _ => none }
def ExpandKindsWrongFalsely : Prop := expandKindsRow.holds Try.pinned (OpenSpec.ofChange expandKindsWrong)

/-- 'faultlinelaw27.ExpandAgain': WHATEVER THE INPUT: true; the input reads as it did. -/
def expandAgainSpec : ChangeSpec := { name := "expandAgain", fn := fun _ => fun
  | [d] => { results := [.lit (.bool true)], args := [d] }
  | _ => none }
def expandAgainRow : OpenClaim := { program := "ytffghipagnjggaa", sum := "325ed53e3027c3f96e532de2c16f4c6b3f12f1c7ae26e5307217ca2a3127cbd5", func := "faultline/faultlinelaw27.ExpandAgain", spec := "expandAgain", unfollowed := true, recurses := true, plainKeys := false, apart := false }
def ExpandAgainSaid : Prop := expandAgainRow.holds Try.pinned (OpenSpec.ofChange expandAgainSpec)

/-- ITS FALSE NEIGHBOUR: 'it returns false'. Refute it at one input. -/
def expandAgainWrong : ChangeSpec := { name := "expandAgain", fn := fun _ => fun
  | [d] => { results := [.lit (.bool false)], args := [d] }
  | _ => none }
def ExpandAgainWrongFalsely : Prop := expandAgainRow.holds Try.pinned (OpenSpec.ofChange expandAgainWrong)

/-- 'faultlinelaw27.ExpandOnce': WHATEVER THE INPUT: true; the input reads as it did. -/
def expandOnceSpec : ChangeSpec := { name := "expandOnce", fn := fun _ => fun
  | [d] => { results := [.lit (.bool true)], args := [d] }
  | _ => none }
def expandOnceRow : OpenClaim := { program := "ytffghipagnjggaa", sum := "325ed53e3027c3f96e532de2c16f4c6b3f12f1c7ae26e5307217ca2a3127cbd5", func := "faultline/faultlinelaw27.ExpandOnce", spec := "expandOnce", unfollowed := true, recurses := true, plainKeys := false, apart := false }
def ExpandOnceSaid : Prop := expandOnceRow.holds Try.pinned (OpenSpec.ofChange expandOnceSpec)

/-- ITS FALSE NEIGHBOUR: 'it returns false'. Refute it at one input. -/
def expandOnceWrong : ChangeSpec := { name := "expandOnce", fn := fun _ => fun
  | [d] => { results := [.lit (.bool false)], args := [d] }
  | _ => none }
def ExpandOnceWrongFalsely : Prop := expandOnceRow.holds Try.pinned (OpenSpec.ofChange expandOnceWrong)

/-- 'faultlinelaw27.ExpandTrees': WHATEVER THE INPUT: true; the input reads as it did. -/
def expandTreesSpec : ChangeSpec := { name := "expandTrees", fn := fun _ => fun
  | [d] => { results := [.lit (.bool true)], args := [d] }
  | _ => none }
def expandTreesRow : OpenClaim := { program := "ytffghipagnjggaa", sum := "325ed53e3027c3f96e532de2c16f4c6b3f12f1c7ae26e5307217ca2a3127cbd5", func := "faultline/faultlinelaw27.ExpandTrees", spec := "expandTrees", unfollowed := true, recurses := true, plainKeys := false, apart := false }
def ExpandTreesSaid : Prop := expandTreesRow.holds Try.pinned (OpenSpec.ofChange expandTreesSpec)

/-- ITS FALSE NEIGHBOUR: 'it returns false'. Refute it at one input. -/
def expandTreesWrong : ChangeSpec := { name := "expandTrees", fn := fun _ => fun
  | [d] => { results := [.lit (.bool false)], args := [d] }
  | _ => none }
def ExpandTreesWrongFalsely : Prop := expandTreesRow.holds Try.pinned (OpenSpec.ofChange expandTreesWrong)

/-- 'faultlinelaw27.ExpandSame': WHATEVER THE INPUT: true; the input reads as it did. -/
def expandSameSpec : ChangeSpec := { name := "expandSame", fn := fun _ => fun
  | [d1, d2] => { results := [.lit (.bool true)], args := [d1, d2] }
  | _ => none }
def expandSameRow : OpenClaim := { program := "ytffghipagnjggaa", sum := "325ed53e3027c3f96e532de2c16f4c6b3f12f1c7ae26e5307217ca2a3127cbd5", func := "faultline/faultlinelaw27.ExpandSame", spec := "expandSame", unfollowed := true, recurses := true, plainKeys := false, apart := false }
def ExpandSameSaid : Prop := expandSameRow.holds Try.pinned (OpenSpec.ofChange expandSameSpec)

/-- ITS FALSE NEIGHBOUR: 'it returns false'. Refute it at one input. -/
def expandSameWrong : ChangeSpec := { name := "expandSame", fn := fun _ => fun
  | [d1, d2] => { results := [.lit (.bool false)], args := [d1, d2] }
  | _ => none }
def ExpandSameWrongFalsely : Prop := expandSameRow.holds Try.pinned (OpenSpec.ofChange expandSameWrong)

/- THE SECOND FORM. 'bulk': how many values and letters a reading holds, each counted each time it is reached (what is shared counts as often as it is met; a slice's spare places count too). A statement '..UptoSaid' is the law's where the arguments, and the package variables that the reading takes, are together of bulk at most 1048576: NARROWER than '..Said'. Prove '..Said' where nothing that the law and all that it calls make is longer than what came in: it says more and counts as full. Else prove '..UptoSaid'. A law counts once. -/
mutual
def uptoBulk {H : Type} : DataW H → Nat
  | .lit (.string bytes) => bytes.length + 1
  | .lit _ => 1
  | .nil => 1
  | .ptr d => uptoBulk d + 1
  | .slice elems spare => uptoBulkAll elems + uptoBulkAll spare + 1
  | .agg parts => uptoBulkAll parts + 1
  | .iface _ d => uptoBulk d + 1
  | .map entries => uptoBulkEntries entries + 1
  | .held _ => 1
def uptoBulkAll {H : Type} : List (DataW H) → Nat
  | [] => 0
  | d :: r => uptoBulk d + uptoBulkAll r
def uptoBulkEntries {H : Type} : List (Lit × DataW H) → Nat
  | [] => 0
  | x :: r => uptoBulkEntry x + uptoBulkEntries r
def uptoBulkEntry {H : Type} : Lit × DataW H → Nat
  | (.string bytes, d) => bytes.length + uptoBulk d + 1
  | (_, d) => uptoBulk d + 1
 end
def uptoSmall : (H : Type) → List (DataW H) → Bool := fun _ ds => decide (uptoBulkAll ds ≤ 1048576)
def OpenSpec.upto (s : _root_.Go.ChangeSpec) : _root_.Go.OpenSpec := { _root_.Go.OpenSpec.ofChange s with cond := some uptoSmall }

/-- 'faultlinelaw27.ExpandVotes', WHERE WHAT IT READS IS OF BULK AT MOST 1048576: true; the input reads as it did. -/
def expandVotesUptoRow : OpenClaim := { program := "ytffghipagnjggaa", sum := "325ed53e3027c3f96e532de2c16f4c6b3f12f1c7ae26e5307217ca2a3127cbd5", func := "faultline/faultlinelaw27.ExpandVotes", spec := "expandVotes", unfollowed := true, recurses := true, plainKeys := false, apart := false, narrowed := true }
def ExpandVotesUptoSaid : Prop := expandVotesUptoRow.holds Try.pinned (OpenSpec.upto expandVotesSpec)

/-- 'faultlinelaw27.ExpandXors', WHERE WHAT IT READS IS OF BULK AT MOST 1048576: true; the input reads as it did. -/
def expandXorsUptoRow : OpenClaim := { program := "ytffghipagnjggaa", sum := "325ed53e3027c3f96e532de2c16f4c6b3f12f1c7ae26e5307217ca2a3127cbd5", func := "faultline/faultlinelaw27.ExpandXors", spec := "expandXors", unfollowed := true, recurses := true, plainKeys := false, apart := false, narrowed := true }
def ExpandXorsUptoSaid : Prop := expandXorsUptoRow.holds Try.pinned (OpenSpec.upto expandXorsSpec)

/-- 'faultlinelaw27.ExpandKinds', WHERE WHAT IT READS IS OF BULK AT MOST 1048576: true; the input reads as it did. -/
def expandKindsUptoRow : OpenClaim := { program := "ytffghipagnjggaa", sum := "325ed53e3027c3f96e532de2c16f4c6b3f12f1c7ae26e5307217ca2a3127cbd5", func := "faultline/faultlinelaw27.ExpandKinds", spec := "expandKinds", unfollowed := true, recurses := true, plainKeys := false, apart := false, narrowed := true }
def ExpandKindsUptoSaid : Prop := expandKindsUptoRow.holds Try.pinned (OpenSpec.upto expandKindsSpec)

/-- 'faultlinelaw27.ExpandAgain', WHERE WHAT IT READS IS OF BULK AT MOST 1048576: true; the input reads as it did. -/
def expandAgainUptoRow : OpenClaim := { program := "ytffghipagnjggaa", sum := "325ed53e3027c3f96e532de2c16f4c6b3f12f1c7ae26e5307217ca2a3127cbd5", func := "faultline/faultlinelaw27.ExpandAgain", spec := "expandAgain", unfollowed := true, recurses := true, plainKeys := false, apart := false, narrowed := true }
def ExpandAgainUptoSaid : Prop := expandAgainUptoRow.holds Try.pinned (OpenSpec.upto expandAgainSpec)

/-- 'faultlinelaw27.ExpandOnce', WHERE WHAT IT READS IS OF BULK AT MOST 1048576: true; the input reads as it did. -/
def expandOnceUptoRow : OpenClaim := { program := "ytffghipagnjggaa", sum := "325ed53e3027c3f96e532de2c16f4c6b3f12f1c7ae26e5307217ca2a3127cbd5", func := "faultline/faultlinelaw27.ExpandOnce", spec := "expandOnce", unfollowed := true, recurses := true, plainKeys := false, apart := false, narrowed := true }
def ExpandOnceUptoSaid : Prop := expandOnceUptoRow.holds Try.pinned (OpenSpec.upto expandOnceSpec)

/-- 'faultlinelaw27.ExpandTrees', WHERE WHAT IT READS IS OF BULK AT MOST 1048576: true; the input reads as it did. -/
def expandTreesUptoRow : OpenClaim := { program := "ytffghipagnjggaa", sum := "325ed53e3027c3f96e532de2c16f4c6b3f12f1c7ae26e5307217ca2a3127cbd5", func := "faultline/faultlinelaw27.ExpandTrees", spec := "expandTrees", unfollowed := true, recurses := true, plainKeys := false, apart := false, narrowed := true }
def ExpandTreesUptoSaid : Prop := expandTreesUptoRow.holds Try.pinned (OpenSpec.upto expandTreesSpec)

/-- 'faultlinelaw27.ExpandSame', WHERE WHAT IT READS IS OF BULK AT MOST 1048576: true; the input reads as it did. -/
def expandSameUptoRow : OpenClaim := { program := "ytffghipagnjggaa", sum := "325ed53e3027c3f96e532de2c16f4c6b3f12f1c7ae26e5307217ca2a3127cbd5", func := "faultline/faultlinelaw27.ExpandSame", spec := "expandSame", unfollowed := true, recurses := true, plainKeys := false, apart := false, narrowed := true }
def ExpandSameUptoSaid : Prop := expandSameUptoRow.holds Try.pinned (OpenSpec.upto expandSameSpec)

end Rows
end Go.Proofs.Ytffghipagnjggaa
