/-
  No cell of these rows narrows 'for every input' (looked for: loops, veiled, ifaces, maps, wideKeys, modest, calm, conditions, laid).
  DERIVED. THE GIVEN ROWS OF THIS SEAT. 5 by the template 'for every input the law returns true; each argument reads behind the call as it read before'; 0 by the template 'total and deterministic' (their statements: YtpeobpgfbjghjaaTotals.lean).
  GIVEN WITH THE SEED: the statements are not yours to turn. If you find one false, say at which input.
  Laid BY PROGRAM, IN A SANDBOX (cutbox-rows.mjs): the forced cells as the released guide's own fill.sh prints them over the translation 2e644e2f3b118858… (all of the seat's roots in one cut). By AI agents, Wed Nov 11 2026. No macro, syntax, notation, axiom, sorry.
-/
import Derived.Test.YtpeobpgfbjghjaaChecked
import GoSem.Claim
import GoSem.ClaimJoined
import GoSem.ClaimMapViews
import Derived.JoinedTies
import Derived.KernelRfl
namespace Go.Proofs.Ytpeobpgfbjghjaa
/- THE CELL 'sum', in the pinned program and in every row, IS THE sha256 OF THE DUMP (.gsa) THAT YtpeobpgfbjghjaaProg.lean LOADS. Nothing in Lean hashes anything: it is a label: what it is worth is what the hold of that sum in a sandbox is worth. -/
noncomputable def Try.pinned : Pinned := { name := "ytpeobpgfbjghjaa", sum := "2e644e2f3b118858df3746430ed4ffa9278863e42820f98130f9bebb97ccad37", checked := Try.checked }
namespace Rows
def none {H : Type} : Left H := { results := [], args := [] }

/-- 'faultlinelaw55.MonitorAlone': WHATEVER THE INPUT: true; the input reads as it did. -/
def monitorAloneSpec : ChangeSpec := { name := "monitorAlone", fn := fun _ => fun
  | [d1, d2] => { results := [.lit (.bool true)], args := [d1, d2] }
  | _ => none }
def monitorAloneRow : OpenClaim := { program := "ytpeobpgfbjghjaa", sum := "2e644e2f3b118858df3746430ed4ffa9278863e42820f98130f9bebb97ccad37", func := "faultline/faultlinelaw55.MonitorAlone", spec := "monitorAlone", apart := false }
def MonitorAloneSaid : Prop := monitorAloneRow.holds Try.pinned (OpenSpec.ofChange monitorAloneSpec)

/-- ITS FALSE NEIGHBOUR: 'it returns false'. Refute it at one input. -/
def monitorAloneWrong : ChangeSpec := { name := "monitorAlone", fn := fun _ => fun
  | [d1, d2] => { results := [.lit (.bool false)], args := [d1, d2] }
  | _ => none }
def MonitorAloneWrongFalsely : Prop := monitorAloneRow.holds Try.pinned (OpenSpec.ofChange monitorAloneWrong)

/-- 'faultlinelaw55.MonitorReplays': WHATEVER THE INPUT: true; the input reads as it did. -/
def monitorReplaysSpec : ChangeSpec := { name := "monitorReplays", fn := fun _ => fun
  | [d1, d2] => { results := [.lit (.bool true)], args := [d1, d2] }
  | _ => none }
def monitorReplaysRow : OpenClaim := { program := "ytpeobpgfbjghjaa", sum := "2e644e2f3b118858df3746430ed4ffa9278863e42820f98130f9bebb97ccad37", func := "faultline/faultlinelaw55.MonitorReplays", spec := "monitorReplays", apart := false }
def MonitorReplaysSaid : Prop := monitorReplaysRow.holds Try.pinned (OpenSpec.ofChange monitorReplaysSpec)

/-- ITS FALSE NEIGHBOUR: 'it returns false'. Refute it at one input. -/
def monitorReplaysWrong : ChangeSpec := { name := "monitorReplays", fn := fun _ => fun
  | [d1, d2] => { results := [.lit (.bool false)], args := [d1, d2] }
  | _ => none }
def MonitorReplaysWrongFalsely : Prop := monitorReplaysRow.holds Try.pinned (OpenSpec.ofChange monitorReplaysWrong)

/-- 'faultlinelaw55.MonitorMargin': WHATEVER THE INPUT: true; the input reads as it did. -/
def monitorMarginSpec : ChangeSpec := { name := "monitorMargin", fn := fun _ => fun
  | [d1, d2] => { results := [.lit (.bool true)], args := [d1, d2] }
  | _ => none }
def monitorMarginRow : OpenClaim := { program := "ytpeobpgfbjghjaa", sum := "2e644e2f3b118858df3746430ed4ffa9278863e42820f98130f9bebb97ccad37", func := "faultline/faultlinelaw55.MonitorMargin", spec := "monitorMargin", apart := false }
def MonitorMarginSaid : Prop := monitorMarginRow.holds Try.pinned (OpenSpec.ofChange monitorMarginSpec)

/-- ITS FALSE NEIGHBOUR: 'it returns false'. Refute it at one input. -/
def monitorMarginWrong : ChangeSpec := { name := "monitorMargin", fn := fun _ => fun
  | [d1, d2] => { results := [.lit (.bool false)], args := [d1, d2] }
  | _ => none }
def MonitorMarginWrongFalsely : Prop := monitorMarginRow.holds Try.pinned (OpenSpec.ofChange monitorMarginWrong)

/-- 'faultlinelaw55.MonitorPlays': WHATEVER THE INPUT: true; the input reads as it did. -/
def monitorPlaysSpec : ChangeSpec := { name := "monitorPlays", fn := fun _ => fun
  | [d1, d2] => { results := [.lit (.bool true)], args := [d1, d2] }
  | _ => none }
def monitorPlaysRow : OpenClaim := { program := "ytpeobpgfbjghjaa", sum := "2e644e2f3b118858df3746430ed4ffa9278863e42820f98130f9bebb97ccad37", func := "faultline/faultlinelaw55.MonitorPlays", spec := "monitorPlays", apart := false }
def MonitorPlaysSaid : Prop := monitorPlaysRow.holds Try.pinned (OpenSpec.ofChange monitorPlaysSpec)

/-- ITS FALSE NEIGHBOUR: 'it returns false'. Refute it at one input. -/
def monitorPlaysWrong : ChangeSpec := { name := "monitorPlays", fn := fun _ => fun
  | [d1, d2] => { results := [.lit (.bool false)], args := [d1, d2] }
  | _ => none }
def MonitorPlaysWrongFalsely : Prop := monitorPlaysRow.holds Try.pinned (OpenSpec.ofChange monitorPlaysWrong)

/-- 'faultlinelaw55.MonitorErrors': WHATEVER THE INPUT: true; the input reads as it did. -/
def monitorErrorsSpec : ChangeSpec := { name := "monitorErrors", fn := fun _ => fun
  | [d1, d2, d3] => { results := [.lit (.bool true)], args := [d1, d2, d3] }
  | _ => none }
def monitorErrorsRow : OpenClaim := { program := "ytpeobpgfbjghjaa", sum := "2e644e2f3b118858df3746430ed4ffa9278863e42820f98130f9bebb97ccad37", func := "faultline/faultlinelaw55.MonitorErrors", spec := "monitorErrors", apart := false }
def MonitorErrorsSaid : Prop := monitorErrorsRow.holds Try.pinned (OpenSpec.ofChange monitorErrorsSpec)

/-- ITS FALSE NEIGHBOUR: 'it returns false'. Refute it at one input. -/
def monitorErrorsWrong : ChangeSpec := { name := "monitorErrors", fn := fun _ => fun
  | [d1, d2, d3] => { results := [.lit (.bool false)], args := [d1, d2, d3] }
  | _ => none }
def MonitorErrorsWrongFalsely : Prop := monitorErrorsRow.holds Try.pinned (OpenSpec.ofChange monitorErrorsWrong)

/- THE SECOND FORM. 'bulk': how many values and letters a reading holds, each counted each time it is reached (what is shared counts as often as it is met; a slice's spare places count too). A statement '..UptoSaid' is the law's where the arguments, and the package variables that the reading takes, are together of bulk at most 1048576: NARROWER than '..Said'. Prove '..Said' where nothing that the law and all that it calls make is longer than what came in: it says more and counts as full. Else prove '..UptoSaid'. A law counts once. -/
mutual
def uptoBulk {H : Type} : DataW H → Nat
  | .lit (.string bytes) => bytes.length + 1
  | .lit _ => 1
  | .nil => 1
  | .ptr d => uptoBulk d + 1
  | .slice elems spare => uptoBulkAll elems + uptoBulkAll spare + 1
  | .agg parts => uptoBulkAll parts + 1
  | .iface _ d => uptoBulk d + 1
  | .map entries => uptoBulkEntries entries + 1
  | .held _ => 1
def uptoBulkAll {H : Type} : List (DataW H) → Nat
  | [] => 0
  | d :: r => uptoBulk d + uptoBulkAll r
def uptoBulkEntries {H : Type} : List (Lit × DataW H) → Nat
  | [] => 0
  | x :: r => uptoBulkEntry x + uptoBulkEntries r
def uptoBulkEntry {H : Type} : Lit × DataW H → Nat
  | (.string bytes, d) => bytes.length + uptoBulk d + 1
  | (_, d) => uptoBulk d + 1
 end
def uptoSmall : (H : Type) → List (DataW H) → Bool := fun _ ds => decide (uptoBulkAll ds ≤ 1048576)
def OpenSpec.upto (s : _root_.Go.ChangeSpec) : _root_.Go.OpenSpec := { _root_.Go.OpenSpec.ofChange s with cond := some uptoSmall }

/-- 'faultlinelaw55.MonitorAlone', WHERE WHAT IT READS IS OF BULK AT MOST 1048576: true; the input reads as it did. -/
def monitorAloneUptoRow : OpenClaim := { program := "ytpeobpgfbjghjaa", sum := "2e644e2f3b118858df3746430ed4ffa9278863e42820f98130f9bebb97ccad37", func := "faultline/faultlinelaw55.MonitorAlone", spec := "monitorAlone", apart := false, narrowed := true }
def MonitorAloneUptoSaid : Prop := monitorAloneUptoRow.holds Try.pinned (OpenSpec.upto monitorAloneSpec)

/-- 'faultlinelaw55.MonitorReplays', WHERE WHAT IT READS IS OF BULK AT MOST 1048576: true; the input reads as it did. -/
def monitorReplaysUptoRow : OpenClaim := { program := "ytpeobpgfbjghjaa", sum := "2e644e2f3b118858df3746430ed4ffa9278863e42820f98130f9bebb97ccad37", func := "faultline/faultlinelaw55.MonitorReplays", spec := "monitorReplays", apart := false, narrowed := true }
def MonitorReplaysUptoSaid : Prop := monitorReplaysUptoRow.holds Try.pinned (OpenSpec.upto monitorReplaysSpec)

/-- 'faultlinelaw55.MonitorMargin', WHERE WHAT IT READS IS OF BULK AT MOST 1048576: true; the input reads as it did. -/
def monitorMarginUptoRow : OpenClaim := { program := "ytpeobpgfbjghjaa", sum := "2e644e2f3b118858df3746430ed4ffa9278863e42820f98130f9bebb97ccad37", func := "faultline/faultlinelaw55.MonitorMargin", spec := "monitorMargin", apart := false, narrowed := true }
def MonitorMarginUptoSaid : Prop := monitorMarginUptoRow.holds Try.pinned (OpenSpec.upto monitorMarginSpec)

/-- 'faultlinelaw55.MonitorPlays', WHERE WHAT IT READS IS OF BULK AT MOST 1048576: true; the input reads as it did. -/
def monitorPlaysUptoRow : OpenClaim := { program := "ytpeobpgfbjghjaa", sum := "2e644e2f3b118858df3746430ed4ffa9278863e42820f98130f9bebb97ccad37", func := "faultline/faultlinelaw55.MonitorPlays", spec := "monitorPlays", apart := false, narrowed := true }
def MonitorPlaysUptoSaid : Prop := monitorPlaysUptoRow.holds Try.pinned (OpenSpec.upto monitorPlaysSpec)

/-- 'faultlinelaw55.MonitorErrors', WHERE WHAT IT READS IS OF BULK AT MOST 1048576: true; the input reads as it did. -/
def monitorErrorsUptoRow : OpenClaim := { program := "ytpeobpgfbjghjaa", sum := "2e644e2f3b118858df3746430ed4ffa9278863e42820f98130f9bebb97ccad37", func := "faultline/faultlinelaw55.MonitorErrors", spec := "monitorErrors", apart := false, narrowed := true }
def MonitorErrorsUptoSaid : Prop := monitorErrorsUptoRow.holds Try.pinned (OpenSpec.upto monitorErrorsSpec)

end Rows
end Go.Proofs.Ytpeobpgfbjghjaa
