/-
  No cell of these rows narrows 'for every input' (looked for: loops, veiled, ifaces, maps, wideKeys, modest, calm, conditions, laid).
  DERIVED. THE GIVEN ROWS OF THIS SEAT. 6 by the template 'for every input the law returns true; each argument reads behind the call as it read before'; 0 by the template 'total and deterministic' (their statements: YthbmgpkocbabeaaTotals.lean).
  GIVEN WITH THE SEED: the statements are not yours to turn. If you find one false, say at which input.
  Laid BY PROGRAM, IN A SANDBOX (cutbox-rows.mjs): the forced cells as the released guide's own fill.sh prints them over the translation 06bd9c6385321350… (all of the seat's roots in one cut). By AI agents, Wed Nov 11 2026. No macro, syntax, notation, axiom, sorry.
-/
import Derived.Test.YthbmgpkocbabeaaChecked
import GoSem.Claim
import GoSem.ClaimJoined
import GoSem.ClaimMapViews
import Derived.JoinedTies
import Derived.KernelRfl
namespace Go.Proofs.Ythbmgpkocbabeaa
/- THE CELL 'sum', in the pinned program and in every row, IS THE sha256 OF THE DUMP (.gsa) THAT YthbmgpkocbabeaaProg.lean LOADS. Nothing in Lean hashes anything: it is a label: what it is worth is what the hold of that sum in a sandbox is worth. -/
noncomputable def Try.pinned : Pinned := { name := "ythbmgpkocbabeaa", sum := "06bd9c638532135086dda2ddfc2ceca3eafba4473869da771c7fac53af31c280", checked := Try.checked }
namespace Rows
def none {H : Type} : Left H := { results := [], args := [] }

/-- 'faultlinelaw29.ModuleNests': WHATEVER THE INPUT: true; the input reads as it did. -/
def moduleNestsSpec : ChangeSpec := { name := "moduleNests", fn := fun _ => fun
  | [d] => { results := [.lit (.bool true)], args := [d] }
  | _ => none }
def moduleNestsRow : OpenClaim := { program := "ythbmgpkocbabeaa", sum := "06bd9c638532135086dda2ddfc2ceca3eafba4473869da771c7fac53af31c280", func := "faultline/faultlinelaw29.ModuleNests", spec := "moduleNests", apart := false }
def ModuleNestsSaid : Prop := moduleNestsRow.holds Try.pinned (OpenSpec.ofChange moduleNestsSpec)

/-- ITS FALSE NEIGHBOUR: 'it returns false'. Refute it at one input. -/
def moduleNestsWrong : ChangeSpec := { name := "moduleNests", fn := fun _ => fun
  | [d] => { results := [.lit (.bool false)], args := [d] }
  | _ => none }
def ModuleNestsWrongFalsely : Prop := moduleNestsRow.holds Try.pinned (OpenSpec.ofChange moduleNestsWrong)

/-- 'faultlinelaw29.ModuleAsks': WHATEVER THE INPUT: true; the input reads as it did. -/
def moduleAsksSpec : ChangeSpec := { name := "moduleAsks", fn := fun _ => fun
  | [d1, d2] => { results := [.lit (.bool true)], args := [d1, d2] }
  | _ => none }
def moduleAsksRow : OpenClaim := { program := "ythbmgpkocbabeaa", sum := "06bd9c638532135086dda2ddfc2ceca3eafba4473869da771c7fac53af31c280", func := "faultline/faultlinelaw29.ModuleAsks", spec := "moduleAsks", apart := false }
def ModuleAsksSaid : Prop := moduleAsksRow.holds Try.pinned (OpenSpec.ofChange moduleAsksSpec)

/-- ITS FALSE NEIGHBOUR: 'it returns false'. Refute it at one input. -/
def moduleAsksWrong : ChangeSpec := { name := "moduleAsks", fn := fun _ => fun
  | [d1, d2] => { results := [.lit (.bool false)], args := [d1, d2] }
  | _ => none }
def ModuleAsksWrongFalsely : Prop := moduleAsksRow.holds Try.pinned (OpenSpec.ofChange moduleAsksWrong)

/-- 'faultlinelaw29.ModuleApart': WHATEVER THE INPUT: true; the input reads as it did. -/
def moduleApartSpec : ChangeSpec := { name := "moduleApart", fn := fun _ => fun
  | [d] => { results := [.lit (.bool true)], args := [d] }
  | _ => none }
def moduleApartRow : OpenClaim := { program := "ythbmgpkocbabeaa", sum := "06bd9c638532135086dda2ddfc2ceca3eafba4473869da771c7fac53af31c280", func := "faultline/faultlinelaw29.ModuleApart", spec := "moduleApart", apart := false }
def ModuleApartSaid : Prop := moduleApartRow.holds Try.pinned (OpenSpec.ofChange moduleApartSpec)

/-- ITS FALSE NEIGHBOUR: 'it returns false'. Refute it at one input. -/
def moduleApartWrong : ChangeSpec := { name := "moduleApart", fn := fun _ => fun
  | [d] => { results := [.lit (.bool false)], args := [d] }
  | _ => none }
def ModuleApartWrongFalsely : Prop := moduleApartRow.holds Try.pinned (OpenSpec.ofChange moduleApartWrong)

/-- 'faultlinelaw29.ModuleFinds': WHATEVER THE INPUT: true; the input reads as it did. -/
def moduleFindsSpec : ChangeSpec := { name := "moduleFinds", fn := fun _ => fun
  | [d] => { results := [.lit (.bool true)], args := [d] }
  | _ => none }
def moduleFindsRow : OpenClaim := { program := "ythbmgpkocbabeaa", sum := "06bd9c638532135086dda2ddfc2ceca3eafba4473869da771c7fac53af31c280", func := "faultline/faultlinelaw29.ModuleFinds", spec := "moduleFinds", apart := false }
def ModuleFindsSaid : Prop := moduleFindsRow.holds Try.pinned (OpenSpec.ofChange moduleFindsSpec)

/-- ITS FALSE NEIGHBOUR: 'it returns false'. Refute it at one input. -/
def moduleFindsWrong : ChangeSpec := { name := "moduleFinds", fn := fun _ => fun
  | [d] => { results := [.lit (.bool false)], args := [d] }
  | _ => none }
def ModuleFindsWrongFalsely : Prop := moduleFindsRow.holds Try.pinned (OpenSpec.ofChange moduleFindsWrong)

/-- 'faultlinelaw29.ModuleHides': WHATEVER THE INPUT: true; the input reads as it did. -/
def moduleHidesSpec : ChangeSpec := { name := "moduleHides", fn := fun _ => fun
  | [d1, d2] => { results := [.lit (.bool true)], args := [d1, d2] }
  | _ => none }
def moduleHidesRow : OpenClaim := { program := "ythbmgpkocbabeaa", sum := "06bd9c638532135086dda2ddfc2ceca3eafba4473869da771c7fac53af31c280", func := "faultline/faultlinelaw29.ModuleHides", spec := "moduleHides", apart := false }
def ModuleHidesSaid : Prop := moduleHidesRow.holds Try.pinned (OpenSpec.ofChange moduleHidesSpec)

/-- ITS FALSE NEIGHBOUR: 'it returns false'. Refute it at one input. -/
def moduleHidesWrong : ChangeSpec := { name := "moduleHides", fn := fun _ => fun
  | [d1, d2] => { results := [.lit (.bool false)], args := [d1, d2] }
  | _ => none }
def ModuleHidesWrongFalsely : Prop := moduleHidesRow.holds Try.pinned (OpenSpec.ofChange moduleHidesWrong)

/-- 'faultlinelaw29.ModuleMore': WHATEVER THE INPUT: true; the input reads as it did. -/
def moduleMoreSpec : ChangeSpec := { name := "moduleMore", fn := fun _ => fun
  | [d1, d2] => { results := [.lit (.bool true)], args := [d1, d2] }
  | _ => none }
def moduleMoreRow : OpenClaim := { program := "ythbmgpkocbabeaa", sum := "06bd9c638532135086dda2ddfc2ceca3eafba4473869da771c7fac53af31c280", func := "faultline/faultlinelaw29.ModuleMore", spec := "moduleMore", apart := false }
def ModuleMoreSaid : Prop := moduleMoreRow.holds Try.pinned (OpenSpec.ofChange moduleMoreSpec)

/-- ITS FALSE NEIGHBOUR: 'it returns false'. Refute it at one input. -/
def moduleMoreWrong : ChangeSpec := { name := "moduleMore", fn := fun _ => fun
  | [d1, d2] => { results := [.lit (.bool false)], args := [d1, d2] }
  | _ => none }
def ModuleMoreWrongFalsely : Prop := moduleMoreRow.holds Try.pinned (OpenSpec.ofChange moduleMoreWrong)

/- THE SECOND FORM. 'bulk': how many values and letters a reading holds, each counted each time it is reached (what is shared counts as often as it is met; a slice's spare places count too). A statement '..UptoSaid' is the law's where the arguments, and the package variables that the reading takes, are together of bulk at most 1048576: NARROWER than '..Said'. Prove '..Said' where nothing that the law and all that it calls make is longer than what came in: it says more and counts as full. Else prove '..UptoSaid'. A law counts once. -/
mutual
def uptoBulk {H : Type} : DataW H → Nat
  | .lit (.string bytes) => bytes.length + 1
  | .lit _ => 1
  | .nil => 1
  | .ptr d => uptoBulk d + 1
  | .slice elems spare => uptoBulkAll elems + uptoBulkAll spare + 1
  | .agg parts => uptoBulkAll parts + 1
  | .iface _ d => uptoBulk d + 1
  | .map entries => uptoBulkEntries entries + 1
  | .held _ => 1
def uptoBulkAll {H : Type} : List (DataW H) → Nat
  | [] => 0
  | d :: r => uptoBulk d + uptoBulkAll r
def uptoBulkEntries {H : Type} : List (Lit × DataW H) → Nat
  | [] => 0
  | x :: r => uptoBulkEntry x + uptoBulkEntries r
def uptoBulkEntry {H : Type} : Lit × DataW H → Nat
  | (.string bytes, d) => bytes.length + uptoBulk d + 1
  | (_, d) => uptoBulk d + 1
 end
def uptoSmall : (H : Type) → List (DataW H) → Bool := fun _ ds => decide (uptoBulkAll ds ≤ 1048576)
def OpenSpec.upto (s : _root_.Go.ChangeSpec) : _root_.Go.OpenSpec := { _root_.Go.OpenSpec.ofChange s with cond := some uptoSmall }

/-- 'faultlinelaw29.ModuleNests', WHERE WHAT IT READS IS OF BULK AT MOST 1048576: true; the input reads as it did. -/
def moduleNestsUptoRow : OpenClaim := { program := "ythbmgpkocbabeaa", sum := "06bd9c638532135086dda2ddfc2ceca3eafba4473869da771c7fac53af31c280", func := "faultline/faultlinelaw29.ModuleNests", spec := "moduleNests", apart := false, narrowed := true }
def ModuleNestsUptoSaid : Prop := moduleNestsUptoRow.holds Try.pinned (OpenSpec.upto moduleNestsSpec)

/-- 'faultlinelaw29.ModuleAsks', WHERE WHAT IT READS IS OF BULK AT MOST 1048576: true; the input reads as it did. -/
def moduleAsksUptoRow : OpenClaim := { program := "ythbmgpkocbabeaa", sum := "06bd9c638532135086dda2ddfc2ceca3eafba4473869da771c7fac53af31c280", func := "faultline/faultlinelaw29.ModuleAsks", spec := "moduleAsks", apart := false, narrowed := true }
def ModuleAsksUptoSaid : Prop := moduleAsksUptoRow.holds Try.pinned (OpenSpec.upto moduleAsksSpec)

/-- 'faultlinelaw29.ModuleApart', WHERE WHAT IT READS IS OF BULK AT MOST 1048576: true; the input reads as it did. -/
def moduleApartUptoRow : OpenClaim := { program := "ythbmgpkocbabeaa", sum := "06bd9c638532135086dda2ddfc2ceca3eafba4473869da771c7fac53af31c280", func := "faultline/faultlinelaw29.ModuleApart", spec := "moduleApart", apart := false, narrowed := true }
def ModuleApartUptoSaid : Prop := moduleApartUptoRow.holds Try.pinned (OpenSpec.upto moduleApartSpec)

/-- 'faultlinelaw29.ModuleFinds', WHERE WHAT IT READS IS OF BULK AT MOST 1048576: true; the input reads as it did. -/
def moduleFindsUptoRow : OpenClaim := { program := "ythbmgpkocbabeaa", sum := "06bd9c638532135086dda2ddfc2ceca3eafba4473869da771c7fac53af31c280", func := "faultline/faultlinelaw29.ModuleFinds", spec := "moduleFinds", apart := false, narrowed := true }
def ModuleFindsUptoSaid : Prop := moduleFindsUptoRow.holds Try.pinned (OpenSpec.upto moduleFindsSpec)

/-- 'faultlinelaw29.ModuleHides', WHERE WHAT IT READS IS OF BULK AT MOST 1048576: true; the input reads as it did. -/
def moduleHidesUptoRow : OpenClaim := { program := "ythbmgpkocbabeaa", sum := "06bd9c638532135086dda2ddfc2ceca3eafba4473869da771c7fac53af31c280", func := "faultline/faultlinelaw29.ModuleHides", spec := "moduleHides", apart := false, narrowed := true }
def ModuleHidesUptoSaid : Prop := moduleHidesUptoRow.holds Try.pinned (OpenSpec.upto moduleHidesSpec)

/-- 'faultlinelaw29.ModuleMore', WHERE WHAT IT READS IS OF BULK AT MOST 1048576: true; the input reads as it did. -/
def moduleMoreUptoRow : OpenClaim := { program := "ythbmgpkocbabeaa", sum := "06bd9c638532135086dda2ddfc2ceca3eafba4473869da771c7fac53af31c280", func := "faultline/faultlinelaw29.ModuleMore", spec := "moduleMore", apart := false, narrowed := true }
def ModuleMoreUptoSaid : Prop := moduleMoreUptoRow.holds Try.pinned (OpenSpec.upto moduleMoreSpec)

end Rows
end Go.Proofs.Ythbmgpkocbabeaa
