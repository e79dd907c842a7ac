import Derived.Test.YtffghipagnjggaaGL86
namespace Go.GL
set_option linter.unusedVariables false
set_option linter.unusedSimpArgs false
def Fm.heavy27 (F : Fm) : Bool := decide ((300 : Int) < F.nodes.length) || decide (4000 < argSumI F.nodes)
def exV27 : Fm := ⟨3, [⟨4, 2, [0, 1, 2]⟩], 3⟩
def exX27 : Fm := ⟨2, [⟨5, 0, [0, 1]⟩], 2⟩
def exW27 : Fm := ⟨3, [⟨3, 0, [1, 2]⟩, ⟨2, 0, [0, 3]⟩, ⟨2, 0, [1, 2]⟩, ⟨3, 0, [4, 5]⟩], 6⟩
def exY27 : Fm := ⟨2, [⟨1, 0, [1]⟩, ⟨2, 0, [0, 2]⟩, ⟨1, 0, [0]⟩, ⟨2, 0, [4, 1]⟩, ⟨3, 0, [3, 5]⟩], 6⟩
theorem exV27_good : exV27.Good := (Fm.good_iff _).1 (by decide)
theorem exX27_good : exX27.Good := (Fm.good_iff _).1 (by decide)
theorem exV27_f : exV27.expF 0 = exW27 := by decide +kernel
theorem exV27_e : exV27.expE 0 = none := by decide +kernel
theorem exX27_f : exX27.expF 1 = exY27 := by decide +kernel
theorem exX27_e : exX27.expE 1 = none := by decide +kernel
theorem plainF_ok (F : Fm) : F.plainF.ok := by
  unfold Fm.plainF
  cases F.expE 0 with
  | some e => exact zero_ok
  | none => exact expF_ok _ _
def NewNum (F : Fm) (e : Option Int) (H : List Ent) : Value → List Ent → Prop := fun u H' =>
  ∃ a c N, u = .tuple (List.toArray [.agg (List.toArray [.int .i64 F.vars, slV a 0 F.nodes.length c, .int .i64 F.top]), .int .i64 (e.getD 0)]) ∧ RNodes N a 0 F.nodes ∧ N ++ H = H'
theorem sub_app2 {H H' N M : List Ent} (s : H.Sublist H') : Le (M ++ (N ++ H')) ((M ++ N) ++ H) := by
  rw [List.append_assoc]
  exact Le.sub ((List.Sublist.refl M).append ((List.Sublist.refl N).append s))
end Go.GL
