/- The statement WholeCompare holds: called with any two formulas and any split tree, in whatever memory, it returns true and changes nothing that was there. No condition beyond the row's own. -/
import Derived.Test.YthehdjppejmfcaaWI
import Derived.Test.YthehdjppejmfcaaRows
import Derived.WalkKit
import Derived.ShutString
namespace Go.Proofs.Ythehdjppejmfcaa.wholeCompareDone
open Go.ChangeShapes Go.WideShapes Go.ChangeAt Go.RowKit Go.GL Go.Joins
set_option linter.unusedVariables false
theorem own : ownKnob Try.prog.godebug = none := by kernel_rfl
theorem laidOut : laidOutB Try.prog = true := by kernel_rfl
set_option maxRecDepth 100000 in
theorem lifted (os : Os) (started : os.Started) (H : Type) (enc : TypeId × Value → H) :
    ReturnsInHanded {} Try.checked os 3 .any (Rows.wholeCompareSpec.pre6 enc Try.prog Try.f3 Rows.wholeCompareRow.domain false) (Rows.wholeCompareSpec.post enc Try.prog Try.f3 false true false false) := by
  refine returnsInHanded_of_change (C := Try.checked) own started (by kernel_rfl) Try.func3
    (ChangeSpec.witness6 (enc := enc) (C := Try.checked) false ⟨#[], #[.agg #[.int .i64 0, .slice none 0 0, .int .i64 0], .agg #[.int .i64 0, .slice none 0 0, .int .i64 0], .agg #[.int .i64 0, .slice none 0 0, .int .i64 0]], []⟩ 8 (by kernel_rfl) (by kernel_rfl) (by kernel_rfl) (by kernel_rfl)) ?_
  intro W base args ds gs before hval0 hW hcnd _
  have hval : ∀ (j : Nat) t v, Try.f3.params[j]? = some t → args[j]? = some v → Value.okWide Try.prog W .any base t v := hval0
  have hW' := hW
  obtain ⟨p, q, hA0, hV, rfl, hfz, hnd⟩ := hW
  have hA : DataW.TrodAll enc Try.prog W 0 (fun _ => true) true Try.f3.params.toList args.toList ds p := hA0
  rw [Try.params3] at hA hval
  obtain ⟨v0, vs0, d0, ds0, p0, q0, hargs, rfl, rfl, h0, r0⟩ := trodAll_cons hA
  obtain ⟨v1, vs1, d1, ds1, p1, q1, rfl, rfl, rfl, h1, r1⟩ := trodAll_cons r0
  obtain ⟨v2, vs2, d2, ds2, p2, q2, rfl, rfl, rfl, h2, r2⟩ := trodAll_cons r1
  obtain ⟨rfl, rfl, rfl⟩ := trodAll_nil r2
  obtain rfl : args = #[v0, v1, v2] := by cases args; simp_all
  obtain ⟨rfl, rfl⟩ := trodVars_none hV
  have k0 := h0
  have lt0 : ∀ x ∈ p0, x.block < W.heap.size := by obtain ⟨m, hm⟩ := k0; exact DataW.trod_lt m _ _ _ hm
  obtain ⟨c00, c01, c02, y00, y01, y02, n0, rfl, _, _, t00, t01, t02⟩ := open_agg3 Try.underlying24 (by kernel_rfl) (by kernel_rfl) (hval 0 24 v0 rfl rfl) h0
  obtain ⟨F0, hk0, hF0⟩ := open_formulaC (w := W) Try.underlying22 Try.underlying102 (by kernel_rfl) (by kernel_rfl) rfl rfl rfl Try.underlying53 Try.underlying3 (by kernel_rfl) t00 t01 t02
  have k1 := h1
  have lt1 : ∀ x ∈ p1, x.block < W.heap.size := by obtain ⟨m, hm⟩ := k1; exact DataW.trod_lt m _ _ _ hm
  obtain ⟨c10, c11, c12, y10, y11, y12, n1, rfl, _, _, t10, t11, t12⟩ := open_agg3 Try.underlying24 (by kernel_rfl) (by kernel_rfl) (hval 1 24 v1 rfl rfl) h1
  obtain ⟨F1, hk1, hF1⟩ := open_formulaC (w := W) Try.underlying22 Try.underlying102 (by kernel_rfl) (by kernel_rfl) rfl rfl rfl Try.underlying53 Try.underlying3 (by kernel_rfl) t10 t11 t12
  have k2 := h2
  have lt2 : ∀ x ∈ p2, x.block < W.heap.size := by obtain ⟨m, hm⟩ := k2; exact DataW.trod_lt m _ _ _ hm
  obtain ⟨c20, c21, c22, y20, y21, y22, n2, rfl, _, _, t20, t21, t22⟩ := open_agg3 Try.underlying27 (by kernel_rfl) (by kernel_rfl) (hval 2 27 v2 rfl rfl) h2
  obtain ⟨x2, qa2, _, wx2⟩ := DataW.trod_int Try.underlying3 t20
  obtain ⟨z2, qb2, _, wz2⟩ := DataW.trod_int Try.underlying3 t22
  simp only [List.cons.injEq, and_true] at qa2 qb2
  subst qa2 qb2
  obtain ⟨ks2, ka2, ko2, kc2, ksp2, rfl, rk2⟩ := open_kids (w := W) Try.underlying27 (by kernel_rfl) (by kernel_rfl) rfl rfl rfl Try.underlying25 Try.underlying3 (by kernel_rfl) _ t21
  clear hA0 hval0
  refine (wholeCompare_g (T := .mk x2 z2 ks2) hF0 hk0 hF1 hk1 rk2 W (base_mem W)).mono fun e W' h => ?_
  obtain ⟨v, H', ⟨rfl, rfl⟩, rfl, hM⟩ := h
  have bel := base_below hM
  exact ⟨_, rfl, _, _, _, [], _, [], hW', trodAll_mk1 (shut_bool Try.underlying4 _), (trodAll_cons_mk (Below.trod laidOut (by kernel_rfl) (of_decide_eq_true (by kernel_rfl)) k0 bel lt0) (trodAll_cons_mk (Below.trod laidOut (by kernel_rfl) (of_decide_eq_true (by kernel_rfl)) k1 bel lt1) (trodAll_cons_mk (Below.trod laidOut (by kernel_rfl) (of_decide_eq_true (by kernel_rfl)) k2 bel lt2) trodAll_mk0))), rfl, bel.frame _, fun h => by cases h⟩
theorem over : Rows.wholeCompareRow.holds Try.pinned (OpenSpec.ofChange Rows.wholeCompareSpec) :=
  OpenClaim.holds_of_wide 3 Try.f3 rfl rfl rfl rfl rfl rfl rfl ⟨rfl, rfl, rfl, rfl, rfl⟩ rfl rfl rfl rfl rfl (by kernel_rfl) Try.func3 (by kernel_rfl)
    (of_decide_eq_true (by kernel_rfl)) (by unfold Func.isWrapper; first | (rw [if_pos (by decide +kernel)]; kernel_rfl) | (rw [if_neg (by decide +kernel)]; exact ⟨rfl, rfl⟩))
    (fun os started H enc _ => lifted os started H enc)
theorem proved : Rows.WholeCompareSaid := over
end Go.Proofs.Ythehdjppejmfcaa.wholeCompareDone
