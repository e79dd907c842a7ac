import Derived.Test.YtbpjjepiblomaaaGL51
namespace Go.GL
set_option linter.unusedVariables false
set_option linter.unusedSimpArgs false
def ex30 : Fm := ⟨3, [⟨3, 0, [0, 1]⟩, ⟨2, 0, [2, 3]⟩], 4⟩
def ex30o : Fm := ⟨4, [⟨2, 0, [2, 3]⟩], 4⟩
def ex30i : Fm := ⟨3, [⟨3, 0, [0, 1]⟩], 3⟩
theorem ex30_good : ex30.Good := (Fm.good_iff _).1 (by decide)
theorem ex30o_good : ex30o.Good := (Fm.good_iff _).1 (by decide)
theorem ex30i_good : ex30i.Good := (Fm.good_iff _).1 (by decide)
theorem ex30_cut : ex30.cutErr 3 = none := by decide
theorem Fm.eq3 {F G : Fm} (h1 : F.vars = G.vars) (h2 : F.nodes.map (fun d => (d.kind, d.k, d.args)) = G.nodes.map (fun d => (d.kind, d.k, d.args))) (h3 : F.top = G.top) : F = G := by
  obtain ⟨a, b, c⟩ := F
  obtain ⟨a', b', c'⟩ := G
  simp only at h1 h2 h3
  subst h1 h3
  refine congrArg (fun z => Fm.mk a z c) ?_
  have : Function.Injective (fun d : Nd => (d.kind, d.k, d.args)) := by
    rintro ⟨x1, x2, x3⟩ ⟨y1, y2, y3⟩ h
    simp at h
    obtain ⟨rfl, rfl, rfl⟩ := h
    rfl
  exact List.map_inj_right this |>.1 h2
theorem ex30_out : ex30.outF 3 = ex30o := Fm.eq3 (by decide) (by decide) (by decide)
theorem ex30_in : ex30.inF 3 = ex30i := Fm.eq3 (by decide) (by decide) (by decide)
theorem ex30_pe : ex30o.putErr ex30i = none := by decide
theorem ex30_put : ex30o.putF ex30i = ex30 := Fm.eq3 (by decide) (by decide) (by decide)
theorem wrong10 (t : Bool) {arg : Int} (h : arg < 4 ∨ 7 < arg) : (exF29 t).cutErr arg = some 10 := by
  have he := (Fm.good_iff _).2 (exF29_good t)
  have hn : (exF29 t).needAt arg = false := by
    unfold Fm.needAt
    rcases h with h | h
    · rw [decide_eq_false (show ¬ (exF29 t).vars ≤ arg from by simp only [exF29]; omega)]; rfl
    · rw [decide_eq_false (show ¬ arg < (exF29 t).vars + (exF29 t).nodes.length from by simp only [exF29, List.length_cons, List.length_nil]; omega)]; simp
  unfold Fm.cutErr Fm.isErr
  rw [he, hn]
  rfl
theorem wrongNil : (exF29 true).cutErr 4 = none := by decide
theorem wrong7 (t : Bool) {arg : Int} (h4 : 4 ≤ arg) (h7 : arg ≤ 7) (h : ¬ (t = true ∧ arg = 4)) : (exF29 t).cutErr arg = some 7 := by
  rcases (show arg = 4 ∨ arg = 5 ∨ arg = 6 ∨ arg = 7 by omega) with rfl | rfl | rfl | rfl <;> cases t <;> first | decide | exact absurd ⟨rfl, rfl⟩ h
end Go.GL
