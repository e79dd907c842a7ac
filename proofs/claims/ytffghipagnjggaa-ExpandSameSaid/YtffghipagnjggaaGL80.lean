import Derived.Test.YtffghipagnjggaaGL79
namespace Go.GL
set_option linter.unusedVariables false
set_option linter.unusedSimpArgs false
def swapC (a : Int) : Int := if a = -1 then -2 else if a = -2 then -1 else a
def rcst (b : Bool) : Int := if b then -2 else -1
theorem swapC_cst (b : Bool) : swapC (cst b) = rcst b := by cases b <;> rfl
theorem swapC_id {a : Int} (h1 : a ≠ -1) (h2 : a ≠ -2) : swapC a = a := by unfold swapC; rw [if_neg h1, if_neg h2]
theorem swapC_pos {a : Int} (h : 0 ≤ a) : swapC a = a := swapC_id (by omega) (by omega)
theorem swapC_m1 {a : Int} : swapC a = -1 ↔ a = -2 := by unfold swapC; (repeat' split) <;> omega
theorem swapC_m2 {a : Int} : swapC a = -2 ↔ a = -1 := by unfold swapC; (repeat' split) <;> omega
theorem restOf_swap (A : List Int) : restOf (A.map swapC) = restOf A := by
  unfold restOf
  induction A with
  | nil => rfl
  | cons a r ih =>
    rw [List.map_cons, List.filter_cons, List.filter_cons, ih]
    by_cases h1 : a = -1
    · subst h1; simp [swapC]
    · by_cases h2 : a = -2
      · subst h2; simp [swapC]
      · rw [swapC_id h1 h2]
theorem cnt1_swap (A : List Int) : cntC (-1) (A.map swapC) = cntC (-2) A := by
  unfold cntC
  rw [List.countP_map]
  refine List.countP_congr fun a _ => ?_
  simp only [Function.comp, decide_eq_true_eq]
  exact swapC_m1
theorem cnt2_swap (A : List Int) : cntC (-2) (A.map swapC) = cntC (-1) A := by
  unfold cntC
  rw [List.countP_map]
  refine List.countP_congr fun a _ => ?_
  simp only [Function.comp, decide_eq_true_eq]
  exact swapC_m2
theorem getD_swap (T : List Int) (i : Nat) : (T.map swapC).getD i 0 = swapC (T.getD i 0) := by
  rw [List.getD_eq_getElem?_getD, List.getD_eq_getElem?_getD, List.getElem?_map]
  cases T[i]? <;> rfl
theorem trI_swap (T xs : List Int) : trI (T.map swapC) xs = (trI T xs).map swapC := by
  unfold trI
  rw [List.map_map]
  exact List.map_congr_left fun a _ => getD_swap T a.toNat
theorem evI_swap (k : Nat) : (evI k).map swapC = evI k := by
  unfold evI
  rw [List.map_map]
  exact List.map_congr_left fun a _ => swapC_pos (Int.natCast_nonneg a)
def foldR (v : Int) (d : Nd) (rest : List Int) (t : Nat) (ns : List Nd) : List Nd × Int :=
  let s : List Nd × Int := if 1 < rest.length then (ns ++ [⟨d.kind, if d.kind = 4 then d.k - t else 0, rest⟩], v + ns.length) else (ns, rest.getD 0 0)
  if d.kind = 5 ∧ t % 2 = 1 then (s.1 ++ [⟨1, 0, [s.2]⟩], v + s.1.length) else s
theorem foldG_R {v : Int} {d : Nd} {rest : List Int} {t : Nat} {ns : List Nd} (h : rest.length ≠ 0) (hk : d.kind ≠ 5) : foldG v d rest t ns = foldR v d rest t ns := by
  unfold foldG foldR
  dsimp only
  rw [if_neg (c := d.kind = 5 ∧ t % 2 = 1) (fun h => hk h.1)]
  by_cases h1 : rest.length = 1
  · rw [if_pos h1, if_neg (by omega)]
  · rw [if_neg h1, if_pos (show 1 < rest.length by omega)]
    by_cases h4 : d.kind = 4
    · rw [if_pos h4, if_pos h4, h4]
    · rw [if_neg h4, if_neg h4]
theorem foldX_R {v : Int} {d : Nd} {rest : List Int} {t : Nat} {ns : List Nd} (hk : d.kind = 5) : foldX v rest t ns = foldR v d rest t ns := by
  unfold foldX foldR
  dsimp only
  rw [if_neg (c := d.kind = 4) (by omega), hk]
  by_cases h : t % 2 = 1
  · rw [if_pos h, if_pos (c := (5 : Int) = 5 ∧ t % 2 = 1) ⟨rfl, h⟩]
  · rw [if_neg h, if_neg (c := (5 : Int) = 5 ∧ t % 2 = 1) (fun x => h x.2)]
section
variable {T TN : TypeId} {b3 bo : Nat} {v t : Int} {hdr : List Value} {ns : List Nd} {s : BS} {HB : List Ent} {e6 e4 : Ent}
theorem bldH_fold : Le (e6 :: e4 :: row (some b3) T 3 1 [.int .i64 v, slV s.oa 0 ns.length s.cap, .int .i64 t] :: bldH T TN bo hdr ns s HB) (bld T TN b3 v ns t s (e6 :: e4 :: row (some bo) T 3 1 hdr :: HB)) := by
  refine Le.trans ?_ bld_in
  refine Le.trans (Le.perm (List.Perm.cons _ ?_)) (Le.refl _)
  refine List.Perm.trans ?_ (show (e4 :: bld T TN b3 v ns t s (row (some bo) T 3 1 hdr :: HB)).Perm (bld T TN b3 v ns t s (e4 :: row (some bo) T 3 1 hdr :: HB)) from ?_)
  · refine List.Perm.cons _ ?_
    unfold bld bldH
    refine List.Perm.cons _ ?_
    exact (List.Perm.swap _ _ _).trans (List.Perm.cons _ List.perm_middle.symm)
  · unfold bld
    exact (List.Perm.swap _ _ _).trans (List.Perm.cons _ ((List.Perm.swap _ _ _).trans (List.Perm.cons _ List.perm_middle.symm)))
theorem bldH_unfold {hdr3 : List Value} : Le (bldH T TN b3 hdr3 ns s (e6 :: e4 :: row (some bo) T 3 1 hdr :: HB)) (bldH T TN bo hdr ns s HB) := by
  have h1 : Le (bldH T TN b3 hdr3 ns s (e6 :: e4 :: row (some bo) T 3 1 hdr :: HB)) (bldH T TN b3 hdr3 ns s (row (some bo) T 3 1 hdr :: HB)) :=
    Le.sub (List.Sublist.cons_cons _ (List.Sublist.cons_cons _ ((List.Sublist.refl _).append (List.Sublist.cons _ (List.sublist_cons_self _ _)))))
  refine h1.trans ?_
  unfold bldH
  refine (Le.drop (Le.refl _)).trans (Le.perm ?_)
  exact (List.Perm.cons _ List.perm_middle).trans (List.Perm.swap _ _ _)
theorem bldH_drop {hdr3 : List Value} {e : Ent} : Le (bldH T TN b3 hdr3 ns s (e :: HB)) (bldH T TN b3 hdr3 ns s HB) :=
  Le.sub (List.Sublist.cons_cons _ (List.Sublist.cons_cons _ ((List.Sublist.refl _).append (List.sublist_cons_self _ _))))
end
end Go.GL
