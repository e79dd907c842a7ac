import Derived.Test.YtbpjjepiblomaaaGL56
import Derived.Test.YtbpjjepiblomaaaGL36
namespace Go.GL
set_option linter.unusedVariables false
set_option linter.unusedSimpArgs false
def fmCells (F : Fm) (q : SA) : List Value := [.int .i64 F.vars, slV q.1 q.2.1 F.nodes.length q.2.2.1 q.2.2.2, .int .i64 F.top]
def fsCells : List Fm → List SA → List Value
  | F :: r, q :: s => fmCells F q ++ fsCells r s
  | _, _ => []
theorem fsCells_get : ∀ (ns : List Fm) (qs : List SA) (i : Nat) (d : Fm) (q : SA), ns[i]? = some d → qs[i]? = some q → ∀ j v, (fmCells d q)[j]? = some v → (fsCells ns qs)[i * 3 + j]? = some v
  | [], qs, i, d, q, h, _, j, v, _ => by simp at h
  | d :: r, [], i, d', q, _, h, j, v, _ => by simp at h
  | d :: r, q :: s, 0, d', q', h1, h2, j, v, hj => by
    simp at h1 h2
    subst h1 h2
    have hjl : j < (fmCells d q).length := (List.getElem?_eq_some_iff.1 hj).1
    rw [fsCells, Nat.zero_mul, Nat.zero_add, List.getElem?_append_left hjl]
    exact hj
  | d :: r, q :: s, i + 1, d', q', h1, h2, j, v, hj => by
    have ih := fsCells_get r s i d' q' (by simpa using h1) (by simpa using h2) j v hj
    rw [fsCells, List.getElem?_append_right (by simp [fmCells]; omega)]
    rw [show (i + 1) * 3 + j - (fmCells d q).length = i * 3 + j by simp [fmCells]; omega]
    exact ih
theorem fsCells_length : ∀ (ns : List Fm) (qs : List SA), qs.length = ns.length → (fsCells ns qs).length = ns.length * 3
  | [], [], _ => rfl
  | [], q :: s, h => by simp at h
  | d :: r, [], h => by simp at h
  | d :: r, q :: s, h => by
    have := fsCells_length r s (by simpa using h)
    simp [fsCells, this, fmCells]
    omega
theorem fsCells_snoc : ∀ (ns : List Fm) (qs : List SA) (d : Fm) (q : SA), qs.length = ns.length → fsCells (ns ++ [d]) (qs ++ [q]) = fsCells ns qs ++ fmCells d q
  | [], [], d, q, _ => by simp [fsCells]
  | [], q' :: s, d, q, h => by simp at h
  | d' :: r, [], d, q, h => by simp at h
  | d' :: r, q' :: s, d, q, h => by
    have := fsCells_snoc r s d q (by simpa using h)
    simp [fsCells, this]
def FsIn (H : List Ent) (ns : List Fm) (qs : List SA) : Prop := qs.length = ns.length ∧ ∀ (i : Nat) (d : Fm) (q : SA), ns[i]? = some d → qs[i]? = some q → RNodes H q.1 q.2.1 d.nodes q.2.2.2
theorem FsIn.nil {H : List Ent} : FsIn H [] [] := ⟨rfl, fun i d q h => by simp at h⟩
theorem FsIn.le {H H' : List Ent} {ns qs} (h : FsIn H ns qs) (hl : Le H' H) : FsIn H' ns qs := ⟨h.1, fun i d q h1 h2 => RNodes.le (h.2 i d q h1 h2) hl⟩
theorem FsIn.snoc {H : List Ent} {ns qs} {d : Fm} {q : SA} (h : FsIn H ns qs) (hd : RNodes H q.1 q.2.1 d.nodes q.2.2.2) : FsIn H (ns ++ [d]) (qs ++ [q]) := by
  refine ⟨by simp [h.1], fun i d' q' h1 h2 => ?_⟩
  have hl := h.1
  rcases Nat.lt_or_ge i ns.length with hi | hi
  · rw [List.getElem?_append_left hi] at h1
    rw [List.getElem?_append_left (by omega)] at h2
    exact h.2 i d' q' h1 h2
  · rw [List.getElem?_append_right hi] at h1
    rw [List.getElem?_append_right (by omega), hl] at h2
    have h0 : i - ns.length = 0 := by
      have := (List.getElem?_eq_some_iff.1 h1).1
      simp at this; omega
    rw [h0] at h1 h2
    simp at h1 h2
    subst h1 h2
    exact hd
theorem RFs.ofA {H : List Ent} {a : Option Nat} {E cap : Nat} {ns : List Fm} {qs : List SA} (hm : row a E 3 cap (fsCells ns qs) ∈ H) (h : FsIn H ns qs) (ha : ns ≠ [] → ∃ b, a = some b) : RFs H a 0 ns := by
  by_cases hn : ns = []
  · exact .inl hn
  · obtain ⟨b, rfl⟩ := ha hn
    refine .inr ⟨b, rfl, rfl, fun i hi => ?_⟩
    have hl := h.1
    have hq : qs[i]? = some qs[i] := List.getElem?_eq_getElem (by omega)
    have hd : ns[i]? = some ns[i] := List.getElem?_eq_getElem hi
    refine ⟨qs[i].1, qs[i].2.1, qs[i].2.2.1, qs[i].2.2.2, Rd.ofRow hm _ _ (fun j v hj => ?_), h.2 i _ _ hd hq⟩
    rw [Nat.zero_add]
    exact fsCells_get ns qs i _ qs[i] hd hq j v hj
theorem Le.outC {N R : List Ent} {f1 f2 g1 g2 a b c : Ent} : Le (f1 :: f2 :: g1 :: g2 :: (N ++ (a :: b :: c :: R))) (g1 :: g2 :: b :: c :: (N ++ R)) :=
  (Le.drop (Le.drop (Le.refl _))).trans ((Le.perm (List.Perm.cons _ (List.Perm.cons _ (List.perm_middle.trans (List.Perm.cons _ (List.perm_middle.trans (List.Perm.cons _ List.perm_middle))))))).trans (Le.sub (List.Sublist.cons_cons _ (List.Sublist.cons_cons _ (List.sublist_cons_self _ _)))))
def levF : Nat → Fm → List Fm → List Fm × Option Int
  | 0, F, acc => (acc ++ [F], none)
  | n + 1, F, acc => match F.proper with
    | [] => (acc ++ [F], none)
    | p :: _ => match F.cutErr (p : Int) with
      | some e => ([], some e)
      | none => levF n (F.outF (p : Int)) (acc ++ [F.inF (p : Int)])
theorem proper_mem {F : Fm} (hg : F.Good) {p : Nat} (h : p ∈ F.proper) : ∃ q, q < F.nodes.length ∧ p = F.vars.toNat + q ∧ F.below.getD (F.vars.toNat + q) false = true ∧ F.isMod (F.vars.toNat + q) = true ∧ (p : Int) ≠ F.top := by
  unfold Fm.proper at h
  rw [List.mem_filter] at h
  obtain ⟨q, h1, h2, h3, h4⟩ := Fm.mem_find.1 h.1
  have h5 := h.2
  unfold Fm.proper1 at h5
  simp only [Bool.and_eq_true, decide_eq_true_eq] at h5
  exact ⟨q, h1, h4, h2, h3, h5.1⟩
theorem proper_cut {F : Fm} (hg : F.Good) {p : Nat} (h : p ∈ F.proper) : (F.vars = 24 ∧ F.cutErr (p : Int) = some 4) ∨ (F.vars < 24 ∧ F.cutErr (p : Int) = none ∧ (F.outF (p : Int)).Good ∧ (F.inF (p : Int)).Good ∧ (F.outF (p : Int)).vars = F.vars + 1 ∧ (F.inF (p : Int)).vars = F.vars) := by
  obtain ⟨q, hq, rfl, hb, hm, hne⟩ := proper_mem hg h
  have g1 := hg.v1; have g0 := hg.v0
  by_cases h24 : F.vars = 24
  · refine .inl ⟨h24, ?_⟩
    have hen := (Fm.good_iff F).2 hg
    have hnd : F.needAt ((F.vars.toNat + q : Nat) : Int) = true := by
      unfold Fm.needAt
      rw [decide_eq_true (by omega), decide_eq_true (by omega), Int.toNat_natCast, hb]; rfl
    have hib : F.isB ((F.vars.toNat + q : Nat) : Int) = true := by
      unfold Fm.isB
      rw [hen, hnd, Int.toNat_natCast, hm]; rfl
    unfold Fm.cutErr Fm.isErr
    rw [hen, hnd, hib]
    simp only [cond_true]
    rw [if_neg (fun h => by rcases h with h | h; (cases h); exact hne h), if_pos h24]
  · have hc := cutErr_mod hg (by omega) hq hb hm
    rw [if_neg hne] at hc
    have hout : F.outF ((F.vars.toNat + q : Nat) : Int) = F.outer (F.vars.toNat + q) := by unfold Fm.outF; rw [hc, Int.toNat_natCast]; rfl
    have hin : F.inF ((F.vars.toNat + q : Nat) : Int) = F.inner (F.vars.toNat + q) := by unfold Fm.inF; rw [hc, Int.toNat_natCast]; rfl
    refine .inr ⟨by omega, hc, ?_⟩
    rw [hout, hin]
    exact ⟨outer_good hg (by omega) hq hm, inner_good hg hq, rfl, rfl⟩
end Go.GL
