import Derived.Test.YtffghipagnjggaaGL78
namespace Go.GL
set_option linter.unusedVariables false
set_option linter.unusedSimpArgs false
theorem ngI_getD {v k i : Nat} (hi : i < k) : (ngI v k).getD i 0 = (v : Int) + i := by
  unfold ngI
  rw [List.getD_eq_getElem?_getD, List.getElem?_map, List.getElem?_range hi]
  rfl
theorem ng_val {v : Nat} {x : Int} : ∀ k, k ≤ v → ∀ j, j < k → VB (events v x) (ngN k) ((v : Int) + j) = !bitB x j
  | 0, _, j, hj => by omega
  | k + 1, hk, j, hj => by
    have he : (events v x).length = v := events_length v x
    rw [ngN_succ]
    by_cases h : j < k
    · rw [VB_old he ⟨by omega, by rw [ngN_length]; omega⟩]
      exact ng_val k (by omega) j h
    · obtain rfl : j = k := by omega
      have := VB_new (es := events v x) (ns := ngN j) he (d := ⟨1, 0, [(j : Int)]⟩)
      rw [ngN_length] at this
      rw [this, nv1 rfl]
      show decide (((cnt (valsFrom (events v x) (ngN j)) [(j : Int)] : Nat) : Int) = 0) = _
      rw [cnt_one, VB_event (by omega)]
      cases bitB x j <;> rfl
theorem ng_kind {v : Nat} : ∀ d ∈ ngN v, d.kind ≠ 5 ∧ (d.kind = 1 → ∃ i : Nat, i < v ∧ d.args = [(i : Int)]) := by
  intro d hd
  obtain ⟨i, hi, rfl⟩ := List.mem_map.1 hd
  exact ⟨by simp, fun _ => ⟨i, List.mem_range.1 hi, rfl⟩⟩
theorem pushS_law {F : Fm} (hg : F.Good) {v : Nat} (hv : F.vars = v) (x : Int) : ∀ k, k ≤ F.nodes.length →
    (∀ d ∈ (pushS v F.nodes k).2.2, d.kind ≠ 5 ∧ (d.kind = 1 → ∃ i : Nat, i < v ∧ d.args = [(i : Int)])) ∧
    ∀ j, j < v + k → VB (events v x) (pushS v F.nodes k).2.2 ((pushS v F.nodes k).1.getD j 0) = F.val x j ∧ VB (events v x) (pushS v F.nodes k).2.2 ((pushS v F.nodes k).2.1.getD j 0) = !F.val x j
  | 0, _ => by
    have hvn : F.vars.toNat = v := by omega
    refine ⟨ng_kind, fun j hj => ?_⟩
    have hj' : j < v := hj
    show VB (events v x) (ngN v) ((evI v).getD j 0) = _ ∧ VB (events v x) (ngN v) ((ngI v v).getD j 0) = _
    rw [evI_getD hj', ngI_getD hj', VB_event hj', ng_val v (Nat.le_refl _) j hj', F.val_event x (by omega)]
    exact ⟨rfl, rfl⟩
  | k + 1, hk => by
    have hvn : F.vars.toNat = v := by omega
    obtain ⟨h0, h3⟩ := pushS_law hg hv x k (by omega)
    obtain ⟨h1, hP, hN⟩ := pushS_in hg hv k (by omega)
    have hkn : k < F.nodes.length := by omega
    have hfit := hg.fits k hkn
    rw [hv] at hfit
    have hl := pushS_len (v := v) (fun i hi => (hg.fits i hi).len) k (by omega)
    have hd : F.nodes.getD k ⟨0, 0, []⟩ = F.nodes[k] := by simp [hkn]
    have hes : (events v x).length = v := events_length v x
    obtain ⟨b1, b2, r, hr, hrk⟩ := pushN_law (m := v + k) hes h1 hP hN (by rw [Int.natCast_add]; exact hfit) hl.1 hl.2.1 (f := F.val x) (fun a ha => h3 a.toNat (by have := hg.argLt hkn a ha; omega))
    simp only [pushS]
    rw [hd]
    refine ⟨fun d hdm => ?_, fun j hj => ?_⟩
    · rw [hr] at hdm
      rcases List.mem_append.1 hdm with h | h
      · exact h0 d h
      · exact ⟨(hrk d h).2, fun h1 => absurd h1 (hrk d h).1⟩
    · by_cases hjk : j < v + k
      · have e1 : ((pushS v F.nodes k).1 ++ [(pushN v (pushS v F.nodes k).1 (pushS v F.nodes k).2.1 F.nodes[k] (pushS v F.nodes k).2.2).2.1]).getD j 0 = (pushS v F.nodes k).1.getD j 0 := by
          rw [List.getD_eq_getElem?_getD, List.getElem?_append_left (by omega), ← List.getD_eq_getElem?_getD]
        have e2 : ((pushS v F.nodes k).2.1 ++ [(pushN v (pushS v F.nodes k).1 (pushS v F.nodes k).2.1 F.nodes[k] (pushS v F.nodes k).2.2).2.2]).getD j 0 = (pushS v F.nodes k).2.1.getD j 0 := by
          rw [List.getD_eq_getElem?_getD, List.getElem?_append_left (by omega), ← List.getD_eq_getElem?_getD]
        rw [e1, e2, hr, VB_old hes (getD_in hP (by omega)), VB_old hes (getD_in hN (by omega))]
        exact h3 j hjk
      · obtain rfl : j = v + k := by omega
        have e1 : ((pushS v F.nodes k).1 ++ [(pushN v (pushS v F.nodes k).1 (pushS v F.nodes k).2.1 F.nodes[k] (pushS v F.nodes k).2.2).2.1]).getD (v + k) 0 = (pushN v (pushS v F.nodes k).1 (pushS v F.nodes k).2.1 F.nodes[k] (pushS v F.nodes k).2.2).2.1 := by
          rw [List.getD_eq_getElem?_getD, List.getElem?_append_right (by omega), hl.1, Nat.sub_self]; rfl
        have e2 : ((pushS v F.nodes k).2.1 ++ [(pushN v (pushS v F.nodes k).1 (pushS v F.nodes k).2.1 F.nodes[k] (pushS v F.nodes k).2.2).2.2]).getD (v + k) 0 = (pushN v (pushS v F.nodes k).1 (pushS v F.nodes k).2.1 F.nodes[k] (pushS v F.nodes k).2.2).2.2 := by
          rw [List.getD_eq_getElem?_getD, List.getElem?_append_right (by omega), hl.2.1, Nat.sub_self]; rfl
        have hn := Fm.val_node hg x hkn
        rw [hvn] at hn
        rw [e1, e2, hn]
        exact ⟨b1, b2⟩
theorem push_res {F : Fm} (hg : F.Good) : (F.pushE = none ∨ F.pushE = some 4) ∧ (F.pushE = none → F.pushF.Good ∧ F.pushF.vars = F.vars ∧ (∀ x, F.pushF.value x = F.value x) ∧
    ∀ d ∈ F.pushF.nodes, d.kind ≠ 5 ∧ (d.kind = 1 → ∃ a : Int, d.args = [a] ∧ a < F.vars)) := by
  have he := (Fm.good_iff F).2 hg
  have g0 := hg.v0; have gt := hg.topLt
  obtain ⟨v, hv⟩ := Int.eq_ofNat_of_zero_le g0
  have hvn : F.vars.toNat = v := by omega
  have hE : F.pushE = sizedE F.pushB.trim := by unfold Fm.pushE; rw [he]
  have hF : F.pushF = sizedF F.pushB.trim := by unfold Fm.pushF; rw [he]
  rw [hE, hF]
  refine ⟨sizedE_cases _, fun h => ?_⟩
  have hl := sizedE_none h
  rw [sizedF_of hl]
  have hB := pushB_fit hg
  have hfit := Fit.Fm.trim_good hB
  refine ⟨hfit.good hl, rfl, fun x => ?_, fun d hd => ?_⟩
  · have h := ((pushS_law hg hv x F.nodes.length (Nat.le_refl _)).2 F.top.toNat (by omega)).1
    rw [Fm.value_eq, F.pushB.trim_top, Int.toNat_natCast, Fit.Fm.trim_val hB x _ (Fit.Fm.below_top hB), Fm.value_eq, ← h]
    unfold Fm.pushB Fm.val Fm.values VB
    rw [hvn]
  · obtain ⟨i, hi, rfl⟩ := List.getElem_of_mem hd
    obtain ⟨k, hk, _, _, he⟩ := Fit.Fm.trim_fits hB hi
    rw [he]
    have hm : F.pushB.nodes[k] ∈ (pushS v F.nodes F.nodes.length).2.2 := by
      have : F.pushB.nodes = (pushS v F.nodes F.nodes.length).2.2 := by unfold Fm.pushB; rw [hvn]
      rw [← this]
      exact List.getElem_mem _
    obtain ⟨k1, k2⟩ := (pushS_law hg hv 0 F.nodes.length (Nat.le_refl _)).1 _ hm
    refine ⟨k1, fun h1 => ?_⟩
    obtain ⟨j, hj, ha⟩ := k2 h1
    refine ⟨(j : Int), ?_, by omega⟩
    show (F.pushB.nodes[k]).args.map (fun a => ((F.pushB.ro a.toNat : Nat) : Int)) = _
    rw [ha]
    show [((F.pushB.ro ((j : Int).toNat) : Nat) : Int)] = _
    rw [Int.toNat_natCast, F.pushB.ro_event (show j < F.pushB.vars.toNat by show j < F.vars.toNat; omega)]
end Go.GL
