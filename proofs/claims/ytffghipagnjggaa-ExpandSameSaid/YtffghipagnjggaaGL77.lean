import Derived.Test.YtffghipagnjggaaGL76
namespace Go.GL
set_option linter.unusedVariables false
set_option linter.unusedSimpArgs false
theorem fold_res {D : Fm} (hg : D.Good) : (D.foldE = none ∨ D.foldE = some 4) ∧ (D.foldE = none → D.foldF.Good ∧ D.foldF.vars = D.vars ∧ (∀ x, D.foldF.value x = D.value x) ∧ (1 < D.foldF.nodes.length → ∀ d ∈ D.foldF.nodes, d.kind ≠ 0)) := by
  have he := (Fm.good_iff D).2 hg
  have hE : D.foldE = if D.foldT = -1 ∨ D.foldT = -2 then none else sizedE D.foldB.trim := by unfold Fm.foldE; rw [he]
  have hF : D.foldF = if D.foldT = -1 ∨ D.foldT = -2 then D.foldC else sizedF D.foldB.trim := by unfold Fm.foldF; rw [he]
  by_cases hc : D.foldT = -1 ∨ D.foldT = -2
  · rw [hE, hF, if_pos hc, if_pos hc]
    refine ⟨.inl rfl, fun _ => ⟨foldC_good hg hc, rfl, fun x => (fold_value hg x).1 hc, fun h => ?_⟩⟩
    simp [Fm.foldC] at h
  · rw [hE, hF, if_neg hc, if_neg hc]
    refine ⟨sizedE_cases _, fun h => ?_⟩
    have hl := sizedE_none h
    rw [sizedF_of hl]
    have hfit := Fit.Fm.trim_good (foldB_fit hg hc)
    exact ⟨hfit.good hl, rfl, fun x => (fold_value hg x).2 hc, fun _ => fold_noconst hg hc⟩
theorem lowBits_nat {Y v : Nat} (h : Y < 2 ^ v) : lowBits (Y : Int) v = Y := by
  unfold lowBits
  rw [← Int.natCast_emod, Int.toNat_natCast, Nat.mod_eq_of_lt h]
theorem asg_support {F : Fm} (hg : F.Good) {v : Nat} (hv : F.vars = v) {y n : Int} (hl : (F.asgB y n).nodes.length ≤ 128) {e : Nat} (he : e < v) (ha : iand (ishr y e) 1 = 1 ∨ iand (ishr n e) 1 = 1) : (F.asgB y n).below.getD e false = false := by
  have hvn : F.vars.toNat = v := by omega
  have gt := hg.topLt
  have hgB := (asgB_fit hg y n).good hl
  have key : ∀ j, j < v + F.nodes.length → ((fullT v (asgT v y n) firstA.length F.nodes.length).getD j 0).toNat ≠ e := by
    intro j hj
    rcases Nat.lt_or_ge j v with h1 | h1
    · rw [fullT_ev (by rw [asgT_length]; exact h1), asgT_getD h1]
      unfold asgAt
      split
      · omega
      · split
        · omega
        · rename_i h2 h3
          rw [Int.toNat_natCast]
          rintro rfl
          rcases ha with h | h
          · exact h2 h
          · exact h3 h
    · obtain ⟨k, rfl⟩ : ∃ k, j = v + k := ⟨j - v, by omega⟩
      have := fullT_node (v := (v : Int)) (ev := asgT v y n) (l := firstA.length) (n := F.nodes.length) (j := k) (by omega)
      rw [asgT_length] at this
      rw [this]
      omega
  have hB : F.asgB y n = ⟨(v : Int), firstA ++ F.nodes.map (mapN (fullT v (asgT v y n) firstA.length F.nodes.length)), (fullT v (asgT v y n) firstA.length F.nodes.length).getD F.top.toNat 0⟩ := by
    unfold Fm.asgB Fm.join
    rw [hvn, hv]
  cases hb : (F.asgB y n).below.getD e false with
  | false => rfl
  | true =>
    have hp := Fm.below_ind' hgB (fun j => j ≠ e) (by rw [hB]; exact key F.top.toNat (by omega)) (fun k hk _ a haa => ?_) e hb
    · exact absurd rfl hp
    · have hnodes : (F.asgB y n).nodes = firstA ++ F.nodes.map (mapN (fullT v (asgT v y n) firstA.length F.nodes.length)) := by rw [hB]
      have hmem : (F.asgB y n).nodes[k] ∈ firstA ++ F.nodes.map (mapN (fullT v (asgT v y n) firstA.length F.nodes.length)) := by rw [← hnodes]; exact List.getElem_mem _
      rcases List.mem_append.1 hmem with h | h
      · simp only [firstA, List.mem_append, List.mem_singleton] at h
        rcases h with h | h <;> (rw [h] at haa; cases haa)
      · obtain ⟨d, hd, he'⟩ := List.mem_map.1 h
        obtain ⟨i, hi, rfl⟩ := List.getElem_of_mem hd
        rw [← he'] at haa
        obtain ⟨b, hb', rfl⟩ := List.mem_map.1 haa
        exact key b.toNat (by have := hg.argLt hi b hb'; omega)
theorem bit_iff {Y i : Nat} (hY : Y < 9223372036854775808) (hi : i ≤ 64) : iand (ishr (Y : Int) i) 1 = 1 ↔ Y.testBit i = true := by
  have := bitB_nat hY hi
  unfold bitB at this
  rw [← this]
  simp
theorem asg_sup {F : Fm} (hg : F.Good) {v : Nat} (hv : F.vars = v) {Y N : Nat} (hY : Y < 2 ^ v) (hN : N < 2 ^ v) (hl : (F.asgB Y N).nodes.length ≤ 128) : (F.asgB Y N).support &&& (Y ||| N) = 0 := by
  have hv24 : v ≤ 24 := by have := hg.v1; omega
  have h24 := pow24 hv24
  have hBv : (F.asgB Y N).vars.toNat = v := by show F.vars.toNat = v; omega
  refine Nat.eq_of_testBit_eq fun i => ?_
  unfold Fm.support
  rw [Nat.testBit_and, setOf_testBit, hBv, Nat.testBit_or, Nat.zero_testBit]
  by_cases hi : i < v
  · cases hy : Y.testBit i with
    | true => rw [asg_support hg hv hl hi (.inl ((bit_iff (by omega) (by omega)).2 hy))]; simp
    | false =>
      cases hn : N.testBit i with
      | true => rw [asg_support hg hv hl hi (.inr ((bit_iff (by omega) (by omega)).2 hn))]; simp
      | false => simp
  · simp [hi]
theorem asg_val2 {F : Fm} (hg : F.Good) {v : Nat} (hv : F.vars = v) {Y N X : Nat} (hY : Y < 2 ^ v) (hN : N < 2 ^ v) (hX : X < 2 ^ v) (hYN : Y &&& N = 0) :
    (F.asgB Y N).value (X : Int) = F.value ((noPart N (X ||| Y) : Nat) : Int) := by
  have hv24 : v ≤ 24 := by have := hg.v1; omega
  have h24 := pow24 hv24
  have hXY : X ||| Y < 2 ^ v := Nat.or_lt_two_pow hX hY
  have hZ : noPart N (X ||| Y) < 2 ^ v := noPart_lt hXY
  refine asg_value hg hv fun i hi => ?_
  rw [bitB_nat (by omega) (by omega), bitB_nat (by omega) (by omega), noPart_testBit, Nat.testBit_or]
  have hd := congrArg (fun z : Nat => z.testBit i) hYN
  simp only [Nat.testBit_and, Nat.zero_testBit] at hd
  by_cases hy : Y.testBit i = true
  · rw [if_pos ((bit_iff (by omega) (by omega)).2 hy), hy]
    rw [hy, Bool.true_and] at hd
    rw [hd]; simp
  · rw [if_neg (fun h => hy ((bit_iff (by omega) (by omega)).1 h))]
    by_cases hn : N.testBit i = true
    · rw [if_pos ((bit_iff (by omega) (by omega)).2 hn), hn]; simp
    · rw [if_neg (fun h => hn ((bit_iff (by omega) (by omega)).1 h))]
      simp [hy, hn]
end Go.GL
