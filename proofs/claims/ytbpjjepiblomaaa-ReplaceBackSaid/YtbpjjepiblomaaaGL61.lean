import Derived.Test.YtbpjjepiblomaaaGL60
namespace Go.GL
set_option linter.unusedVariables false
set_option linter.unusedSimpArgs false
theorem put_val_in {O I : Fm} (z : Int) {j : Nat} (hj : j < I.vars.toNat + I.nodes.length) : (O.put I).val z j = I.val z j := by
  unfold Fm.val Fm.values
  show (valsFrom (events I.vars.toNat z) (I.nodes ++ O.nodes.map (trN (putTab O I)))).getD j false = _
  rw [valsFrom_append, valsFrom_getD_lt _ _ _ (by rw [valsFrom_length, events_length]; exact hj)]
theorem put_val_out {O I : Fm} (h : O.putErr I = none) {z y : Int} (he : ∀ e, e < I.vars.toNat → bitB y e = bitB z e) (hv : bitB y I.vars.toNat = I.value z) :
    ∀ j, j < O.vars.toNat + O.nodes.length → (O.put I).val z ((putTab O I).getD j 0) = O.val y j := by
  obtain ⟨hgO, hgI, hov, hl⟩ := putErr_none h
  have i0 := hgI.v0; have it := hgI.topLt
  have hgP := put_good h
  have hvn : O.vars.toNat = I.vars.toNat + 1 := by omega
  intro j
  induction j using Nat.strongRecOn with
  | _ j ih =>
    intro hj
    rw [putTab_getD hj]
    by_cases h1 : j < I.vars.toNat
    · rw [if_pos h1, put_val_in z (by omega), I.val_event z h1, O.val_event y (by omega), he j h1]
    · rw [if_neg h1]
      by_cases h2 : j = I.vars.toNat
      · rw [if_pos h2, put_val_in z (by omega), O.val_event y (by omega), h2, hv]
        rfl
      · rw [if_neg h2]
        obtain ⟨k, rfl⟩ : ∃ k, j = O.vars.toNat + k := ⟨j - O.vars.toNat, by omega⟩
        have hk : k < O.nodes.length := by omega
        have hk' : I.nodes.length + k < (O.put I).nodes.length := by simp [Fm.put]; omega
        have hn := Fm.val_node hgP z hk'
        have hpv : (O.put I).vars.toNat = I.vars.toNat := rfl
        rw [hpv] at hn
        have hnd : (O.put I).nodes[I.nodes.length + k] = trN (putTab O I) O.nodes[k] := by
          simp only [Fm.put]
          rw [List.getElem_append_right (by omega), List.getElem_map]
          simp
        rw [show O.vars.toNat + k - 1 + I.nodes.length = I.vars.toNat + (I.nodes.length + k) by omega, hn, hnd, Fm.val_node hgO y hk]
        have hc : cntOf ((O.put I).val z) (trN (putTab O I) O.nodes[k]).args = cntOf (O.val y) O.nodes[k].args := by
          unfold cntOf trN trA
          simp only [List.countP_map]
          refine List.countP_congr fun a ha => ?_
          have hlt := hgO.argLt hk a ha
          simp only [Function.comp, Int.toNat_natCast]
          rw [ih a.toNat hlt (by omega)]
        rw [hc]
        unfold nodeVal trN
        simp [trA_length]
theorem put_value {O I : Fm} (h : O.putErr I = none) {z y : Int} (he : ∀ e, e < I.vars.toNat → bitB y e = bitB z e) (hv : bitB y I.vars.toNat = I.value z) : (O.put I).value z = O.value y := by
  obtain ⟨hgO, _, _, _⟩ := putErr_none h
  have ot := hgO.topLt; have o0 := hgO.v0
  have := put_val_out h he hv O.top.toNat (by omega)
  rw [Fm.value_eq, Fm.value_eq, ← this]
  unfold Fm.put
  simp only [Int.toNat_natCast]
end Go.GL
