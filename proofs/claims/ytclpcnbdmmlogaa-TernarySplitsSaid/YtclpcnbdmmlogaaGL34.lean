import Derived.Test.YtclpcnbdmmlogaaGL33
namespace Go.GL
set_option linter.unusedVariables false
set_option linter.unusedSimpArgs false
theorem tnode_full {d : Nd} {m : Int} (h : d.Fits m) {a b : Nat} (hs : a + b = d.args.length) : tnode d a b 0 = bif nodeVal d b then 1 else 0 := by
  have har := h.ar
  have hk := h.kk.1
  unfold tnode nodeVal
  by_cases k0 : d.kind = 0
  · simp only [k0, if_true]
    rcases hk k0 with e | e <;> rw [e] <;> rfl
  simp only [k0, if_false]
  by_cases k1 : d.kind = 1
  · simp only [k1, if_true]
    unfold argsB at har
    rw [if_neg k0, if_pos k1] at har
    simp at har
    rcases (show (a = 0 ∧ b = 1) ∨ (a = 1 ∧ b = 0) by omega) with ⟨rfl, rfl⟩ | ⟨rfl, rfl⟩ <;> rfl
  simp only [k1, if_false]
  by_cases k2 : d.kind = 2
  · simp only [k2, if_true]
    by_cases e : b = d.args.length
    · rw [decide_eq_true (show (b : Int) = d.args.length by omega)]; rfl
    · rw [decide_eq_false (show ¬ ((b : Int) = d.args.length) by omega), decide_eq_true (show 0 < (a : Int) by omega)]; rfl
  simp only [k2, if_false]
  by_cases k3 : d.kind = 3
  · simp only [k3, if_true]
    by_cases e : 0 < b
    · rw [decide_eq_true (show 0 < (b : Int) by omega)]; rfl
    · rw [decide_eq_false (show ¬ (0 < (b : Int)) by omega), decide_eq_true (show (a : Int) = d.args.length by omega)]; rfl
  simp only [k3, if_false]
  by_cases k4 : d.kind = 4
  · simp only [k4, if_true]
    by_cases e : d.k ≤ b
    · rw [decide_eq_true e]; rfl
    · rw [decide_eq_false e, decide_eq_true (show (b : Int) + (0 : Nat) < d.k by omega)]; rfl
  simp only [k4, if_false]
  have k5 : d.kind = 5 := by have := h.k0; have := h.k1; omega
  simp only [k5, if_true]
  have ht : ((b : Int).tmod 2) = ((b % 2 : Nat) : Int) := by norm_cast
  rw [ht]
  rcases Nat.mod_two_eq_zero_or_one b with e | e <;> rw [e] <;> rfl
theorem tval_full {F : Fm} (hg : F.Good) {y n : Int} (h : ∀ i, i < F.vars.toNat → bitB n i = !bitB y i) : ∀ j, j < F.vars.toNat + F.nodes.length → F.tval y n j = bif F.val y j then 1 else 0 := by
  intro j
  induction j using Nat.strongRecOn with
  | _ j ih =>
    intro hj
    rcases Nat.lt_or_ge j F.vars.toNat with hv | hv
    · rw [F.tval_event y n hv, F.val_event y hv, h j hv]
      cases bitB y j <;> rfl
    · obtain ⟨i, rfl⟩ : ∃ i, j = F.vars.toNat + i := ⟨j - F.vars.toNat, by omega⟩
      have hi : i < F.nodes.length := by omega
      rw [F.tval_node hg y n hi, F.val_node hg y hi]
      have hall : ∀ a ∈ F.nodes[i].args, F.tval y n a.toNat = bif F.val y a.toNat then 1 else 0 := fun a ha => ih a.toNat (hg.argLt hi a ha) (by have := hg.argLt hi a ha; omega)
      have h2 : tcOf (F.tval y n) 2 F.nodes[i].args = 0 := by
        unfold tcOf
        rw [List.countP_eq_zero]
        intro a ha
        rw [hall a ha]
        cases F.val y a.toNat <;> decide
      have h1 : tcOf (F.tval y n) 1 F.nodes[i].args = cntOf (F.val y) F.nodes[i].args := by
        unfold tcOf cntOf
        refine List.countP_congr fun a ha => ?_
        rw [hall a ha]
        cases F.val y a.toNat <;> decide
      have hs := tcOf_sum (f := F.tval y n) (l := F.nodes[i].args) (fun a _ => F.tval_le hg y n a.toNat)
      rw [h2] at hs ⊢
      rw [h1] at hs ⊢
      exact tnode_full (hg.fits i hi) (by omega)
theorem noPart_full {s v i : Nat} (hi : i < v) : (noPart s (2 ^ v - 1)).testBit i = !s.testBit i := by
  rw [noPart_testBit, Nat.testBit_two_pow_sub_one]
  simp [hi]
theorem law_sound {F : Fm} (hg : F.Good) {y n s : Nat} (hy : y < 2 ^ F.vars.toNat) (hn : n < 2 ^ F.vars.toNat) (hs : s < 2 ^ F.vars.toNat)
    (h1 : ∀ i, y.testBit i = true → s.testBit i = true) (h2 : ∀ i, n.testBit i = true → s.testBit i = false) :
    (∀ j, j < F.vars.toNat + F.nodes.length → F.tval y n j ≠ 2 → (decide (F.tval y n j = 1)) = F.val s j) ∧
    (∀ j, j < F.vars.toNat + F.nodes.length → F.tval s (noPart s (2 ^ F.vars.toNat - 1) : Nat) j ≠ 2) := by
  have hv : F.vars.toNat ≤ 24 := by have := hg.v1; have := hg.v0; omega
  have hpos := Nat.two_pow_pos F.vars.toNat
  have hc : noPart s (2 ^ F.vars.toNat - 1) < 2 ^ F.vars.toNat := noPart_lt (by omega)
  have hfull := tval_full hg (y := (s : Int)) (n := (noPart s (2 ^ F.vars.toNat - 1) : Nat)) (fun i hi => by
    rw [bitB_nat (pow_lt63 hv hc) (by omega), bitB_nat (pow_lt63 hv hs) (by omega), noPart_full hi])
  refine ⟨fun j hj hne => ?_, fun j hj => ?_⟩
  · have := law_learns hg (y := (y : Int)) (n := (n : Int)) (y' := (s : Int)) (n' := (noPart s (2 ^ F.vars.toNat - 1) : Nat)) (fun i hi hb => ?_) (fun i hi hb => ?_) (fun i hi hb => ?_) j hj hne
    · rw [← this, hfull j hj]
      cases F.val s j <;> rfl
    · rw [bitB_nat (pow_lt63 hv hy) (by omega)] at hb
      rw [bitB_nat (pow_lt63 hv hs) (by omega)]
      exact h1 i hb
    · rw [bitB_nat (pow_lt63 hv hn) (by omega)] at hb
      rw [bitB_nat (pow_lt63 hv hc) (by omega), noPart_full hi, h2 i hb]; rfl
    · rw [bitB_nat (pow_lt63 hv hc) (by omega), noPart_full hi] at hb
      rw [bitB_nat (pow_lt63 hv hs) (by omega)]
      simpa using hb
  · rw [hfull j hj]
    cases F.val s j <;> decide
theorem iand_comm (a b : Int) : iand a b = iand b a := by
  unfold iand
  rw [BitVec.and_comm]
theorem iand_low' {z : Int} {s v : Nat} (hs : s < 2 ^ v) (hv : v ≤ 62) : iand s z = ((s &&& lowBits z v : Nat) : Int) := by
  rw [iand_comm, iand_low hs hv, Nat.and_comm]
def sets3 (y n z v : Nat) : List Nat := [y, noPart n (2 ^ v - 1), y ||| (noPart n (2 ^ v - 1) &&& z)]
theorem sets3_ok {y n z v : Nat} (hy : y < 2 ^ v) (hn : n < 2 ^ v) (h : y &&& n = 0) : ∀ s ∈ sets3 y n z v, s < 2 ^ v ∧ (∀ i, y.testBit i = true → s.testBit i = true) ∧ (∀ i, n.testBit i = true → s.testBit i = false) := by
  have hpos := Nat.two_pow_pos v
  have hc : noPart n (2 ^ v - 1) < 2 ^ v := noPart_lt (by omega)
  have hd : ∀ i, n.testBit i = true → y.testBit i = false := by
    intro i hi
    have : (y &&& n).testBit i = false := by rw [h, Nat.zero_testBit]
    rw [Nat.testBit_and, hi, Bool.and_true] at this
    exact this
  have hlt : ∀ i, y.testBit i = true → i < v := by
    intro i hi
    rcases Nat.lt_or_ge i v with hlt | hge
    · exact hlt
    · rw [Nat.testBit_lt_two_pow (Nat.lt_of_lt_of_le hy (Nat.pow_le_pow_right (by decide) hge))] at hi; cases hi
  intro s hs
  simp only [sets3, List.mem_cons, List.not_mem_nil, or_false] at hs
  rcases hs with rfl | rfl | rfl
  · exact ⟨hy, fun _ h => h, hd⟩
  · refine ⟨hc, fun i hi => ?_, fun i hi => ?_⟩
    · rw [noPart_full (hlt i hi)]
      cases hni : n.testBit i with
      | false => rfl
      | true => rw [hd i hni] at hi; cases hi
    · rw [noPart_testBit, hi]; simp
  · refine ⟨Nat.or_lt_two_pow hy (Nat.lt_of_le_of_lt Nat.and_le_left hc), fun i hi => ?_, fun i hi => ?_⟩
    · rw [Nat.testBit_or, hi]; rfl
    · rw [Nat.testBit_or, Nat.testBit_and, hd i hi, noPart_testBit, hi]; simp
end Go.GL
