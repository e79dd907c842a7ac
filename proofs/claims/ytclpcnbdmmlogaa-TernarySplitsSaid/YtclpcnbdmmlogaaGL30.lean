import Derived.Test.YtclpcnbdmmlogaaGL29
namespace Go.GL
open Go.ChangeShapes Go.WideShapes Go.RowKit Go.Deep Go.Joins
set_option linter.unusedVariables false
set_option linter.unusedSimpArgs false
section
variable {H : Type} {enc : TypeId × Value → H} {P : Program} {w : World} {base : Nat} {spare : Nat → Bool} {held : Bool}
theorem array_two {cs : Array Value} (h : cs.size = 2) : ∃ a b, cs = (List.toArray [a, b]) := by
  obtain ⟨l⟩ := cs
  match l, h with
  | [a, b], _ => exact ⟨a, b, rfl⟩
theorem open_arr2 {r : Reach} {b0 : Nat} {t e : TypeId} {v : Value} {d : DataW H} {p : List MemPlace} (ht : P.underlying t = some (.array 2 e)) (he : P.underlying e = some (.int .i64)) (hC : P.cellsOf t = 2) (hce : P.cellsOf e = 1)
    (hv : Value.okWide P w r b0 t v) (h : DataW.Trod enc P w base spare held t v d p) : ∃ a b : Int, v = .agg (List.toArray [.int .i64 a, .int .i64 b]) ∧ I64 a ∧ I64 b := by
  simp only [Value.okWide, ht] at hv
  obtain ⟨cs, rfl, hsz, _⟩ := hv
  obtain ⟨c0, c1, rfl⟩ := array_two (hsz.trans hC)
  obtain ⟨fuel, hf⟩ := h
  simp only [Value.cells] at hf
  obtain ⟨xs, m, rfl, hx, hl, hn, hel⟩ := DataW.trod_array ht hf
  have h0 := hel 0 (by decide)
  have h1 := hel 1 (by decide)
  rw [hce] at h0 h1
  match xs, hn with
  | [y0, y1], _ =>
    simp at h0 h1
    obtain ⟨n0, q0, _, w0⟩ := DataW.trod_int he h0
    obtain ⟨n1, q1, _, w1⟩ := DataW.trod_int he h1
    simp only [List.cons.injEq, and_true] at q0 q1
    subst q0 q1
    exact ⟨n0, n1, rfl, wf_I64 w0, wf_I64 w1⟩
end
theorem tnode_mono {d : Nd} {m : Int} (h : d.Fits m) {a b c a' b' c' : Nat} (hs : a + b + c = d.args.length) (hs' : a' + b' + c' = d.args.length) (ha : a ≤ a') (hb : b ≤ b') (h2 : tnode d a b c ≠ 2) : tnode d a' b' c' = tnode d a b c := by
  have har := h.ar
  unfold tnode at h2 ⊢
  by_cases k0 : d.kind = 0
  · simp only [k0, if_true]
  simp only [k0, if_false] at h2 ⊢
  by_cases k1 : d.kind = 1
  · simp only [k1, if_true] at h2 ⊢
    unfold argsB at har
    rw [if_neg k0, if_pos k1] at har
    simp at har
    by_cases e1 : a = 1
    · have : a' = 1 := by omega
      subst e1 this; rfl
    · by_cases e2 : b = 1
      · have h3 : b' = 1 := by omega
        have h4 : a' = a := by omega
        subst e2 h3 h4; rfl
      · exfalso; apply h2
        unfold lev
        rw [decide_eq_false (by omega), decide_eq_false (by omega)]; rfl
  simp only [k1, if_false] at h2 ⊢
  by_cases k2 : d.kind = 2
  · simp only [k2, if_true] at h2 ⊢
    by_cases e1 : b = d.args.length
    · rw [show b' = b by omega, show a' = a by omega]
    · by_cases e2 : 0 < a
      · unfold lev
        rw [decide_eq_false (show ¬ ((b' : Int) = d.args.length) by omega), decide_eq_false (show ¬ ((b : Int) = d.args.length) by omega), decide_eq_true (show 0 < (a' : Int) by omega), decide_eq_true (show 0 < (a : Int) by omega)]
      · exfalso; apply h2
        unfold lev
        rw [decide_eq_false (by omega), decide_eq_false (by omega)]; rfl
  simp only [k2, if_false] at h2 ⊢
  by_cases k3 : d.kind = 3
  · simp only [k3, if_true] at h2 ⊢
    by_cases e1 : 0 < b
    · unfold lev
      rw [decide_eq_true (show 0 < (b' : Int) by omega), decide_eq_true (show 0 < (b : Int) by omega)]; rfl
    · by_cases e2 : a = d.args.length
      · rw [show b' = b by omega, show a' = a by omega]
      · exfalso; apply h2
        unfold lev
        rw [decide_eq_false (by omega), decide_eq_false (by omega)]; rfl
  simp only [k3, if_false] at h2 ⊢
  by_cases k4 : d.kind = 4
  · simp only [k4, if_true] at h2 ⊢
    by_cases e1 : d.k ≤ b
    · unfold lev
      rw [decide_eq_true (show d.k ≤ (b' : Int) by omega), decide_eq_true (show d.k ≤ (b : Int) by omega)]; rfl
    · by_cases e2 : (b : Int) + c < d.k
      · unfold lev
        rw [decide_eq_false (show ¬ (d.k ≤ (b' : Int)) by omega), decide_eq_false (show ¬ (d.k ≤ (b : Int)) by omega), decide_eq_true (show (b' : Int) + c' < d.k by omega), decide_eq_true e2]
      · exfalso; apply h2
        unfold lev
        rw [decide_eq_false (by omega), decide_eq_false (by omega)]; rfl
  simp only [k4, if_false] at h2 ⊢
  by_cases e : c = 0
  · rw [show c' = c by omega, show b' = b by omega]
  · exfalso; apply h2
    unfold lev
    rw [decide_eq_false (show ¬ ((c : Int) = 0) by omega)]; rfl
theorem tcOf_mono {f g : Nat → Nat} {b : Nat} {l : List Int} (h : ∀ a ∈ l, f a.toNat = b → g a.toNat = b) : tcOf f b l ≤ tcOf g b l := by
  unfold tcOf
  exact List.countP_mono_left (fun a ha h1 => by simpa using h a ha (by simpa using h1))
theorem law_learns {F : Fm} (hg : F.Good) {y n y' n' : Int} (hy : ∀ i, i < F.vars.toNat → bitB y i = true → bitB y' i = true) (hn : ∀ i, i < F.vars.toNat → bitB n i = true → bitB n' i = true)
    (hd : ∀ i, i < F.vars.toNat → bitB n' i = true → bitB y' i = false) : ∀ j, j < F.vars.toNat + F.nodes.length → F.tval y n j ≠ 2 → F.tval y' n' j = F.tval y n j := by
  intro j
  induction j using Nat.strongRecOn with
  | _ j ih =>
    intro hj h2
    rcases Nat.lt_or_ge j F.vars.toNat with hv | hv
    · rw [F.tval_event y n hv] at h2 ⊢
      rw [F.tval_event y' n' hv]
      have a1 := hy j hv; have a2 := hn j hv; have a3 := hd j hv
      unfold lev at h2 ⊢
      cases e1 : bitB y j with
      | true => rw [a1 e1]; simp only [cond_true]
      | false =>
        rw [e1] at h2
        cases e2 : bitB n j with
        | true => rw [a3 (a2 e2), a2 e2]
        | false => rw [e2] at h2; simp at h2
    · obtain ⟨i, rfl⟩ : ∃ i, j = F.vars.toNat + i := ⟨j - F.vars.toNat, by omega⟩
      have hi : i < F.nodes.length := by omega
      rw [F.tval_node hg y n hi] at h2 ⊢
      rw [F.tval_node hg y' n' hi]
      refine tnode_mono (hg.fits i hi) (tcOf_sum (fun a _ => F.tval_le hg y n a.toNat)) (tcOf_sum (fun a _ => F.tval_le hg y' n' a.toNat)) ?_ ?_ h2
      · exact tcOf_mono (fun a ha h0 => by rw [ih a.toNat (hg.argLt hi a ha) (by have := hg.argLt hi a ha; omega) (by omega)]; exact h0)
      · exact tcOf_mono (fun a ha h0 => by rw [ih a.toNat (hg.argLt hi a ha) (by have := hg.argLt hi a ha; omega) (by omega)]; exact h0)
def moreYes (y n b : Nat) : Nat := y ||| noPart n b
def moreNo (y n b0 b1 : Nat) : Nat := n ||| noPart (moreYes y n b0) b1
theorem noPart_testBit (y n i : Nat) : (noPart y n).testBit i = (n.testBit i && !y.testBit i) := by
  unfold noPart
  rw [Nat.testBit_xor, Nat.testBit_and]
  cases y.testBit i <;> cases n.testBit i <;> rfl
theorem moreYes_lt {y n b v : Nat} (hy : y < 2 ^ v) (hb : b < 2 ^ v) : moreYes y n b < 2 ^ v := Nat.or_lt_two_pow hy (noPart_lt hb)
theorem moreNo_lt {y n b0 b1 v : Nat} (hn : n < 2 ^ v) (hb : b1 < 2 ^ v) : moreNo y n b0 b1 < 2 ^ v := Nat.or_lt_two_pow hn (noPart_lt hb)
theorem more_and {y n b0 b1 : Nat} (h : y &&& n = 0) : moreYes y n b0 &&& moreNo y n b0 b1 = 0 := by
  refine Nat.eq_of_testBit_eq fun i => ?_
  have hi : (y &&& n).testBit i = false := by rw [h, Nat.zero_testBit]
  rw [Nat.testBit_and] at hi
  unfold moreNo
  rw [Nat.testBit_and, Nat.testBit_or, noPart_testBit, Nat.zero_testBit]
  unfold moreYes
  rw [Nat.testBit_or, noPart_testBit]
  revert hi
  cases y.testBit i <;> cases n.testBit i <;> cases b0.testBit i <;> cases b1.testBit i <;> simp
theorem law_learns' {F : Fm} (hg : F.Good) {y n b0 b1 : Nat} (hy : y < 2 ^ F.vars.toNat) (hn : n < 2 ^ F.vars.toNat) (h0 : b0 < 2 ^ F.vars.toNat) (h1 : b1 < 2 ^ F.vars.toNat) (h : y &&& n = 0) :
    ∀ j, j < F.vars.toNat + F.nodes.length → F.tval y n j ≠ 2 → F.tval (moreYes y n b0 : Nat) (moreNo y n b0 b1 : Nat) j = F.tval y n j := by
  have hv : F.vars.toNat ≤ 24 := by have := hg.v1; have := hg.v0; omega
  have ly := moreYes_lt (n := n) hy h0
  have ln := moreNo_lt (y := y) (b0 := b0) hn h1
  refine law_learns hg (fun i hi => ?_) (fun i hi => ?_) (fun i hi => ?_)
  · rw [bitB_nat (pow_lt63 hv hy) (by omega), bitB_nat (pow_lt63 hv ly) (by omega)]
    intro hb; unfold moreYes; rw [Nat.testBit_or, hb]; rfl
  · rw [bitB_nat (pow_lt63 hv hn) (by omega), bitB_nat (pow_lt63 hv ln) (by omega)]
    intro hb; unfold moreNo; rw [Nat.testBit_or, hb]; rfl
  · rw [bitB_nat (pow_lt63 hv ln) (by omega), bitB_nat (pow_lt63 hv ly) (by omega)]
    intro hb
    have := more_and (b0 := b0) (b1 := b1) h
    have hi2 : (moreYes y n b0 &&& moreNo y n b0 b1).testBit i = false := by rw [this, Nat.zero_testBit]
    rw [Nat.testBit_and, hb, Bool.and_true] at hi2
    exact hi2
theorem clone_off {v cap n : Nat} (h : v + n ≤ cap) (hn : 0 < n) : (bif cap == v then 0 else 0 + v * 1) = v := by
  rw [show (cap == v) = false from beq_eq_false_iff_ne.2 (by omega)]; simp
end Go.GL
