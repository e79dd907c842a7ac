import Derived.Test.YtclpcnbdmmlogaaGL32
namespace Go.GL
open Go.ChangeShapes Go.WideShapes Go.RowKit Go.Deep Go.Joins
set_option linter.unusedVariables false
set_option linter.unusedSimpArgs false
section
variable {H : Type} {enc : TypeId × Value → H} {P : Program} {w : World} {base : Nat} {spare : Nat → Bool} {held : Bool}
theorem open_arr2k {r : Reach} {b0 : Nat} {t e : TypeId} {k : IntKind} {v : Value} {d : DataW H} {p : List MemPlace} (ht : P.underlying t = some (.array 2 e)) (he : P.underlying e = some (.int k)) (hC : P.cellsOf t = 2) (hce : P.cellsOf e = 1)
    (hv : Value.okWide P w r b0 t v) (h : DataW.Trod enc P w base spare held t v d p) : ∃ a b : Int, v = .agg (List.toArray [.int k a, .int k b]) ∧ (Lit.int k a).wf = true ∧ (Lit.int k b).wf = true := by
  simp only [Value.okWide, ht] at hv
  obtain ⟨cs, rfl, hsz, _⟩ := hv
  obtain ⟨c0, c1, rfl⟩ := array_two (hsz.trans hC)
  obtain ⟨fuel, hf⟩ := h
  simp only [Value.cells] at hf
  obtain ⟨xs, m, rfl, hx, hl, hn, hel⟩ := DataW.trod_array ht hf
  have h0 := hel 0 (by decide)
  have h1 := hel 1 (by decide)
  rw [hce] at h0 h1
  match xs, hn with
  | [y0, y1], _ =>
    simp at h0 h1
    obtain ⟨n0, q0, _, w0⟩ := DataW.trod_int he h0
    obtain ⟨n1, q1, _, w1⟩ := DataW.trod_int he h1
    simp only [List.cons.injEq, and_true] at q0 q1
    subst q0 q1
    exact ⟨n0, n1, rfl, w0, w1⟩
end
section
variable {P : Program} {n : Nat} {S : List (Nat × Value)} {H : List Ent} {A : Array Oper} {Q : Exit → Act → World → Prop}
theorem TOps.neqBr {d T x y T' U p e rest} {a b r : Bool} (hx : opv S x = some (.bool a)) (hy : opv S y = some (.bool b)) (hr : (a != b) = r) (hT : P.underlying T = some .bool) (hn : Nat.blt d n = true)
    (h : TOps P n ((d, .bool r) :: S) H rest A Q) : TOps P n S H (⟨some d, .binOp .neq T x y T', U, p, e, none⟩ :: rest) A Q := by
  subst hr; exact TOps.neqB hx hy hT hn h
end
theorem tmod_nat (a b : Nat) : ((a : Int)).tmod (b : Int) = ((a % b : Nat) : Int) := rfl
section
variable {F : Fm}
theorem law_hides (hg : F.Good) {i : Nat} (hi : i < F.nodes.length) (mi : F.isMod (F.vars.toNat + i) = true) {x y : Int}
    (h : ∀ e, e < F.vars.toNat → (F.under (F.vars.toNat + i)).getD e false = false → bitB x e = bitB y e) (hm : F.val x (F.vars.toNat + i) = F.val y (F.vars.toNat + i)) : F.value x = F.value y := by
  rw [Fm.value_eq, Fm.value_eq]
  have key : ∀ j, F.below.getD j false = true → (F.under (F.vars.toNat + i)).getD j false = false → F.val x j = F.val y j := by
    intro j
    induction j using Nat.strongRecOn with
    | _ j ih =>
      intro hb hu
      have hlt := Fm.below_lt hb
      rcases Nat.lt_or_ge j F.vars.toNat with hv | hv
      · rw [F.val_event x hv, F.val_event y hv]
        exact h j hv hu
      · obtain ⟨k, rfl⟩ : ∃ k, j = F.vars.toNat + k := ⟨j - F.vars.toNat, by omega⟩
        have hk : k < F.nodes.length := by omega
        by_cases e : k = i
        · subst e; exact hm
        · rw [Fm.val_node hg x hk, Fm.val_node hg y hk]
          rw [cntOf_congr (f := F.val x) (g := F.val y) fun a ha => ih a.toNat (hg.argLt hk a ha) (Fm.below_closed hg hk hb a ha) (Fm.isMod_all hg mi k hk hb e hu a ha)]
  exact key _ (Fm.below_top hg) (Fm.isMod_top mi)
def hideS (x b s : Nat) : Nat := noPart b x ||| (s &&& b)
theorem hideS_lt {x b s v : Nat} (hx : x < 2 ^ v) (hb : b < 2 ^ v) : hideS x b s < 2 ^ v :=
  Nat.or_lt_two_pow (noPart_lt hx) (Nat.lt_of_le_of_lt Nat.and_le_right hb)
theorem law_hides' (hg : F.Good) {m : Nat} (hm : m ∈ F.find) {x s : Nat} (hx : x < 2 ^ F.vars.toNat)
    (he : (F.nodeVals (x : Int)).getD (m - F.vars.toNat) false = (F.nodeVals ((hideS x (F.evs m) s : Nat) : Int)).getD (m - F.vars.toNat) false) : F.value (x : Int) = F.value ((hideS x (F.evs m) s : Nat) : Int) := by
  obtain ⟨i, hi, bi, mi, rfl⟩ := Fm.mem_find.1 hm
  have hv : F.vars.toNat ≤ 24 := by have := hg.v1; have := hg.v0; omega
  have hy := hideS_lt (s := s) hx (F.evs_lt (F.vars.toNat + i))
  rw [Nat.add_sub_cancel_left, F.nodeVals_getD, F.nodeVals_getD] at he
  refine law_hides hg hi mi (fun e hev hu => ?_) he
  rw [bitB_nat (pow_lt63 hv hx) (by omega), bitB_nat (pow_lt63 hv hy) (by omega)]
  have evi : F.evs (F.vars.toNat + i) = setOf (F.under (F.vars.toNat + i)) F.vars.toNat := by unfold Fm.evs; rw [if_neg (by omega)]
  unfold hideS
  rw [Nat.testBit_or, noPart_testBit, Nat.testBit_and, evi, setOf_testBit, hu]
  simp
end
end Go.GL
