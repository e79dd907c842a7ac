import Derived.Test.YtffghipagnjggaaGL36
import Derived.Test.YtffghipagnjggaaGL30
namespace Go.GL
set_option linter.unusedVariables false
set_option linter.unusedSimpArgs false
section
variable {F : Fm}
theorem Fm.below_ind (hg : F.Good) (p : Nat → Prop) (h0 : p F.top.toNat)
    (h1 : ∀ k (hk : k < F.nodes.length), F.below.getD (F.vars.toNat + k) false = true → p (F.vars.toNat + k) → ∀ a ∈ F.nodes[k].args, p a.toNat) : ∀ j, F.below.getD j false = true → p j := by
  suffices ∀ (c j : Nat), j + c = F.vars.toNat + F.nodes.length → F.below.getD j false = true → p j by
    intro j hj
    have hb := Fm.below_lt hj
    exact this (F.vars.toNat + F.nodes.length - j) j (by omega) hj
  intro c
  induction c using Nat.strongRecOn with
  | _ c ih =>
    intro j hjc hj
    rcases Fm.below_inv hg hj with rfl | ⟨k, hk, hm, a, ha, rfl⟩
    · exact h0
    · have hlt := hg.argLt hk a ha
      exact h1 k hk hm (ih (F.nodes.length - k) (by omega) (F.vars.toNat + k) (by omega) hm) a ha
def Fm.cutAt (F : Fm) (i : Nat) : Fm := ⟨F.vars, F.nodes.set i ⟨0, 0, []⟩, F.top⟩
theorem Fm.cutAt_good (hg : F.Good) (i : Nat) : (F.cutAt i).Good := by
  refine ⟨hg.v0, hg.v1, by simpa [Fm.cutAt] using hg.n1, fun k hk => ?_, ?_⟩
  · simp only [Fm.cutAt, List.length_set] at hk ⊢
    rw [List.getElem_set]
    split
    · have := hg.v0
      exact nodeErr_none.2 ⟨by decide, by decide, rfl, by simp, by simp⟩
    · exact hg.node k hk
  · have := hg.top
    unfold Fm.valid Fm.cutAt at *
    simpa using this
theorem Fm.isMod_all (hg : F.Good) {i : Nat} (hm : F.isMod (F.vars.toNat + i) = true) (q : Nat) (hq : q < F.nodes.length) (hb : F.below.getD (F.vars.toNat + q) false = true) (hne : q ≠ i)
    (hf : (F.under (F.vars.toNat + i)).getD (F.vars.toNat + q) false = false) : ∀ a ∈ F.nodes[q].args, (F.under (F.vars.toNat + i)).getD a.toNat false = false := by
  intro a ha
  unfold Fm.isMod at hm
  simp only [Bool.and_eq_true] at hm
  have := List.all_eq_true.1 hm.2 q (List.mem_range.2 hq)
  unfold Fm.modAt at this
  rw [hb, hf, show F.nodes.getD q ⟨0, 0, []⟩ = F.nodes[q] from by simp [hq]] at this
  have hbq : Nat.beq (F.vars.toNat + q) (F.vars.toNat + i) = false := by
    cases h : Nat.beq (F.vars.toNat + q) (F.vars.toNat + i) with
    | false => rfl
    | true => exact absurd (Nat.eq_of_beq_eq_true h) (by omega)
  rw [hbq] at this
  simp only [Bool.not_true, Bool.false_or, Bool.or_false] at this
  have := List.all_eq_true.1 this a ha
  simpa using this
theorem Fm.isMod_top {m : Nat} (hm : F.isMod m = true) : (F.under m).getD F.top.toNat false = false := by
  unfold Fm.isMod at hm
  simp only [Bool.and_eq_true] at hm
  simpa using hm.1.2
theorem law_apart (hg : F.Good) {i : Nat} (hi : i < F.nodes.length) (hm : F.vars.toNat + i ∈ F.find) : (F.cutAt i).support &&& F.evs (F.vars.toNat + i) = 0 := by
  have hgc := Fm.cutAt_good hg i
  obtain ⟨i', _, bi, mi, he⟩ := Fm.mem_find.1 hm
  obtain rfl : i = i' := by omega
  have evi : F.evs (F.vars.toNat + i) = setOf (F.under (F.vars.toNat + i)) F.vars.toNat := by unfold Fm.evs; rw [if_neg (by omega)]
  have key : ∀ j, (F.cutAt i).below.getD j false = true → (F.under (F.vars.toNat + i)).getD j false = false ∧ F.below.getD j false = true := by
    refine Fm.below_ind hgc (fun j => (F.under (F.vars.toNat + i)).getD j false = false ∧ F.below.getD j false = true) ⟨Fm.isMod_top mi, Fm.below_top hg⟩ ?_
    intro k hk hb hp a ha
    have hk' : k < F.nodes.length := by simpa [Fm.cutAt] using hk
    simp only [Fm.cutAt, List.getElem_set] at ha
    split at ha
    · simp at ha
    · rename_i hne
      exact ⟨Fm.isMod_all hg mi k hk' hp.2 (fun e => hne e.symm) hp.1 a ha, Fm.below_closed hg hk' hp.2 a ha⟩
  rw [evi]
  refine Nat.eq_of_testBit_eq fun j => ?_
  unfold Fm.support
  rw [Nat.testBit_and, setOf_testBit, setOf_testBit, Nat.zero_testBit]
  cases hj : (F.cutAt i).below.getD j false with
  | false => simp
  | true => rw [(key j hj).1]; simp
end
theorem setL_at : ∀ (cs ds es fs : List Value), ds.length = fs.length → setL (cs ++ (ds ++ es)) cs.length fs = cs ++ (fs ++ es)
  | cs, ds, es, [], h => by
    have : ds = [] := List.eq_nil_of_length_eq_zero (by simpa using h)
    subst this; rfl
  | cs, d :: ds, es, f :: fs, h => by
    have := setL_at (cs ++ [f]) ds es fs (by simpa using h)
    simp only [setL]
    rw [show (cs ++ (d :: ds ++ es)).set cs.length f = (cs ++ [f]) ++ (ds ++ es) by simp, show cs.length + 1 = (cs ++ [f]).length by simp, this]
    simp
  | cs, [], es, f :: fs, h => by simp at h
theorem nsCells_set : ∀ (ns : List Nd) (qs : List SA) (i : Nat) (d : Nd) (q : SA), qs.length = ns.length → i < ns.length → nsCells (ns.set i d) (qs.set i q) = setL (nsCells ns qs) (i * 3) (ndCells d q)
  | [], _, i, d, q, _, hi => by simp at hi
  | d' :: r, [], i, d, q, h, _ => by simp at h
  | d' :: r, q' :: s, 0, d, q, _, _ => by
    have := setL_at [] (ndCells d' q') (nsCells r s) (ndCells d q) (by simp [ndCells])
    simpa [nsCells] using this.symm
  | d' :: r, q' :: s, i + 1, d, q, h, hi => by
    have ih := nsCells_set r s i d q (by simpa using h) (by simpa using hi)
    have hsplit : ∀ (cs xs fs : List Value) (j : Nat), setL (cs ++ xs) (cs.length + j) fs = cs ++ setL xs j fs := by
      intro cs xs fs
      induction fs generalizing xs with
      | nil => intro j; rfl
      | cons f fs ihf =>
        intro j
        simp only [setL]
        rw [List.set_append_right _ _ (by omega), Nat.add_sub_cancel_left, Nat.add_assoc, ihf]
    simp only [List.set_cons_succ, nsCells]
    rw [ih, show (i + 1) * 3 = (ndCells d' q').length + i * 3 by simp [ndCells]; omega, hsplit]
theorem ArgsIn.set {H : List Ent} {ns : List Nd} {qs : List SA} {i : Nat} {d : Nd} {q : SA} (h : ArgsIn H ns qs) (hd : RInts H q.1 q.2.1 d.args q.2.2.2) : ArgsIn H (ns.set i d) (qs.set i q) := by
  refine ⟨by simp [h.1], fun k d' q' h1 h2 => ?_⟩
  rw [List.getElem?_set] at h1 h2
  by_cases e : i = k
  · subst e
    rw [if_pos rfl] at h1 h2
    split at h1
    · split at h2
      · simp at h1 h2; subst h1 h2; exact hd
      · simp at h2
    · simp at h1
  · rw [if_neg e] at h1 h2
    exact h.2 k d' q' h1 h2
end Go.GL
namespace Go.GL
open Go.ChangeShapes Go.WideShapes Go.RowKit Go.Deep Go.Joins
set_option linter.unusedVariables false
set_option linter.unusedSimpArgs false
section
variable {H : Type} {enc : TypeId × Value → H} {P : Program} {w : World} {base : Nat} {spare : Nat → Bool} {held : Bool}
theorem open_arr2k {r : Reach} {b0 : Nat} {t e : TypeId} {k : IntKind} {v : Value} {d : DataW H} {p : List MemPlace} (ht : P.underlying t = some (.array 2 e)) (he : P.underlying e = some (.int k)) (hC : P.cellsOf t = 2) (hce : P.cellsOf e = 1)
    (hv : Value.okWide P w r b0 t v) (h : DataW.Trod enc P w base spare held t v d p) : ∃ a b : Int, v = .agg (List.toArray [.int k a, .int k b]) ∧ (Lit.int k a).wf = true ∧ (Lit.int k b).wf = true := by
  simp only [Value.okWide, ht] at hv
  obtain ⟨cs, rfl, hsz, _⟩ := hv
  obtain ⟨c0, c1, rfl⟩ := array_two (hsz.trans hC)
  obtain ⟨fuel, hf⟩ := h
  simp only [Value.cells] at hf
  obtain ⟨xs, m, rfl, hx, hl, hn, hel⟩ := DataW.trod_array ht hf
  have h0 := hel 0 (by decide)
  have h1 := hel 1 (by decide)
  rw [hce] at h0 h1
  match xs, hn with
  | [y0, y1], _ =>
    simp at h0 h1
    obtain ⟨n0, q0, _, w0⟩ := DataW.trod_int he h0
    obtain ⟨n1, q1, _, w1⟩ := DataW.trod_int he h1
    simp only [List.cons.injEq, and_true] at q0 q1
    subst q0 q1
    exact ⟨n0, n1, rfl, w0, w1⟩
end
section
variable {P : Program} {n : Nat} {S : List (Nat × Value)} {H : List Ent} {A : Array Oper} {Q : Exit → Act → World → Prop}
theorem TOps.neqBr {d T x y T' U p e rest} {a b r : Bool} (hx : opv S x = some (.bool a)) (hy : opv S y = some (.bool b)) (hr : (a != b) = r) (hT : P.underlying T = some .bool) (hn : Nat.blt d n = true)
    (h : TOps P n ((d, .bool r) :: S) H rest A Q) : TOps P n S H (⟨some d, .binOp .neq T x y T', U, p, e, none⟩ :: rest) A Q := by
  subst hr; exact TOps.neqB hx hy hT hn h
end
theorem tmod_nat (a b : Nat) : ((a : Int)).tmod (b : Int) = ((a % b : Nat) : Int) := rfl
section
variable {F : Fm}
theorem law_hides (hg : F.Good) {i : Nat} (hi : i < F.nodes.length) (mi : F.isMod (F.vars.toNat + i) = true) {x y : Int}
    (h : ∀ e, e < F.vars.toNat → (F.under (F.vars.toNat + i)).getD e false = false → bitB x e = bitB y e) (hm : F.val x (F.vars.toNat + i) = F.val y (F.vars.toNat + i)) : F.value x = F.value y := by
  rw [Fm.value_eq, Fm.value_eq]
  have key : ∀ j, F.below.getD j false = true → (F.under (F.vars.toNat + i)).getD j false = false → F.val x j = F.val y j := by
    intro j
    induction j using Nat.strongRecOn with
    | _ j ih =>
      intro hb hu
      have hlt := Fm.below_lt hb
      rcases Nat.lt_or_ge j F.vars.toNat with hv | hv
      · rw [F.val_event x hv, F.val_event y hv]
        exact h j hv hu
      · obtain ⟨k, rfl⟩ : ∃ k, j = F.vars.toNat + k := ⟨j - F.vars.toNat, by omega⟩
        have hk : k < F.nodes.length := by omega
        by_cases e : k = i
        · subst e; exact hm
        · rw [Fm.val_node hg x hk, Fm.val_node hg y hk]
          rw [cntOf_congr (f := F.val x) (g := F.val y) fun a ha => ih a.toNat (hg.argLt hk a ha) (Fm.below_closed hg hk hb a ha) (Fm.isMod_all hg mi k hk hb e hu a ha)]
  exact key _ (Fm.below_top hg) (Fm.isMod_top mi)
def hideS (x b s : Nat) : Nat := noPart b x ||| (s &&& b)
theorem hideS_lt {x b s v : Nat} (hx : x < 2 ^ v) (hb : b < 2 ^ v) : hideS x b s < 2 ^ v :=
  Nat.or_lt_two_pow (noPart_lt hx) (Nat.lt_of_le_of_lt Nat.and_le_right hb)
theorem law_hides' (hg : F.Good) {m : Nat} (hm : m ∈ F.find) {x s : Nat} (hx : x < 2 ^ F.vars.toNat)
    (he : (F.nodeVals (x : Int)).getD (m - F.vars.toNat) false = (F.nodeVals ((hideS x (F.evs m) s : Nat) : Int)).getD (m - F.vars.toNat) false) : F.value (x : Int) = F.value ((hideS x (F.evs m) s : Nat) : Int) := by
  obtain ⟨i, hi, bi, mi, rfl⟩ := Fm.mem_find.1 hm
  have hv : F.vars.toNat ≤ 24 := by have := hg.v1; have := hg.v0; omega
  have hy := hideS_lt (s := s) hx (F.evs_lt (F.vars.toNat + i))
  rw [Nat.add_sub_cancel_left, F.nodeVals_getD, F.nodeVals_getD] at he
  refine law_hides hg hi mi (fun e hev hu => ?_) he
  rw [bitB_nat (pow_lt63 hv hx) (by omega), bitB_nat (pow_lt63 hv hy) (by omega)]
  have evi : F.evs (F.vars.toNat + i) = setOf (F.under (F.vars.toNat + i)) F.vars.toNat := by unfold Fm.evs; rw [if_neg (by omega)]
  unfold hideS
  rw [Nat.testBit_or, noPart_testBit, Nat.testBit_and, evi, setOf_testBit, hu]
  simp
end
end Go.GL
namespace Go.GL
set_option linter.unusedVariables false
set_option linter.unusedSimpArgs false
structure MX where
  b0 : Nat
  a3 : Option Nat
  c3 : Nat
  b7 : Nat
  b9 : Nat
  a10 : Nat
  c10 : Nat
abbrev MX.three (x : MX) : List Value := [.int .i64 3, .int .i64 0, slV (some x.b7) 0 2 2]
theorem iand_pred0 {b : Nat} (hb : b < 2 ^ 24) : decide (iand (b : Int) ((b : Int) - 1) = 0) = decide (pp 24 b < 2) := by
  have := iand_pred hb
  rw [decide_eq_decide] at this
  refine decide_eq_decide.2 ?_
  omega
theorem bit_zero {b x : Nat} (hb : b < 2 ^ 24) (hx : x ≤ 64) : decide (iand (ishr (b : Int) x) 1 = 0) = !b.testBit x := by
  have h1 := bitB_nat (a := b) (i := x) (by have : (2 : Nat) ^ 24 = 16777216 := by decide
                                            omega) hx
  unfold bitB at h1
  rw [ishr_nat hx] at h1 ⊢
  have h2 := iand_one (c := b >>> x) (by have := Nat.shiftRight_le b x; have : (2 : Nat) ^ 24 = 16777216 := by decide
                                         omega)
  rw [h2] at h1 ⊢
  rw [← h1, ← decide_not]
  refine decide_eq_decide.2 ?_
  omega
theorem bits_zero {b : Nat} (hb : b < 2 ^ 24) (h : ∀ i, i < 24 → b.testBit i = false) : b = 0 := by
  refine Nat.eq_of_testBit_eq fun i => ?_
  rw [Nat.zero_testBit]
  rcases Nat.lt_or_ge i 24 with hi | hi
  · exact h i hi
  · exact Nat.testBit_lt_two_pow (Nat.lt_of_lt_of_le hb (Nat.pow_le_pow_right (by decide) hi))
theorem pp_pos {b : Nat} (h : 2 ≤ pp 24 b) : b ≠ 0 := by
  rintro rfl
  exact absurd h (by decide)
theorem Fm.proper_split (F : Fm) {j : Nat} (h : j < F.find.length) (hp : F.proper1 F.find[j] = true) : ∃ r, F.proper = F.properTo j ++ F.find[j] :: r := by
  refine ⟨(F.find.drop (j + 1)).filter F.proper1, ?_⟩
  unfold Fm.proper Fm.properTo
  have e : F.find = F.find.take j ++ (F.find[j] :: F.find.drop (j + 1)) := by
    rw [← List.drop_eq_getElem_cons h, List.take_append_drop]
  conv => lhs; rw [e]
  rw [List.filter_append, List.filter_cons_of_pos hp]
theorem Fm.below_ind' {F : Fm} (hg : F.Good) (p : Nat → Prop) (h0 : p F.top.toNat)
    (h1 : ∀ k (hk : k < F.nodes.length), p (F.vars.toNat + k) → ∀ a ∈ F.nodes[k].args, p a.toNat) : ∀ j, F.below.getD j false = true → p j := by
  have gt := hg.topLt; have g0 := hg.v0
  intro j hj
  have hn := Fm.needed_eq hg
  by_cases ht : j = F.top.toNat
  · rw [ht]; exact h0
  rw [← hn, List.getD_eq_getElem?_getD, List.getElem?_set_ne (by omega), ← List.getD_eq_getElem?_getD] at hj
  rcases Nat.lt_or_ge F.top.toNat F.vars.toNat with hlt | hge
  · unfold Fm.under at hj
    rw [if_pos hlt] at hj
    rw [List.getD_eq_getElem?_getD] at hj
    by_cases hb : j < F.vars.toNat + F.nodes.length
    · rw [List.getElem?_replicate, if_pos hb] at hj; cases hj
    · rw [List.getElem?_replicate, if_neg hb] at hj; cases hj
  · obtain ⟨t, ht2⟩ : ∃ t, F.top.toNat = F.vars.toNat + t := ⟨F.top.toNat - F.vars.toNat, by omega⟩
    have htn : t < F.nodes.length := by omega
    rw [ht2] at hj h0
    exact Fm.under_ind hg htn p (h1 t htn h0) (fun k hk _ h2 => h1 k hk h2) j hj
theorem law_more {F : Fm} (hg : F.Good) {i e : Nat} (hi : i < F.nodes.length) (hb : F.below.getD (F.vars.toNat + i) false = true) (he : (F.under (F.vars.toNat + i)).getD e false = true) (hev : e < F.vars.toNat) (hl : F.nodes.length + 1 ≤ 128)
    {G : Fm} (hG : G = F.plus [⟨3, 0, [F.top, (e : Int)]⟩] (F.vars + F.nodes.length)) : G.Good ∧ G.below.getD (F.vars.toNat + i) false = true ∧ G.isMod (F.vars.toNat + i) = false := by
  have g0 := hg.v0; have gt := hg.topLt
  have hgG : G.Good := by
    rw [hG]
    refine hg.plus (by simpa using hl) (fun i hi => ?_) (by omega) (by simp; omega)
    simp only [List.length_cons, List.length_nil] at hi
    obtain rfl : i = 0 := by omega
    refine nodeErr_none.2 ⟨by simp, by simp, rfl, ?_, by simp⟩
    intro a ha
    simp at ha
    rcases ha with rfl | rfl <;> omega
  have hv : G.vars = F.vars := by rw [hG]; rfl
  have hn : G.nodes = F.nodes ++ [⟨3, 0, [F.top, (e : Int)]⟩] := by rw [hG]; rfl
  have ht : G.top.toNat = F.vars.toNat + F.nodes.length := by rw [hG]; simp [Fm.plus]; omega
  have hlen : G.nodes.length = F.nodes.length + 1 := by rw [hn]; simp
  have hold : ∀ k (hk : k < F.nodes.length) (hk' : k < G.nodes.length), G.nodes[k] = F.nodes[k] := by
    intro k hk hk'
    simp [hn, List.getElem_append_left hk]
  have hlast : ∀ (hk' : F.nodes.length < G.nodes.length), G.nodes[F.nodes.length].args = [F.top, (e : Int)] := by
    intro hk'
    simp [hn]
  have hbt := Fm.below_top hgG
  rw [ht] at hbt
  have hcl := Fm.below_closed hgG (i := F.nodes.length) (by omega) (by rw [hv]; exact hbt)
  rw [hlast (by omega)] at hcl
  have hsub : ∀ j, F.below.getD j false = true → G.below.getD j false = true := by
    refine Fm.below_ind' hg (fun j => G.below.getD j false = true) (hcl _ (by simp)) (fun k hk hk2 a ha => ?_)
    have := Fm.below_closed hgG (i := k) (by omega) (by rw [hv]; exact hk2)
    rw [hold k hk (by omega)] at this
    exact this a ha
  have hund : ∀ j, (F.under (F.vars.toNat + i)).getD j false = true → (G.under (F.vars.toNat + i)).getD j false = true := by
    refine Fm.under_ind hg hi (fun j => (G.under (F.vars.toNat + i)).getD j false = true) ?_ (fun k hk _ hk2 a ha => ?_)
    · have := Fm.under_args hgG (i := i) (by omega)
      rw [hold i hi (by omega), hv] at this
      exact this
    · have := Fm.under_closed hgG (i := i) (k := k) (by omega) (by omega) (by rw [hv]; exact hk2)
      rw [hold k hk (by omega), hv] at this
      exact this a ha
  refine ⟨hgG, hsub _ hb, ?_⟩
  cases hm : G.isMod (F.vars.toNat + i) with
  | false => rfl
  | true =>
    exfalso
    unfold Fm.isMod at hm
    simp only [Bool.and_eq_true] at hm
    have h1 := List.all_eq_true.1 hm.2 F.nodes.length (List.mem_range.2 (by omega))
    unfold Fm.modAt at h1
    rw [hv, hbt] at h1
    have h2 : (G.under (F.vars.toNat + i)).getD (F.vars.toNat + F.nodes.length) false = false := by
      cases hu : (G.under (F.vars.toNat + i)).getD (F.vars.toNat + F.nodes.length) false with
      | false => rfl
      | true => exact absurd (Fm.under_lt hgG hu) (by omega)
    have h3 : Nat.beq (F.vars.toNat + F.nodes.length) (F.vars.toNat + i) = false := by
      cases hq : Nat.beq (F.vars.toNat + F.nodes.length) (F.vars.toNat + i) with
      | false => rfl
      | true => have := Nat.eq_of_beq_eq_true hq; omega
    rw [h2, h3, show G.nodes.getD F.nodes.length ⟨0, 0, []⟩ = G.nodes[F.nodes.length]'(by omega) from by simp [hlen], hlast (by omega)] at h1
    have h4 := hund e he
    simp only [Bool.not_true, Bool.false_or] at h1
    have h5 := List.all_eq_true.1 h1 (e : Int) (by simp)
    rw [Int.toNat_natCast, h4] at h5
    cases h5
end Go.GL
