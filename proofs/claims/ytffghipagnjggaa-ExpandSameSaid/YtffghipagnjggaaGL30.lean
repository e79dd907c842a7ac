import Derived.Test.YtffghipagnjggaaGL26
namespace Go.GL
open Go.ChangeShapes Go.WideShapes Go.RowKit Go.Deep Go.Joins
set_option linter.unusedVariables false
set_option linter.unusedSimpArgs false
section
variable {H : Type} {enc : TypeId × Value → H} {P : Program} {w : World} {base : Nat} {spare : Nat → Bool} {held : Bool}
theorem array_two {cs : Array Value} (h : cs.size = 2) : ∃ a b, cs = (List.toArray [a, b]) := by
  obtain ⟨l⟩ := cs
  match l, h with
  | [a, b], _ => exact ⟨a, b, rfl⟩
theorem open_arr2 {r : Reach} {b0 : Nat} {t e : TypeId} {v : Value} {d : DataW H} {p : List MemPlace} (ht : P.underlying t = some (.array 2 e)) (he : P.underlying e = some (.int .i64)) (hC : P.cellsOf t = 2) (hce : P.cellsOf e = 1)
    (hv : Value.okWide P w r b0 t v) (h : DataW.Trod enc P w base spare held t v d p) : ∃ a b : Int, v = .agg (List.toArray [.int .i64 a, .int .i64 b]) ∧ I64 a ∧ I64 b := by
  simp only [Value.okWide, ht] at hv
  obtain ⟨cs, rfl, hsz, _⟩ := hv
  obtain ⟨c0, c1, rfl⟩ := array_two (hsz.trans hC)
  obtain ⟨fuel, hf⟩ := h
  simp only [Value.cells] at hf
  obtain ⟨xs, m, rfl, hx, hl, hn, hel⟩ := DataW.trod_array ht hf
  have h0 := hel 0 (by decide)
  have h1 := hel 1 (by decide)
  rw [hce] at h0 h1
  match xs, hn with
  | [y0, y1], _ =>
    simp at h0 h1
    obtain ⟨n0, q0, _, w0⟩ := DataW.trod_int he h0
    obtain ⟨n1, q1, _, w1⟩ := DataW.trod_int he h1
    simp only [List.cons.injEq, and_true] at q0 q1
    subst q0 q1
    exact ⟨n0, n1, rfl, wf_I64 w0, wf_I64 w1⟩
end
theorem tnode_mono {d : Nd} {m : Int} (h : d.Fits m) {a b c a' b' c' : Nat} (hs : a + b + c = d.args.length) (hs' : a' + b' + c' = d.args.length) (ha : a ≤ a') (hb : b ≤ b') (h2 : tnode d a b c ≠ 2) : tnode d a' b' c' = tnode d a b c := by
  have har := h.ar
  unfold tnode at h2 ⊢
  by_cases k0 : d.kind = 0
  · simp only [k0, if_true]
  simp only [k0, if_false] at h2 ⊢
  by_cases k1 : d.kind = 1
  · simp only [k1, if_true] at h2 ⊢
    unfold argsB at har
    rw [if_neg k0, if_pos k1] at har
    simp at har
    by_cases e1 : a = 1
    · have : a' = 1 := by omega
      subst e1 this; rfl
    · by_cases e2 : b = 1
      · have h3 : b' = 1 := by omega
        have h4 : a' = a := by omega
        subst e2 h3 h4; rfl
      · exfalso; apply h2
        unfold lev
        rw [decide_eq_false (by omega), decide_eq_false (by omega)]; rfl
  simp only [k1, if_false] at h2 ⊢
  by_cases k2 : d.kind = 2
  · simp only [k2, if_true] at h2 ⊢
    by_cases e1 : b = d.args.length
    · rw [show b' = b by omega, show a' = a by omega]
    · by_cases e2 : 0 < a
      · unfold lev
        rw [decide_eq_false (show ¬ ((b' : Int) = d.args.length) by omega), decide_eq_false (show ¬ ((b : Int) = d.args.length) by omega), decide_eq_true (show 0 < (a' : Int) by omega), decide_eq_true (show 0 < (a : Int) by omega)]
      · exfalso; apply h2
        unfold lev
        rw [decide_eq_false (by omega), decide_eq_false (by omega)]; rfl
  simp only [k2, if_false] at h2 ⊢
  by_cases k3 : d.kind = 3
  · simp only [k3, if_true] at h2 ⊢
    by_cases e1 : 0 < b
    · unfold lev
      rw [decide_eq_true (show 0 < (b' : Int) by omega), decide_eq_true (show 0 < (b : Int) by omega)]; rfl
    · by_cases e2 : a = d.args.length
      · rw [show b' = b by omega, show a' = a by omega]
      · exfalso; apply h2
        unfold lev
        rw [decide_eq_false (by omega), decide_eq_false (by omega)]; rfl
  simp only [k3, if_false] at h2 ⊢
  by_cases k4 : d.kind = 4
  · simp only [k4, if_true] at h2 ⊢
    by_cases e1 : d.k ≤ b
    · unfold lev
      rw [decide_eq_true (show d.k ≤ (b' : Int) by omega), decide_eq_true (show d.k ≤ (b : Int) by omega)]; rfl
    · by_cases e2 : (b : Int) + c < d.k
      · unfold lev
        rw [decide_eq_false (show ¬ (d.k ≤ (b' : Int)) by omega), decide_eq_false (show ¬ (d.k ≤ (b : Int)) by omega), decide_eq_true (show (b' : Int) + c' < d.k by omega), decide_eq_true e2]
      · exfalso; apply h2
        unfold lev
        rw [decide_eq_false (by omega), decide_eq_false (by omega)]; rfl
  simp only [k4, if_false] at h2 ⊢
  by_cases e : c = 0
  · rw [show c' = c by omega, show b' = b by omega]
  · exfalso; apply h2
    unfold lev
    rw [decide_eq_false (show ¬ ((c : Int) = 0) by omega)]; rfl
theorem tcOf_mono {f g : Nat → Nat} {b : Nat} {l : List Int} (h : ∀ a ∈ l, f a.toNat = b → g a.toNat = b) : tcOf f b l ≤ tcOf g b l := by
  unfold tcOf
  exact List.countP_mono_left (fun a ha h1 => by simpa using h a ha (by simpa using h1))
theorem law_learns {F : Fm} (hg : F.Good) {y n y' n' : Int} (hy : ∀ i, i < F.vars.toNat → bitB y i = true → bitB y' i = true) (hn : ∀ i, i < F.vars.toNat → bitB n i = true → bitB n' i = true)
    (hd : ∀ i, i < F.vars.toNat → bitB n' i = true → bitB y' i = false) : ∀ j, j < F.vars.toNat + F.nodes.length → F.tval y n j ≠ 2 → F.tval y' n' j = F.tval y n j := by
  intro j
  induction j using Nat.strongRecOn with
  | _ j ih =>
    intro hj h2
    rcases Nat.lt_or_ge j F.vars.toNat with hv | hv
    · rw [F.tval_event y n hv] at h2 ⊢
      rw [F.tval_event y' n' hv]
      have a1 := hy j hv; have a2 := hn j hv; have a3 := hd j hv
      unfold lev at h2 ⊢
      cases e1 : bitB y j with
      | true => rw [a1 e1]; simp only [cond_true]
      | false =>
        rw [e1] at h2
        cases e2 : bitB n j with
        | true => rw [a3 (a2 e2), a2 e2]
        | false => rw [e2] at h2; simp at h2
    · obtain ⟨i, rfl⟩ : ∃ i, j = F.vars.toNat + i := ⟨j - F.vars.toNat, by omega⟩
      have hi : i < F.nodes.length := by omega
      rw [F.tval_node hg y n hi] at h2 ⊢
      rw [F.tval_node hg y' n' hi]
      refine tnode_mono (hg.fits i hi) (tcOf_sum (fun a _ => F.tval_le hg y n a.toNat)) (tcOf_sum (fun a _ => F.tval_le hg y' n' a.toNat)) ?_ ?_ h2
      · exact tcOf_mono (fun a ha h0 => by rw [ih a.toNat (hg.argLt hi a ha) (by have := hg.argLt hi a ha; omega) (by omega)]; exact h0)
      · exact tcOf_mono (fun a ha h0 => by rw [ih a.toNat (hg.argLt hi a ha) (by have := hg.argLt hi a ha; omega) (by omega)]; exact h0)
def moreYes (y n b : Nat) : Nat := y ||| noPart n b
def moreNo (y n b0 b1 : Nat) : Nat := n ||| noPart (moreYes y n b0) b1
theorem noPart_testBit (y n i : Nat) : (noPart y n).testBit i = (n.testBit i && !y.testBit i) := by
  unfold noPart
  rw [Nat.testBit_xor, Nat.testBit_and]
  cases y.testBit i <;> cases n.testBit i <;> rfl
theorem moreYes_lt {y n b v : Nat} (hy : y < 2 ^ v) (hb : b < 2 ^ v) : moreYes y n b < 2 ^ v := Nat.or_lt_two_pow hy (noPart_lt hb)
theorem moreNo_lt {y n b0 b1 v : Nat} (hn : n < 2 ^ v) (hb : b1 < 2 ^ v) : moreNo y n b0 b1 < 2 ^ v := Nat.or_lt_two_pow hn (noPart_lt hb)
theorem more_and {y n b0 b1 : Nat} (h : y &&& n = 0) : moreYes y n b0 &&& moreNo y n b0 b1 = 0 := by
  refine Nat.eq_of_testBit_eq fun i => ?_
  have hi : (y &&& n).testBit i = false := by rw [h, Nat.zero_testBit]
  rw [Nat.testBit_and] at hi
  unfold moreNo
  rw [Nat.testBit_and, Nat.testBit_or, noPart_testBit, Nat.zero_testBit]
  unfold moreYes
  rw [Nat.testBit_or, noPart_testBit]
  revert hi
  cases y.testBit i <;> cases n.testBit i <;> cases b0.testBit i <;> cases b1.testBit i <;> simp
theorem law_learns' {F : Fm} (hg : F.Good) {y n b0 b1 : Nat} (hy : y < 2 ^ F.vars.toNat) (hn : n < 2 ^ F.vars.toNat) (h0 : b0 < 2 ^ F.vars.toNat) (h1 : b1 < 2 ^ F.vars.toNat) (h : y &&& n = 0) :
    ∀ j, j < F.vars.toNat + F.nodes.length → F.tval y n j ≠ 2 → F.tval (moreYes y n b0 : Nat) (moreNo y n b0 b1 : Nat) j = F.tval y n j := by
  have hv : F.vars.toNat ≤ 24 := by have := hg.v1; have := hg.v0; omega
  have ly := moreYes_lt (n := n) hy h0
  have ln := moreNo_lt (y := y) (b0 := b0) hn h1
  refine law_learns hg (fun i hi => ?_) (fun i hi => ?_) (fun i hi => ?_)
  · rw [bitB_nat (pow_lt63 hv hy) (by omega), bitB_nat (pow_lt63 hv ly) (by omega)]
    intro hb; unfold moreYes; rw [Nat.testBit_or, hb]; rfl
  · rw [bitB_nat (pow_lt63 hv hn) (by omega), bitB_nat (pow_lt63 hv ln) (by omega)]
    intro hb; unfold moreNo; rw [Nat.testBit_or, hb]; rfl
  · rw [bitB_nat (pow_lt63 hv ln) (by omega), bitB_nat (pow_lt63 hv ly) (by omega)]
    intro hb
    have := more_and (b0 := b0) (b1 := b1) h
    have hi2 : (moreYes y n b0 &&& moreNo y n b0 b1).testBit i = false := by rw [this, Nat.zero_testBit]
    rw [Nat.testBit_and, hb, Bool.and_true] at hi2
    exact hi2
theorem clone_off {v cap n : Nat} (h : v + n ≤ cap) (hn : 0 < n) : (bif cap == v then 0 else 0 + v * 1) = v := by
  rw [show (cap == v) = false from beq_eq_false_iff_ne.2 (by omega)]; simp
end Go.GL
namespace Go.GL
set_option linter.unusedVariables false
set_option linter.unusedSimpArgs false
section
variable {P : Program} {n : Nat} {S : List (Nat × Value)} {H : List Ent} {A : Array Oper} {Q : Exit → Act → World → Prop}
theorem TOps.buildArr0 {d T U p e rest} {zs zs' : List Value} {sz y m sz' y' : Nat} {E : TypeId} {g' : Bool} (hT : P.underlying T = some (.array m E)) (ht : TI P T true zs sz y) (hE : TI P E g' zs' sz' y') (hn : Nat.blt d n = true)
    (h : TOps P n ((d, .agg zs.toArray) :: S) H rest A Q) : TOps P n S H (⟨some d, .build T (List.toArray []), U, p, e, none⟩ :: rest) A Q :=
  TOps.pure rfl rfl hn (fun ac w hS _ => by
    obtain ⟨i, z, h1, h2, h3, h4, h5⟩ := ht.i
    simp [execOp, Instr.build, zeroValue, typeInfo, h1, h2, h3, run_underlying hT, hE.size, Instr.fill]) h
end
theorem tc_sum' {v : List Nat} {l : List Int} (h : ∀ a ∈ l, v.getD a.toNat 2 ≤ 2) : tc v 0 l + tc v 1 l + tc v 2 l = l.length :=
  tcOf_sum (f := fun j => v.getD j 2) h
section
variable {α : Type} (f : List α → Nd → α) (z : α)
def refG (v : Nat) (ev : List α) (nodes : List Nd) (k : Nat) : List α := (genFrom f ev (nodes.take k)).drop v ++ List.replicate (nodes.length - k) z
variable {f z}
theorem refG_length {v : Nat} {ev : List α} {nodes : List Nd} {k : Nat} (he : ev.length = v) (hk : k ≤ nodes.length) : (refG f z v ev nodes k).length = nodes.length := by
  unfold refG
  rw [List.length_append, List.length_drop, genFrom_length, List.length_take, List.length_replicate]
  omega
theorem refG_set {v : Nat} {ev : List α} {nodes : List Nd} {k : Nat} (he : ev.length = v) (hk : k < nodes.length) :
    (refG f z v ev nodes k).set k (f (genFrom f ev (nodes.take k)) nodes[k]) = refG f z v ev nodes (k + 1) := by
  have hl : ((genFrom f ev (nodes.take k)).drop v).length = k := by rw [List.length_drop, genFrom_length, List.length_take]; omega
  unfold refG
  rw [List.set_append_right _ _ (by omega), hl, Nat.sub_self, genFrom_take_succ f hk, List.drop_append_of_le_length (by rw [genFrom_length, List.length_take]; omega), show nodes.length - k = (nodes.length - (k + 1)) + 1 by omega, List.replicate_succ]
  simp
theorem refG_get {v : Nat} {ev : List α} {nodes : List Nd} {k a : Nat} (w : α) (he : ev.length = v) (hk : k ≤ nodes.length) (h1 : v ≤ a) (h2 : a < v + k) : (refG f z v ev nodes k).getD (a - v) w = (genFrom f ev (nodes.take k)).getD a w := by
  have hl : ((genFrom f ev (nodes.take k)).drop v).length = k := by rw [List.length_drop, genFrom_length, List.length_take]; omega
  unfold refG
  rw [List.getD_eq_getElem?_getD, List.getElem?_append_left (by omega), List.getElem?_drop, List.getD_eq_getElem?_getD]
  congr 3
  omega
theorem refG_all {v : Nat} {ev : List α} {nodes : List Nd} : refG f z v ev nodes nodes.length = (genFrom f ev nodes).drop v := by
  unfold refG
  simp
theorem refG_zero {v : Nat} {ev : List α} {nodes : List Nd} (he : ev.length = v) : refG f z v ev nodes 0 = List.replicate nodes.length z := by
  unfold refG
  simp [genFrom, ← he]
end
def ofT (v : Int) (vs : List Nat) (y n : Int) (a : Int) : Nat := if v ≤ a then vs.getD (a - v).toNat 2 else lev (bitB y a.toNat) (bitB n a.toNat)
theorem ofT_eq {v : Nat} {y n : Int} {nodes : List Nd} {k : Nat} {a : Int} (hk : k ≤ nodes.length) (h0 : 0 ≤ a) (h1 : a < (v : Int) + k) :
    ofT v (refG tfun 0 v (tevents v y n) nodes k) y n a = (genFrom tfun (tevents v y n) (nodes.take k)).getD a.toNat 2 := by
  unfold ofT
  split
  · rw [← refG_get 2 (tevents_length v y n) hk (a := a.toNat) (by omega) (by omega)]
    congr 1
    omega
  · rw [genFrom_getD_lt _ _ _ _ _ (by rw [tevents_length]; omega)]
    simp [tevents, show a.toNat < v by omega]
theorem lev_xor (a b : Nat) : lev (decide ((a : Int) = 0) && decide ((b : Int).tmod 2 = 1)) (decide ((a : Int) = 0)) = lev (decide ((a : Int) = 0) && decide ((b : Int).tmod 2 = 1)) (decide ((a : Int) = 0) && decide ((b : Int).tmod 2 = 0)) := by
  have ht : ((b : Int).tmod 2) = ((b % 2 : Nat) : Int) := by norm_cast
  rw [ht]
  generalize decide ((a : Int) = 0) = A
  rcases Nat.mod_two_eq_zero_or_one b with h | h <;> rw [h] <;> cases A <;> rfl
theorem lev_tt {y n n' : Bool} (h : y = false → n = n') : lev y n = lev y n' := by
  cases y with
  | true => rfl
  | false => rw [h rfl]
end Go.GL
namespace Go.GL
theorem Fm.cubeErr_ne {F : Fm} {y n e : Int} (h : F.cubeErr y n = some e) : e ≠ 0 := by
  unfold Fm.cubeErr at h
  cases he : F.err with
  | some e' => rw [he] at h; cases h; exact Fm.err_ne_zero he
  | none =>
    rw [he] at h
    simp only at h
    split at h
    · cases h; decide
    · split at h
      · cases h; decide
      · cases h
theorem ofT_tval {F : Fm} (hg : F.Good) (y n : Int) {a : Int} (h0 : 0 ≤ a) : ofT F.vars (F.tnodeVals y n) y n a = F.tval y n a.toNat := by
  have g0 := hg.v0
  unfold ofT
  split
  · rw [F.tnodeVals_getD, show F.vars.toNat + (a - F.vars).toNat = a.toNat by omega]
  · rw [F.tval_event y n (by omega)]
end Go.GL
namespace Go.GL
set_option linter.unusedVariables false
set_option linter.unusedSimpArgs false
theorem tnode_full {d : Nd} {m : Int} (h : d.Fits m) {a b : Nat} (hs : a + b = d.args.length) : tnode d a b 0 = bif nodeVal d b then 1 else 0 := by
  have har := h.ar
  have hk := h.kk.1
  unfold tnode nodeVal
  by_cases k0 : d.kind = 0
  · simp only [k0, if_true]
    rcases hk k0 with e | e <;> rw [e] <;> rfl
  simp only [k0, if_false]
  by_cases k1 : d.kind = 1
  · simp only [k1, if_true]
    unfold argsB at har
    rw [if_neg k0, if_pos k1] at har
    simp at har
    rcases (show (a = 0 ∧ b = 1) ∨ (a = 1 ∧ b = 0) by omega) with ⟨rfl, rfl⟩ | ⟨rfl, rfl⟩ <;> rfl
  simp only [k1, if_false]
  by_cases k2 : d.kind = 2
  · simp only [k2, if_true]
    by_cases e : b = d.args.length
    · rw [decide_eq_true (show (b : Int) = d.args.length by omega)]; rfl
    · rw [decide_eq_false (show ¬ ((b : Int) = d.args.length) by omega), decide_eq_true (show 0 < (a : Int) by omega)]; rfl
  simp only [k2, if_false]
  by_cases k3 : d.kind = 3
  · simp only [k3, if_true]
    by_cases e : 0 < b
    · rw [decide_eq_true (show 0 < (b : Int) by omega)]; rfl
    · rw [decide_eq_false (show ¬ (0 < (b : Int)) by omega), decide_eq_true (show (a : Int) = d.args.length by omega)]; rfl
  simp only [k3, if_false]
  by_cases k4 : d.kind = 4
  · simp only [k4, if_true]
    by_cases e : d.k ≤ b
    · rw [decide_eq_true e]; rfl
    · rw [decide_eq_false e, decide_eq_true (show (b : Int) + (0 : Nat) < d.k by omega)]; rfl
  simp only [k4, if_false]
  have k5 : d.kind = 5 := by have := h.k0; have := h.k1; omega
  simp only [k5, if_true]
  have ht : ((b : Int).tmod 2) = ((b % 2 : Nat) : Int) := by norm_cast
  rw [ht]
  rcases Nat.mod_two_eq_zero_or_one b with e | e <;> rw [e] <;> rfl
theorem tval_full {F : Fm} (hg : F.Good) {y n : Int} (h : ∀ i, i < F.vars.toNat → bitB n i = !bitB y i) : ∀ j, j < F.vars.toNat + F.nodes.length → F.tval y n j = bif F.val y j then 1 else 0 := by
  intro j
  induction j using Nat.strongRecOn with
  | _ j ih =>
    intro hj
    rcases Nat.lt_or_ge j F.vars.toNat with hv | hv
    · rw [F.tval_event y n hv, F.val_event y hv, h j hv]
      cases bitB y j <;> rfl
    · obtain ⟨i, rfl⟩ : ∃ i, j = F.vars.toNat + i := ⟨j - F.vars.toNat, by omega⟩
      have hi : i < F.nodes.length := by omega
      rw [F.tval_node hg y n hi, F.val_node hg y hi]
      have hall : ∀ a ∈ F.nodes[i].args, F.tval y n a.toNat = bif F.val y a.toNat then 1 else 0 := fun a ha => ih a.toNat (hg.argLt hi a ha) (by have := hg.argLt hi a ha; omega)
      have h2 : tcOf (F.tval y n) 2 F.nodes[i].args = 0 := by
        unfold tcOf
        rw [List.countP_eq_zero]
        intro a ha
        rw [hall a ha]
        cases F.val y a.toNat <;> decide
      have h1 : tcOf (F.tval y n) 1 F.nodes[i].args = cntOf (F.val y) F.nodes[i].args := by
        unfold tcOf cntOf
        refine List.countP_congr fun a ha => ?_
        rw [hall a ha]
        cases F.val y a.toNat <;> decide
      have hs := tcOf_sum (f := F.tval y n) (l := F.nodes[i].args) (fun a _ => F.tval_le hg y n a.toNat)
      rw [h2] at hs ⊢
      rw [h1] at hs ⊢
      exact tnode_full (hg.fits i hi) (by omega)
theorem noPart_full {s v i : Nat} (hi : i < v) : (noPart s (2 ^ v - 1)).testBit i = !s.testBit i := by
  rw [noPart_testBit, Nat.testBit_two_pow_sub_one]
  simp [hi]
theorem law_sound {F : Fm} (hg : F.Good) {y n s : Nat} (hy : y < 2 ^ F.vars.toNat) (hn : n < 2 ^ F.vars.toNat) (hs : s < 2 ^ F.vars.toNat)
    (h1 : ∀ i, y.testBit i = true → s.testBit i = true) (h2 : ∀ i, n.testBit i = true → s.testBit i = false) :
    (∀ j, j < F.vars.toNat + F.nodes.length → F.tval y n j ≠ 2 → (decide (F.tval y n j = 1)) = F.val s j) ∧
    (∀ j, j < F.vars.toNat + F.nodes.length → F.tval s (noPart s (2 ^ F.vars.toNat - 1) : Nat) j ≠ 2) := by
  have hv : F.vars.toNat ≤ 24 := by have := hg.v1; have := hg.v0; omega
  have hpos := Nat.two_pow_pos F.vars.toNat
  have hc : noPart s (2 ^ F.vars.toNat - 1) < 2 ^ F.vars.toNat := noPart_lt (by omega)
  have hfull := tval_full hg (y := (s : Int)) (n := (noPart s (2 ^ F.vars.toNat - 1) : Nat)) (fun i hi => by
    rw [bitB_nat (pow_lt63 hv hc) (by omega), bitB_nat (pow_lt63 hv hs) (by omega), noPart_full hi])
  refine ⟨fun j hj hne => ?_, fun j hj => ?_⟩
  · have := law_learns hg (y := (y : Int)) (n := (n : Int)) (y' := (s : Int)) (n' := (noPart s (2 ^ F.vars.toNat - 1) : Nat)) (fun i hi hb => ?_) (fun i hi hb => ?_) (fun i hi hb => ?_) j hj hne
    · rw [← this, hfull j hj]
      cases F.val s j <;> rfl
    · rw [bitB_nat (pow_lt63 hv hy) (by omega)] at hb
      rw [bitB_nat (pow_lt63 hv hs) (by omega)]
      exact h1 i hb
    · rw [bitB_nat (pow_lt63 hv hn) (by omega)] at hb
      rw [bitB_nat (pow_lt63 hv hc) (by omega), noPart_full hi, h2 i hb]; rfl
    · rw [bitB_nat (pow_lt63 hv hc) (by omega), noPart_full hi] at hb
      rw [bitB_nat (pow_lt63 hv hs) (by omega)]
      simpa using hb
  · rw [hfull j hj]
    cases F.val s j <;> decide
theorem iand_comm (a b : Int) : iand a b = iand b a := by
  unfold iand
  rw [BitVec.and_comm]
theorem iand_low' {z : Int} {s v : Nat} (hs : s < 2 ^ v) (hv : v ≤ 62) : iand s z = ((s &&& lowBits z v : Nat) : Int) := by
  rw [iand_comm, iand_low hs hv, Nat.and_comm]
def sets3 (y n z v : Nat) : List Nat := [y, noPart n (2 ^ v - 1), y ||| (noPart n (2 ^ v - 1) &&& z)]
theorem sets3_ok {y n z v : Nat} (hy : y < 2 ^ v) (hn : n < 2 ^ v) (h : y &&& n = 0) : ∀ s ∈ sets3 y n z v, s < 2 ^ v ∧ (∀ i, y.testBit i = true → s.testBit i = true) ∧ (∀ i, n.testBit i = true → s.testBit i = false) := by
  have hpos := Nat.two_pow_pos v
  have hc : noPart n (2 ^ v - 1) < 2 ^ v := noPart_lt (by omega)
  have hd : ∀ i, n.testBit i = true → y.testBit i = false := by
    intro i hi
    have : (y &&& n).testBit i = false := by rw [h, Nat.zero_testBit]
    rw [Nat.testBit_and, hi, Bool.and_true] at this
    exact this
  have hlt : ∀ i, y.testBit i = true → i < v := by
    intro i hi
    rcases Nat.lt_or_ge i v with hlt | hge
    · exact hlt
    · rw [Nat.testBit_lt_two_pow (Nat.lt_of_lt_of_le hy (Nat.pow_le_pow_right (by decide) hge))] at hi; cases hi
  intro s hs
  simp only [sets3, List.mem_cons, List.not_mem_nil, or_false] at hs
  rcases hs with rfl | rfl | rfl
  · exact ⟨hy, fun _ h => h, hd⟩
  · refine ⟨hc, fun i hi => ?_, fun i hi => ?_⟩
    · rw [noPart_full (hlt i hi)]
      cases hni : n.testBit i with
      | false => rfl
      | true => rw [hd i hni] at hi; cases hi
    · rw [noPart_testBit, hi]; simp
  · refine ⟨Nat.or_lt_two_pow hy (Nat.lt_of_le_of_lt Nat.and_le_left hc), fun i hi => ?_, fun i hi => ?_⟩
    · rw [Nat.testBit_or, hi]; rfl
    · rw [Nat.testBit_or, Nat.testBit_and, hd i hi, noPart_testBit, hi]; simp
end Go.GL
namespace Go.GL
set_option linter.unusedVariables false
set_option linter.unusedSimpArgs false
theorem next_event {F : Fm} (hg : F.Good) (y n : Int) (h : F.tval y n F.top.toNat = 2) : ∃ e : Nat, F.next y n = (e : Int) ∧ e < F.vars.toNat ∧ F.below.getD e false = true ∧ F.tval y n e = 2 := by
  have key : ∀ f t, t < f → F.below.getD t false = true → F.tval y n t = 2 → nextL F.vars.toNat F.nodes (F.tval y n) f t < F.vars.toNat ∧ F.below.getD (nextL F.vars.toNat F.nodes (F.tval y n) f t) false = true ∧ F.tval y n (nextL F.vars.toNat F.nodes (F.tval y n) f t) = 2 := by
    intro f
    induction f with
    | zero => intro t ht; omega
    | succ f ih =>
      intro t ht hb h2
      unfold nextL
      split
      · exact ⟨‹_›, hb, h2⟩
      · have hlt := Fm.below_lt hb
        obtain ⟨i, rfl⟩ : ∃ i, t = F.vars.toNat + i := ⟨t - F.vars.toNat, by omega⟩
        have hi : i < F.nodes.length := by omega
        obtain ⟨k, hk, hk1, hk2⟩ := Fm.next_arg hg y n hi h2
        simp only [Nat.add_sub_cancel_left]
        rw [show F.nodes.getD i ⟨0, 0, []⟩ = F.nodes[i] from by simp [hi], hk1, Int.toNat_natCast, show F.nodes[i].args.getD k 0 = F.nodes[i].args[k] from by simp [hk]]
        have ha := List.getElem_mem hk
        have := hg.argLt hi _ ha
        exact ih _ (by omega) (Fm.below_closed hg hi hb _ ha) hk2
  have := key (F.top.toNat + 1) F.top.toNat (by omega) (Fm.below_top hg) h
  refine ⟨nextL F.vars.toNat F.nodes (F.tval y n) (F.top.toNat + 1) F.top.toNat, ?_, this.1, this.2.1, this.2.2⟩
  unfold Fm.next
  rw [if_neg (by omega)]
theorem next_decided {F : Fm} (hg : F.Good) (y n : Int) : decide (((F.tval y n F.top.toNat : Nat) : Int) ≠ 2) = decide (F.next y n = -1) := by
  refine decide_eq_decide.2 ?_
  constructor
  · intro h
    unfold Fm.next
    rw [if_pos (by omega)]
  · intro h h2
    obtain ⟨e, he, _⟩ := next_event hg y n (by omega)
    rw [he] at h
    omega
def kn (y n : Nat) : Nat → Nat
  | 0 => 0
  | v + 1 => kn y n v + (if y.testBit v || n.testBit v then 1 else 0)
theorem kn_le (y n : Nat) : ∀ v, kn y n v ≤ v
  | 0 => Nat.le_refl _
  | v + 1 => by have := kn_le y n v; unfold kn; split <;> omega
theorem kn_more {y n y' n' e : Nat} (h : ∀ i, i ≠ e → (y'.testBit i || n'.testBit i) = (y.testBit i || n.testBit i)) (h0 : (y.testBit e || n.testBit e) = false) (h1 : (y'.testBit e || n'.testBit e) = true) :
    ∀ v, kn y' n' v = kn y n v + (if e < v then 1 else 0)
  | 0 => by simp [kn]
  | v + 1 => by
    have ih := kn_more h h0 h1 v
    unfold kn
    rw [ih]
    by_cases he : v = e
    · subst he
      rw [h0, h1]; simp
    · rw [h v he]
      by_cases hlt : e < v
      · rw [if_pos hlt, if_pos (show e < v + 1 by omega)]; omega
      · rw [if_neg hlt, if_neg (show ¬ e < v + 1 by omega)]; simp only [Nat.add_zero]
structure SplitOk (v k y n : Nat) : Prop where
  y1 : y < 2 ^ v
  n1 : n < 2 ^ v
  yn : y &&& n = 0
  kk : k ≤ kn y n v
theorem SplitOk.yes {v k y n e : Nat} (h : SplitOk v k y n) (he : e < v) (hy : y.testBit e = false) (hn : n.testBit e = false) : SplitOk v (k + 1) (y ||| 2 ^ e) n := by
  refine ⟨Nat.or_lt_two_pow h.y1 (Nat.pow_lt_pow_right (by decide) he), h.n1, ?_, ?_⟩
  · refine Nat.eq_of_testBit_eq fun i => ?_
    have := congrArg (fun z => z.testBit i) h.yn
    simp only [Nat.testBit_and, Nat.zero_testBit] at this
    rw [Nat.testBit_and, Nat.testBit_or, Nat.zero_testBit]
    by_cases e1 : e = i
    · subst e1; rw [hn]; simp
    · rw [Nat.testBit_two_pow_of_ne e1, Bool.or_false, this]
  · have := kn_more (y := y) (n := n) (y' := y ||| 2 ^ e) (n' := n) (e := e) (fun i hi => by rw [Nat.testBit_or, Nat.testBit_two_pow_of_ne (fun e1 => hi e1.symm), Bool.or_false]) (by rw [hy, hn]; rfl) (by rw [Nat.testBit_or, Nat.testBit_two_pow_self]; simp) v
    rw [this, if_pos he]
    have := h.kk
    omega
theorem SplitOk.no {v k y n e : Nat} (h : SplitOk v k y n) (he : e < v) (hy : y.testBit e = false) (hn : n.testBit e = false) : SplitOk v (k + 1) y (n ||| 2 ^ e) := by
  refine ⟨h.y1, Nat.or_lt_two_pow h.n1 (Nat.pow_lt_pow_right (by decide) he), ?_, ?_⟩
  · refine Nat.eq_of_testBit_eq fun i => ?_
    have := congrArg (fun z => z.testBit i) h.yn
    simp only [Nat.testBit_and, Nat.zero_testBit] at this
    rw [Nat.testBit_and, Nat.testBit_or, Nat.zero_testBit]
    by_cases e1 : e = i
    · subst e1; rw [hy]; simp
    · rw [Nat.testBit_two_pow_of_ne e1, Bool.or_false, this]
  · have := kn_more (y := y) (n := n) (y' := y) (n' := n ||| 2 ^ e) (e := e) (fun i hi => by rw [Nat.testBit_or, Nat.testBit_two_pow_of_ne (fun e1 => hi e1.symm), Bool.or_false]) (by rw [hy, hn]; rfl) (by rw [Nat.testBit_or, Nat.testBit_two_pow_self]; simp) v
    rw [this, if_pos he]
    have := h.kk
    omega
theorem unknown_bits {F : Fm} (hg : F.Good) {y n e : Nat} (hy : y < 2 ^ F.vars.toNat) (hn : n < 2 ^ F.vars.toNat) (he : e < F.vars.toNat) (h : F.tval y n e = 2) : y.testBit e = false ∧ n.testBit e = false := by
  have hv : F.vars.toNat ≤ 24 := by have := hg.v1; have := hg.v0; omega
  rw [F.tval_event _ _ he] at h
  have := lev_two h
  rw [bitB_nat (pow_lt63 hv hy) (by omega), bitB_nat (pow_lt63 hv hn) (by omega)] at this
  exact this
theorem law_split_end {F : Fm} (hg : F.Good) {y n : Nat} (hy : y < 2 ^ F.vars.toNat) (hn : n < 2 ^ F.vars.toNat) (h : y &&& n = 0) (h2 : F.tval y n F.top.toNat ≠ 2) : decide (((F.tval y n F.top.toNat : Nat) : Int) = 1) = F.value y := by
  have gt := hg.topLt; have g0 := hg.v0
  have := (law_sound hg hy hn hy (fun _ h => h) (fun i hi => by
    have := congrArg (fun z => z.testBit i) h
    simp only [Nat.testBit_and, Nat.zero_testBit, hi, Bool.and_true] at this
    exact this)).1 F.top.toNat (by omega) h2
  rw [Fm.value_eq, ← this]
  exact decide_eq_decide.2 (by omega)
end Go.GL
