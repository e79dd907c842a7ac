import Derived.Test.YtffghipagnjggaaGL20
namespace Go.GL
set_option linter.unusedVariables false
def lev (yes no : Bool) : Nat := bif yes then 1 else bif no then 0 else 2
theorem lev_le (y n : Bool) : lev y n ≤ 2 := by cases y <;> cases n <;> decide
def tnode (d : Nd) (n0 n1 n2 : Nat) : Nat :=
  if d.kind = 0 then d.k.toNat else if d.kind = 1 then lev (decide ((n0 : Int) = 1)) (decide ((n1 : Int) = 1))
  else if d.kind = 2 then lev (decide ((n1 : Int) = d.args.length)) (decide (0 < (n0 : Int)))
  else if d.kind = 3 then lev (decide (0 < (n1 : Int))) (decide ((n0 : Int) = d.args.length))
  else if d.kind = 4 then lev (decide (d.k ≤ n1)) (decide ((n1 : Int) + n2 < d.k))
  else lev (decide ((n2 : Int) = 0) && decide ((n1 : Int).tmod 2 = 1)) (decide ((n2 : Int) = 0) && decide ((n1 : Int).tmod 2 = 0))
def tc (v : List Nat) (b : Nat) (args : List Int) : Nat := args.countP (fun a => v.getD a.toNat 2 == b)
def tfun (v : List Nat) (d : Nd) : Nat := tnode d (tc v 0 d.args) (tc v 1 d.args) (tc v 2 d.args)
def tevents (v : Nat) (yes no : Int) : List Nat := (List.range v).map (fun i => lev (bitB yes i) (bitB no i))
def Fm.tvals (F : Fm) (yes no : Int) : List Nat := genFrom tfun (tevents F.vars.toNat yes no) F.nodes
def Fm.tval (F : Fm) (yes no : Int) (j : Nat) : Nat := (F.tvals yes no).getD j 2
def Fm.cubeErr (F : Fm) (yes no : Int) : Option Int :=
  match F.err with
  | some e => some e
  | none => if yes < 0 ∨ ((2 ^ F.vars.toNat : Nat) : Int) ≤ yes ∨ no < 0 ∨ ((2 ^ F.vars.toNat : Nat) : Int) ≤ no then some 3 else if iand yes no ≠ 0 then some 6 else none
theorem Fm.cubeErr_none {F : Fm} {yes no : Int} (h : F.cubeErr yes no = none) : F.Good ∧ 0 ≤ yes ∧ yes < ((2 ^ F.vars.toNat : Nat) : Int) ∧ 0 ≤ no ∧ no < ((2 ^ F.vars.toNat : Nat) : Int) ∧ iand yes no = 0 := by
  unfold Fm.cubeErr at h
  cases he : F.err with
  | some e => rw [he] at h; cases h
  | none =>
    rw [he] at h
    simp only at h
    split at h
    · cases h
    · split at h
      · cases h
      · exact ⟨(Fm.good_iff F).1 he, by omega, by omega, by omega, by omega, by omega⟩
theorem Fm.cubeErr_good {F : Fm} (hg : F.Good) {yes no : Nat} (hy : yes < 2 ^ F.vars.toNat) (hn : no < 2 ^ F.vars.toNat) (h : yes &&& no = 0) : F.cubeErr yes no = none := by
  have hv : F.vars.toNat ≤ 24 := by have := hg.v1; have := hg.v0; omega
  unfold Fm.cubeErr
  rw [(Fm.good_iff F).2 hg]
  simp only
  rw [if_neg (by omega), iand_nat (pow_lt63 hv hy) (pow_lt63 hv hn), h]
  rfl
theorem tevents_length (v : Nat) (y n : Int) : (tevents v y n).length = v := by simp [tevents]
theorem Fm.tvals_length (F : Fm) (y n : Int) : (F.tvals y n).length = F.vars.toNat + F.nodes.length := by
  unfold Fm.tvals; rw [genFrom_length, tevents_length]
theorem tc_congr {v w : List Nat} {b : Nat} {l : List Int} (h : ∀ a ∈ l, v.getD a.toNat 2 = w.getD a.toNat 2) : tc v b l = tc w b l := by
  unfold tc
  exact List.countP_congr (fun a ha => by rw [h a ha])
theorem tfun_congr {v w : List Nat} {d : Nd} (h : ∀ a ∈ d.args, v.getD a.toNat 2 = w.getD a.toNat 2) : tfun v d = tfun w d := by
  unfold tfun
  rw [tc_congr h, tc_congr h, tc_congr h]
def tcOf (f : Nat → Nat) (b : Nat) (args : List Int) : Nat := args.countP (fun a => f a.toNat == b)
theorem Fm.tval_event (F : Fm) (y n : Int) {j : Nat} (hj : j < F.vars.toNat) : F.tval y n j = lev (bitB y j) (bitB n j) := by
  unfold Fm.tval Fm.tvals
  rw [genFrom_getD_lt _ _ _ _ _ (by rw [tevents_length]; exact hj)]
  simp [tevents, hj]
theorem Fm.tval_node {F : Fm} (hg : F.Good) (y n : Int) {i : Nat} (hi : i < F.nodes.length) :
    F.tval y n (F.vars.toNat + i) = tnode F.nodes[i] (tcOf (F.tval y n) 0 F.nodes[i].args) (tcOf (F.tval y n) 1 F.nodes[i].args) (tcOf (F.tval y n) 2 F.nodes[i].args) := by
  have := genFrom_node tfun 2 F.nodes (tevents F.vars.toNat y n) i hi (by rw [tevents_length]; exact hg.argLt hi) (fun v w h => tfun_congr h)
  rw [tevents_length] at this
  exact this
theorem tnode_le {d : Nd} {m : Int} (h : d.Fits m) (a b c : Nat) : tnode d a b c ≤ 2 := by
  unfold tnode
  have hk := h.kk.1
  split
  · have := hk ‹_›; omega
  · (repeat' split) <;> exact lev_le _ _
theorem tvals_le {F : Fm} (hg : F.Good) (y n : Int) (k : Nat) (hk : k ≤ F.nodes.length) : ∀ x ∈ genFrom tfun (tevents F.vars.toNat y n) (F.nodes.take k), x ≤ 2 := by
  induction k with
  | zero =>
    intro x hx
    simp only [List.take_zero, genFrom, tevents, List.mem_map] at hx
    obtain ⟨i, _, rfl⟩ := hx
    exact lev_le _ _
  | succ k ih =>
    intro x hx
    rw [genFrom_take_succ tfun (by omega), List.mem_append, List.mem_singleton] at hx
    rcases hx with hx | rfl
    · exact ih (by omega) x hx
    · exact tnode_le (hg.fits k (by omega)) _ _ _
theorem getD_le2 {l : List Nat} (h : ∀ x ∈ l, x ≤ 2) (j : Nat) : l.getD j 2 ≤ 2 := by
  rw [List.getD_eq_getElem?_getD]
  cases hj : l[j]? with
  | none => simp
  | some x => exact h x (List.mem_of_getElem? hj)
def tcs (v : List Nat) (args : List Int) : List Nat := [tc v 0 args, tc v 1 args, tc v 2 args]
theorem tc_take_succ {v : List Nat} {b : Nat} {l : List Int} {k : Nat} (hk : k < l.length) : tc v b (l.take (k + 1)) = tc v b (l.take k) + (if v.getD l[k].toNat 2 == b then 1 else 0) := by
  unfold tc
  rw [List.take_succ_eq_append_getElem hk, List.countP_append]
  simp [List.countP_cons, List.countP_nil]
theorem tcs_take_succ {v : List Nat} {l : List Int} {k : Nat} (hk : k < l.length) (h : v.getD l[k].toNat 2 ≤ 2) :
    tcs v (l.take (k + 1)) = (tcs v (l.take k)).set (v.getD l[k].toNat 2) ((tcs v (l.take k)).getD (v.getD l[k].toNat 2) 0 + 1) := by
  unfold tcs
  rw [tc_take_succ hk, tc_take_succ hk, tc_take_succ hk]
  rcases (show v.getD l[k].toNat 2 = 0 ∨ v.getD l[k].toNat 2 = 1 ∨ v.getD l[k].toNat 2 = 2 by omega) with e | e | e <;> rw [e] <;> simp
theorem tc_le (v : List Nat) (b : Nat) (l : List Int) : tc v b l ≤ l.length := List.countP_le_length
theorem tcs_getD_le (v : List Nat) (l : List Int) (j : Nat) : (tcs v l).getD j 0 ≤ l.length := by
  unfold tcs
  rcases j with _ | _ | _ | j
  · exact tc_le _ _ _
  · exact tc_le _ _ _
  · exact tc_le _ _ _
  · simp
theorem lev_two {y n : Bool} (h : lev y n = 2) : y = false ∧ n = false := by
  cases y <;> cases n <;> simp [lev] at h ⊢
theorem tnode_unknown {d : Nd} {m : Int} (h : d.Fits m) {a b c : Nat} (hs : a + b + c = d.args.length) (h2 : tnode d a b c = 2) : 0 < c := by
  have har := h.ar
  have hk := h.kk.1
  have k5 := h.k1
  unfold tnode at h2
  split at h2
  · have := hk ‹_›; omega
  rename_i h0
  split at h2
  · rename_i h1
    unfold argsB at har
    rw [if_neg h0, if_pos h1] at har
    have h3 := lev_two h2
    simp at har h3
    omega
  split at h2
  · have h3 := lev_two h2
    simp at h3
    omega
  split at h2
  · have h3 := lev_two h2
    simp at h3
    omega
  split at h2
  · have h3 := lev_two h2
    simp at h3
    omega
  · have h3 := lev_two h2
    rcases Nat.eq_zero_or_pos c with e | e
    · subst e
      have ht : ((b : Int).tmod 2) = ((b % 2 : Nat) : Int) := by norm_cast
      rw [ht] at h3
      obtain ⟨h3, h4⟩ := h3
      simp only [Int.natCast_zero, decide_true, Bool.true_and, decide_eq_false_iff_not] at h3 h4
      omega
    · exact e
theorem nats_getz (z : Nat) {l : List Nat} {i : Nat} (hi : i < l.length) : (nats l)[i]? = some (.int .i64 (l.getD i z : Nat)) := by
  simp [hi]
def Fm.tnodeVals (F : Fm) (y n : Int) : List Nat := (F.tvals y n).drop F.vars.toNat
theorem Fm.tnodeVals_length (F : Fm) (y n : Int) : (F.tnodeVals y n).length = F.nodes.length := by
  unfold Fm.tnodeVals; rw [List.length_drop, F.tvals_length]; omega
theorem Fm.tnodeVals_getD (F : Fm) (y n : Int) (i : Nat) : (F.tnodeVals y n).getD i 2 = F.tval y n (F.vars.toNat + i) := by
  unfold Fm.tnodeVals Fm.tval
  rw [List.getD_eq_getElem?_getD, List.getElem?_drop, List.getD_eq_getElem?_getD]
def noPart (y n : Nat) : Nat := n ^^^ (n &&& y)
theorem noPart_lt {y n v : Nat} (hn : n < 2 ^ v) : noPart y n < 2 ^ v := Nat.xor_lt_two_pow hn (Nat.lt_of_le_of_lt Nat.and_le_left hn)
theorem noPart_and (y n : Nat) : y &&& noPart y n = 0 := by
  refine Nat.eq_of_testBit_eq fun i => ?_
  unfold noPart
  rw [Nat.testBit_and, Nat.testBit_xor, Nat.testBit_and, Nat.zero_testBit]
  cases y.testBit i <;> cases n.testBit i <;> rfl
def nextL (v : Nat) (nodes : List Nd) (tv : Nat → Nat) : Nat → Nat → Nat
  | 0, at_ => at_
  | f + 1, at_ => if at_ < v then at_ else
      let args := (nodes.getD (at_ - v) ⟨0, 0, []⟩).args
      nextL v nodes tv f (args.getD (firstI (fun a => decide (tv a.toNat = 2)) args).toNat 0).toNat
def Fm.next (F : Fm) (y n : Int) : Int := if F.tval y n F.top.toNat ≠ 2 then -1 else nextL F.vars.toNat F.nodes (F.tval y n) (F.top.toNat + 1) F.top.toNat
theorem tcOf_pos {f : Nat → Nat} {b : Nat} {args : List Int} (h : 0 < tcOf f b args) : ∃ a ∈ args, f a.toNat = b := by
  unfold tcOf at h
  rw [List.countP_pos_iff] at h
  obtain ⟨a, ha, hb⟩ := h
  exact ⟨a, ha, by simpa using hb⟩
theorem tcOf_sum {f : Nat → Nat} {l : List Int} (h : ∀ a ∈ l, f a.toNat ≤ 2) : tcOf f 0 l + tcOf f 1 l + tcOf f 2 l = l.length := by
  unfold tcOf
  induction l with
  | nil => rfl
  | cons a r ih =>
    have h0 := h a (by simp)
    have := ih (fun b hb => h b (List.mem_cons_of_mem _ hb))
    simp only [List.countP_cons, List.length_cons]
    rcases (show f a.toNat = 0 ∨ f a.toNat = 1 ∨ f a.toNat = 2 by omega) with e | e | e <;> rw [e] <;>
      simp only [beq_self_eq_true, if_true, (by decide : ((0 : Nat) == 1) = false), (by decide : ((0 : Nat) == 2) = false), (by decide : ((1 : Nat) == 0) = false), (by decide : ((1 : Nat) == 2) = false), (by decide : ((2 : Nat) == 0) = false), (by decide : ((2 : Nat) == 1) = false), Bool.false_eq_true, if_false] <;> omega
theorem Fm.tval_le {F : Fm} (hg : F.Good) (y n : Int) (j : Nat) : F.tval y n j ≤ 2 := by
  have := tvals_le hg y n F.nodes.length (Nat.le_refl _)
  rw [List.take_length] at this
  exact getD_le2 this j
theorem Fm.next_arg {F : Fm} (hg : F.Good) (y n : Int) {i : Nat} (hi : i < F.nodes.length) (h : F.tval y n (F.vars.toNat + i) = 2) :
    ∃ k, ∃ hk : k < F.nodes[i].args.length, firstI (fun a => decide (F.tval y n a.toNat = 2)) F.nodes[i].args = k ∧ F.tval y n (F.nodes[i].args[k]).toNat = 2 := by
  rw [F.tval_node hg y n hi] at h
  have hp := tnode_unknown (hg.fits i hi) (tcOf_sum (fun a _ => F.tval_le hg y n a.toNat)) h
  obtain ⟨a, ha, he⟩ := tcOf_pos hp
  obtain ⟨k, hk, h1, h2⟩ := firstI_some (q := fun a => decide (F.tval y n a.toNat = 2)) ⟨a, ha, by simpa using he⟩
  exact ⟨k, hk, h1, by simpa using h2⟩
end Go.GL
namespace Go.GL
set_option linter.unusedVariables false
set_option linter.unusedSimpArgs false
section
variable {P : Program} {n : Nat} {S : List (Nat × Value)} {H : List Ent} {A : Array Oper} {Q : Exit → Act → World → Prop}
theorem Nrm.le {H' : List Ent} (hl : Le H H') (h : Nrm n S H' Q) : Nrm n S H Q := fun a w hS hM => h a w hS (hl w hM)
end
theorem RNodes.cells {H : List Ent} {a sp : Option Nat} {off : Nat} {ns : List Nd} (h : RNodes H a off ns sp) : ∃ qs : List SA, ArgsIn H ns qs ∧ RdS H a off (nsCells ns qs) sp := by
  rcases h with rfl | ⟨b, rfl, rfl, h⟩
  · exact ⟨[], ArgsIn.nil, .inl rfl⟩
  · suffices ∀ (ns : List Nd) (off : Nat), (∀ (i : Nat) (d : Nd), ns[i]? = some d → ∃ aa o cap asp, NdAt H b (off + i * 3) d aa o cap asp) → ∃ qs : List SA, ArgsIn H ns qs ∧ Rd H b off (nsCells ns qs) by
      obtain ⟨qs, h1, h2⟩ := this ns off h
      exact ⟨qs, h1, .inr ⟨b, rfl, rfl, h2⟩⟩
    intro ns
    induction ns with
    | nil => intro off _; exact ⟨[], ArgsIn.nil, fun w _ j v hj => by simp [nsCells] at hj⟩
    | cons d r ih =>
      intro off hh
      obtain ⟨aa, o, cap, asp, h0⟩ := hh 0 d rfl
      rw [Nat.zero_mul, Nat.add_zero] at h0
      obtain ⟨qs, h1, h2⟩ := ih (off + 3) (fun i d' hd => by
        obtain ⟨aa, o, cap, asp, h⟩ := hh (i + 1) d' (by simpa using hd)
        exact ⟨aa, o, cap, asp, by rwa [show off + (i + 1) * 3 = off + 3 + i * 3 by omega] at h⟩)
      refine ⟨(aa, o, cap, asp) :: qs, ⟨by simp [h1.1], fun i d' q hd hq => ?_⟩, ?_⟩
      · cases i with
        | zero => simp at hd hq; subst hd hq; exact h0.args
        | succ i => exact h1.2 i d' q (by simpa using hd) (by simpa using hq)
      · intro w hM j v hj
        rcases Nat.lt_or_ge j 3 with h3 | h3
        · refine h0.cells w hM j v ?_
          rw [nsCells, List.getElem?_append_left (by simpa [ndCells] using h3)] at hj
          exact hj
        · have := h2 w hM (j - 3) v (by
            rw [nsCells, List.getElem?_append_right (by simpa [ndCells] using h3)] at hj
            simpa [ndCells] using hj)
          rwa [show off + 3 + (j - 3) = off + j by omega] at this
theorem nsCells_append (ns ms : List Nd) (qs rs : List SA) (h : qs.length = ns.length) : nsCells (ns ++ ms) (qs ++ rs) = nsCells ns qs ++ nsCells ms rs := by
  induction ns generalizing qs with
  | nil => have : qs = [] := List.eq_nil_of_length_eq_zero (by simpa using h)
           subst this; rfl
  | cons d r ih =>
    cases qs with
    | nil => simp at h
    | cons q s => simp [nsCells, ih s (by simpa using h)]
theorem nsCells_one' (ns : List Nd) (qs : List SA) : ∀ u ∈ nsCells ns qs, u.oneCell' = true := by
  induction ns generalizing qs with
  | nil => intro u hu; simp [nsCells] at hu
  | cons d r ih =>
    cases qs with
    | nil => intro u hu; simp [nsCells] at hu
    | cons q s =>
      intro u hu
      simp only [nsCells, List.mem_append, ndCells, List.mem_cons, List.not_mem_nil, or_false] at hu
      rcases hu with (rfl | rfl | rfl) | hu
      · rfl
      · rfl
      · rfl
      · exact ih s u hu
def Fm.plus (F : Fm) (ns : List Nd) (top : Int) : Fm := ⟨F.vars, F.nodes ++ ns, top⟩
theorem Fm.Good.plus {F : Fm} (hg : F.Good) {ns : List Nd} {top : Int} (hl : F.nodes.length + ns.length ≤ 128)
    (hn : ∀ i (h : i < ns.length), nodeErr F.vars ((F.nodes.length + i : Nat) : Int) ns[i] = none) (h0 : 0 ≤ top) (h1 : top < F.vars + F.nodes.length + ns.length) : (F.plus ns top).Good := by
  have g0 := hg.v0
  refine ⟨hg.v0, hg.v1, by simpa [Fm.plus] using hl, fun i hi => ?_, ?_⟩
  · unfold Fm.plus at hi ⊢
    simp only [List.length_append] at hi
    rcases Nat.lt_or_ge i F.nodes.length with h | h
    · have := hg.node i h
      simp only [List.getElem_append_left h]
      exact this
    · have := hn (i - F.nodes.length) (by omega)
      simp only [List.getElem_append_right h]
      rwa [show F.nodes.length + (i - F.nodes.length) = i by omega] at this
  · unfold Fm.valid Fm.plus
    simp
    omega
theorem Fm.plus_tval {F : Fm} (ns : List Nd) (top : Int) (y n : Int) {j : Nat} (hj : j < F.vars.toNat + F.nodes.length) : (F.plus ns top).tval y n j = F.tval y n j := by
  unfold Fm.tval Fm.tvals Fm.plus
  simp only
  rw [genFrom_append, genFrom_getD_lt _ _ _ _ _ (by rw [genFrom_length, tevents_length]; exact hj)]
def negT (t : Nat) : Nat := if t = 0 then 1 else if t = 1 then 0 else 2
theorem tval_not {F : Fm} (hg : F.Good) (y n : Int) {i : Nat} (hi : i < F.nodes.length) {a : Int} (hd : F.nodes[i] = ⟨1, 0, [a]⟩) : F.tval y n (F.vars.toNat + i) = negT (F.tval y n a.toNat) := by
  rw [F.tval_node hg y n hi, hd]
  have h2 := F.tval_le hg y n a.toNat
  unfold tnode tcOf negT
  rcases (show F.tval y n a.toNat = 0 ∨ F.tval y n a.toNat = 1 ∨ F.tval y n a.toNat = 2 by omega) with e | e | e <;> simp [e, lev]
theorem law_dual {F : Fm} (hg : F.Good) (hl : F.nodes.length + 2 ≤ 128) (y n : Int) (G : Int → Fm) (hG : ∀ t, G t = F.plus [⟨1, 0, [F.top]⟩, ⟨1, 0, [F.vars + F.nodes.length]⟩] t) :
    (G (F.vars + F.nodes.length)).Good ∧ (G (F.vars + F.nodes.length + 1)).Good ∧
    (G (F.vars + F.nodes.length)).tval y n (F.vars + F.nodes.length).toNat = negT (F.tval y n F.top.toNat) ∧ (G (F.vars + F.nodes.length + 1)).tval y n (F.vars + F.nodes.length + 1).toNat = F.tval y n F.top.toNat := by
  have g0 := hg.v0; have g1 := hg.v1; have gt := hg.topLt
  have good : ∀ t, 0 ≤ t → t < F.vars + F.nodes.length + 2 → (G t).Good := by
    intro t h0 h1
    rw [hG]
    refine hg.plus (by simpa using hl) (fun i hi => ?_) h0 (by simpa using h1)
    simp only [List.length_cons, List.length_nil] at hi
    rcases (show i = 0 ∨ i = 1 by omega) with rfl | rfl
    · refine nodeErr_none.2 ⟨by simp, by simp, rfl, ?_, by simp⟩
      intro a ha
      simp at ha; subst ha; omega
    · refine nodeErr_none.2 ⟨by simp, by simp, rfl, ?_, by simp⟩
      intro a ha
      simp at ha; subst ha; omega
  have h1 := good (F.vars + F.nodes.length) (by omega) (by omega)
  have h2 := good (F.vars + F.nodes.length + 1) (by omega) (by omega)
  refine ⟨h1, h2, ?_, ?_⟩
  · have := tval_not h1 y n (i := F.nodes.length) (a := F.top) (by rw [hG]; simp [Fm.plus]) (by simp [hG, Fm.plus])
    rw [hG] at this ⊢
    rw [show (F.vars + F.nodes.length : Int).toNat = (F.plus [⟨1, 0, [F.top]⟩, ⟨1, 0, [F.vars + F.nodes.length]⟩] (F.vars + F.nodes.length)).vars.toNat + F.nodes.length from by simp [Fm.plus]; omega, this]
    rw [Fm.plus_tval _ _ _ _ (by omega)]
  · have e1 := tval_not h2 y n (i := F.nodes.length) (a := F.top) (by rw [hG]; simp [Fm.plus]) (by simp [hG, Fm.plus])
    have e2 := tval_not h2 y n (i := F.nodes.length + 1) (a := F.vars + F.nodes.length) (by rw [hG]; simp [Fm.plus]) (by simp [hG, Fm.plus])
    rw [hG] at e1 e2 ⊢
    rw [show (F.vars + F.nodes.length + 1 : Int).toNat = (F.plus [⟨1, 0, [F.top]⟩, ⟨1, 0, [F.vars + F.nodes.length]⟩] (F.vars + F.nodes.length + 1)).vars.toNat + (F.nodes.length + 1) from by simp [Fm.plus]; omega, e2]
    rw [show (F.vars + F.nodes.length : Int).toNat = (F.plus [⟨1, 0, [F.top]⟩, ⟨1, 0, [F.vars + F.nodes.length]⟩] (F.vars + F.nodes.length + 1)).vars.toNat + F.nodes.length from by simp [Fm.plus]; omega, e1]
    rw [Fm.plus_tval _ _ _ _ (by omega)]
    have hle := F.tval_le hg y n F.top.toNat
    unfold negT
    rcases (show F.tval y n F.top.toNat = 0 ∨ F.tval y n F.top.toNat = 1 ∨ F.tval y n F.top.toNat = 2 by omega) with e | e | e <;> rw [e] <;> rfl
def rangeI (k : Nat) : List Int := (List.range k).map (fun (i : Nat) => (i : Int))
theorem rangeI_length (k : Nat) : (rangeI k).length = k := by simp [rangeI]
theorem rangeI_succ (k : Nat) : rangeI (k + 1) = rangeI k ++ [(k : Int)] := by simp [rangeI, List.range_succ]
def oneF (kind k : Int) (m : Nat) : Fm := ⟨m, [⟨kind, k, rangeI m⟩], m⟩
theorem oneF_good {kind k : Int} {m : Nat} (h0 : 1 ≤ m) (h1 : m ≤ 8) (hk : 2 ≤ kind ∧ kind ≤ 5) (hk4 : kind = 4 → 1 ≤ k ∧ k ≤ m) (hk0 : kind ≠ 4 → k = 0) : (oneF kind k m).Good := by
  refine ⟨by simp [oneF], by simp [oneF]; omega, by simp [oneF], fun i hi => ?_, by simp [Fm.valid, oneF]⟩
  simp only [oneF, List.length_singleton] at hi
  obtain rfl : i = 0 := by omega
  refine nodeErr_none.2 ⟨by simp only [oneF, List.getElem_cons_zero]; omega, by simp only [oneF, List.getElem_cons_zero]; omega, ?_, ?_, ?_⟩
  · simp only [oneF, List.getElem_cons_zero, rangeI_length]
    unfold argsB
    rw [if_neg (by omega), if_neg (by omega)]
    simp
    omega
  · intro a ha
    simp only [oneF, List.getElem_cons_zero, rangeI, List.mem_map, List.mem_range] at ha
    obtain ⟨i, hi, rfl⟩ := ha
    first | (simp [oneF]; done) | (simp [oneF]; omega)
  · simp only [oneF, List.getElem_cons_zero, rangeI_length]
    exact ⟨by omega, hk4, fun _ h => hk0 h⟩
theorem oneF_tval {kind k : Int} {m : Nat} (hg : (oneF kind k m).Good) (y n : Int) : ∃ a b c, a + b + c = m ∧ (oneF kind k m).tval y n m = tnode ⟨kind, k, rangeI m⟩ a b c ∧ a = ((List.range m).map (fun i => lev (bitB y i) (bitB n i))).countP (· == 0) ∧ b = ((List.range m).map (fun i => lev (bitB y i) (bitB n i))).countP (· == 1) ∧ c = ((List.range m).map (fun i => lev (bitB y i) (bitB n i))).countP (· == 2) := by
  have h := (oneF kind k m).tval_node hg y n (i := 0) (by simp [oneF])
  have hc : ∀ b, tcOf ((oneF kind k m).tval y n) b (rangeI m) = ((List.range m).map (fun i => lev (bitB y i) (bitB n i))).countP (· == b) := by
    intro b
    unfold tcOf rangeI
    rw [List.countP_map, List.countP_map]
    refine List.countP_congr fun i hi => ?_
    simp only [Function.comp, Int.toNat_natCast]
    rw [Fm.tval_event _ y n (by simpa [oneF] using hi)]
  have e0 : (oneF kind k m).vars.toNat + 0 = m := by simp [oneF]
  rw [e0] at h
  have hn : (oneF kind k m).nodes[0]'(by simp [oneF]) = ⟨kind, k, rangeI m⟩ := rfl
  rw [hn] at h
  simp only at h
  refine ⟨_, _, _, ?_, h, hc 0, hc 1, hc 2⟩
  rw [tcOf_sum (fun a _ => Fm.tval_le hg y n a.toNat), rangeI_length]
theorem law_votes {m : Nat} (h0 : 1 ≤ m) (h1 : m ≤ 8) (y n : Int) : (oneF 2 0 m).tval y n m = (oneF 4 m m).tval y n m ∧ (oneF 3 0 m).tval y n m = (oneF 4 1 m).tval y n m := by
  obtain ⟨a1, b1, c1, s1, e1, p1, q1, r1⟩ := oneF_tval (kind := 2) (k := 0) (m := m) (oneF_good h0 h1 (by decide) (by simp) (by simp)) y n
  obtain ⟨a2, b2, c2, s2, e2, p2, q2, r2⟩ := oneF_tval (kind := 4) (k := m) (m := m) (oneF_good h0 h1 (by decide) (fun _ => by omega) (by simp)) y n
  obtain ⟨a3, b3, c3, s3, e3, p3, q3, r3⟩ := oneF_tval (kind := 3) (k := 0) (m := m) (oneF_good h0 h1 (by decide) (by simp) (by simp)) y n
  obtain ⟨a4, b4, c4, s4, e4, p4, q4, r4⟩ := oneF_tval (kind := 4) (k := 1) (m := m) (oneF_good h0 h1 (by decide) (fun _ => by omega) (by simp)) y n
  rw [← p1] at p2 p3 p4; rw [← q1] at q2 q3 q4; rw [← r1] at r2 r3 r4
  subst p2 p3 p4 q2 q3 q4 r2 r3 r4
  rw [e1, e2, e3, e4]
  unfold tnode
  simp only [rangeI_length, if_true, (by decide : ((2 : Int) = 0) = False), (by decide : ((2 : Int) = 1) = False), (by decide : ((4 : Int) = 0) = False), (by decide : ((4 : Int) = 1) = False), (by decide : ((4 : Int) = 2) = False), (by decide : ((4 : Int) = 3) = False), (by decide : ((3 : Int) = 0) = False), (by decide : ((3 : Int) = 1) = False), (by decide : ((3 : Int) = 2) = False), if_false]
  constructor
  · congr 1 <;> exact decide_eq_decide.2 (by omega)
  · congr 1 <;> exact decide_eq_decide.2 (by omega)
end Go.GL
namespace Go.GL
structure DX where
  b2 : Nat
  a5 : Option Nat
  c5 : Nat
  b8 : Nat
  b11 : Nat
  b13 : Nat
  a14 : Nat
  c14 : Nat
  b17 : Nat
abbrev DX.six (x : DX) : List Value := [.int .i64 1, .int .i64 0, slV (some x.b8) 0 1 1, .int .i64 1, .int .i64 0, slV (some x.b11) 0 1 1]
theorem sub_on {H H' l : List Ent} (h : H.Sublist H') : H.Sublist (l ++ H') := h.trans (List.sublist_append_right _ _)
end Go.GL
namespace Go.GL
set_option linter.unusedVariables false
set_option linter.unusedSimpArgs false
def Fm.under (F : Fm) (arg : Nat) : List Bool :=
  if arg < F.vars.toNat then List.replicate (F.vars.toNat + F.nodes.length) false
  else belowL F.vars.toNat F.nodes (arg - F.vars.toNat) (markArgs (List.replicate (F.vars.toNat + F.nodes.length) false) (F.nodes.getD (arg - F.vars.toNat) ⟨0, 0, []⟩).args)
theorem Fm.under_length (F : Fm) (arg : Nat) : (F.under arg).length = F.vars.toNat + F.nodes.length := by
  unfold Fm.under
  split
  · simp
  · rw [belowL_length, markArgs_length]; simp
theorem markArgs_set (args : List Int) : ∀ (m : List Bool) (j : Nat), markArgs (m.set j true) args = (markArgs m args).set j true := by
  induction args with
  | nil => intro m j; rfl
  | cons a r ih =>
    intro m j
    show markArgs ((m.set j true).set a.toNat true) r = (markArgs (m.set a.toNat true) r).set j true
    rw [← ih]
    congr 1
    by_cases h : a.toNat = j
    · subst h; rfl
    · exact List.set_comm _ _ (fun e => h e.symm)
theorem belowL_set (v : Nat) (nodes : List Nd) : ∀ (i : Nat) (m : List Bool) (j : Nat), v + i ≤ j → belowL v nodes i (m.set j true) = (belowL v nodes i m).set j true := by
  intro i
  induction i with
  | zero => intro m j _; rfl
  | succ i ih =>
    intro m j hj
    unfold belowL
    have hg : (m.set j true).getD (v + i) false = m.getD (v + i) false := by
      rw [List.getD_eq_getElem?_getD, List.getElem?_set_ne (by omega), ← List.getD_eq_getElem?_getD]
    rw [hg, ← ih _ j (by omega)]
    cases m.getD (v + i) false with
    | false => rfl
    | true => simp only [cond_true, markArgs_set]
theorem belowL_none (v : Nat) (nodes : List Nd) : ∀ (i : Nat) (m : List Bool), (∀ j, v ≤ j → m.getD j false = false) → belowL v nodes i m = m
  | 0, _, _ => rfl
  | i + 1, m, h => by
    unfold belowL
    rw [h (v + i) (by omega)]
    exact belowL_none v nodes i m h
theorem belowL_down (v : Nat) (nodes : List Nd) (t : Nat) (m : List Bool) (h : ∀ i, t < i → m.getD (v + i) false = false) : ∀ i, t < i → belowL v nodes i m = belowL v nodes (t + 1) m := by
  intro i
  induction i with
  | zero => intro hi; omega
  | succ i ih =>
    intro hi
    rcases Nat.lt_or_ge t i with hlt | hge
    · conv => lhs; unfold belowL
      rw [h i hlt]
      exact ih hlt
    · obtain rfl : i = t := by omega
      rfl
theorem Fm.needed_eq {F : Fm} (hg : F.Good) : (F.under F.top.toNat).set F.top.toNat true = F.below := by
  have gt := hg.topLt; have g0 := hg.v0
  unfold Fm.under Fm.below
  split
  · rename_i h
    rw [belowL_none]
    intro j hj
    rw [List.getD_eq_getElem?_getD, List.getElem?_set_ne (by omega), List.getElem?_replicate]
    split <;> rfl
  · rename_i h
    obtain ⟨t, ht⟩ : ∃ t, F.top.toNat = F.vars.toNat + t := ⟨F.top.toNat - F.vars.toNat, by omega⟩
    have htn : t < F.nodes.length := by omega
    rw [ht, Nat.add_sub_cancel_left, ← belowL_set _ _ _ _ _ (Nat.le_refl _), ← markArgs_set]
    rw [belowL_down F.vars.toNat F.nodes t _ (fun i hi => by
      rw [List.getD_eq_getElem?_getD, List.getElem?_set_ne (by omega), List.getElem?_replicate]
      split <;> rfl) F.nodes.length htn]
    conv => rhs; unfold belowL
    rw [show ((List.replicate (F.vars.toNat + F.nodes.length) false).set (F.vars.toNat + t) true).getD (F.vars.toNat + t) false = true by
      rw [List.getD_eq_getElem?_getD, List.getElem?_set_self (by simp; omega)]; rfl]
    rfl
section
variable {F : Fm}
theorem Fm.under_args (hg : F.Good) {i : Nat} (hi : i < F.nodes.length) : ∀ a ∈ F.nodes[i].args, (F.under (F.vars.toNat + i)).getD a.toNat false = true := by
  intro a ha
  unfold Fm.under
  rw [if_neg (by omega), Nat.add_sub_cancel_left]
  refine belowL_mono _ _ _ _ _ ?_
  rw [markArgs_getD]
  have hlt := hg.argLt hi a ha
  rw [show F.nodes.getD i ⟨0, 0, []⟩ = F.nodes[i] from by simp [hi]]
  have : (F.nodes[i].args.any fun b => b.toNat == a.toNat) = true := by
    rw [List.any_eq_true]; exact ⟨a, ha, by simp⟩
  rw [this]
  simp
  right; omega
theorem Fm.under_lt (hg : F.Good) {arg j : Nat} (h : (F.under arg).getD j false = true) : j < arg := by
  unfold Fm.under at h
  split at h
  · rw [List.getD_eq_getElem?_getD, List.getElem?_replicate] at h
    split at h <;> simp at h
  · rename_i hv
    rcases Nat.lt_or_ge j arg with hlt | hge
    · exact hlt
    · rcases Nat.lt_or_ge (arg - F.vars.toNat) F.nodes.length with hn | hn
      · rw [belowL_same F.vars.toNat F.nodes (fun i h => hg.argLt h) (arg - F.vars.toNat) (by omega) _ j (by omega), markArgs_getD] at h
        rw [List.getD_eq_getElem?_getD, List.getElem?_replicate] at h
        rw [show F.nodes.getD (arg - F.vars.toNat) ⟨0, 0, []⟩ = F.nodes[arg - F.vars.toNat] from by simp [hn]] at h
        simp only [Bool.or_eq_true, Bool.and_eq_true, List.any_eq_true] at h
        rcases h with h | ⟨_, a, ha, hae⟩
        · split at h <;> simp at h
        · have := hg.argLt hn a ha
          simp at hae
          omega
      · have hl := belowL_length F.vars.toNat F.nodes (arg - F.vars.toNat) (markArgs (List.replicate (F.vars.toNat + F.nodes.length) false) (F.nodes.getD (arg - F.vars.toNat) ⟨0, 0, []⟩).args)
        rw [markArgs_length, List.length_replicate] at hl
        rw [List.getD_eq_getElem?_getD, List.getElem?_eq_none (by rw [hl]; omega)] at h
        simp at h
theorem Fm.under_bound {arg j : Nat} (h : (F.under arg).getD j false = true) : j < F.vars.toNat + F.nodes.length := by
  rcases Nat.lt_or_ge j (F.vars.toNat + F.nodes.length) with hl | hl
  · exact hl
  · rw [List.getD_eq_getElem?_getD, List.getElem?_eq_none (by rw [F.under_length]; exact hl)] at h
    simp at h
theorem Fm.under_closed (hg : F.Good) {i k : Nat} (hi : i < F.nodes.length) (hk : k < F.nodes.length) (h : (F.under (F.vars.toNat + i)).getD (F.vars.toNat + k) false = true) :
    ∀ a ∈ F.nodes[k].args, (F.under (F.vars.toNat + i)).getD a.toNat false = true := by
  have hlt := Fm.under_lt hg h
  unfold Fm.under at h ⊢
  rw [if_neg (by omega), Nat.add_sub_cancel_left] at h ⊢
  exact belowL_closed F.vars.toNat F.nodes (fun i h => hg.argLt h) i (by omega) _ (by rw [markArgs_length]; simp) k hk (by omega) h
theorem Fm.under_inv (hg : F.Good) {i j : Nat} (hi : i < F.nodes.length) (h : (F.under (F.vars.toNat + i)).getD j false = true) :
    (∃ a ∈ F.nodes[i].args, a.toNat = j) ∨ ∃ k, ∃ hk : k < F.nodes.length, (F.under (F.vars.toNat + i)).getD (F.vars.toNat + k) false = true ∧ ∃ a ∈ F.nodes[k].args, a.toNat = j := by
  unfold Fm.under at h ⊢
  rw [if_neg (by omega), Nat.add_sub_cancel_left] at h ⊢
  rcases belowL_inv F.vars.toNat F.nodes (fun i h => hg.argLt h) i (by omega) _ j (by rw [markArgs_length]; simp) h with h1 | h1
  · left
    rw [markArgs_getD, List.getD_eq_getElem?_getD, List.getElem?_replicate, show F.nodes.getD i ⟨0, 0, []⟩ = F.nodes[i] from by simp [hi]] at h1
    simp only [Bool.or_eq_true, Bool.and_eq_true, List.any_eq_true] at h1
    rcases h1 with h1 | ⟨_, a, ha, hae⟩
    · split at h1 <;> simp at h1
    · exact ⟨a, ha, by simpa using hae⟩
  · exact .inr h1
theorem Fm.under_ind (hg : F.Good) {i : Nat} (hi : i < F.nodes.length) (p : Nat → Prop) (h0 : ∀ a ∈ F.nodes[i].args, p a.toNat)
    (h1 : ∀ k (hk : k < F.nodes.length), (F.under (F.vars.toNat + i)).getD (F.vars.toNat + k) false = true → p (F.vars.toNat + k) → ∀ a ∈ F.nodes[k].args, p a.toNat) : ∀ j, (F.under (F.vars.toNat + i)).getD j false = true → p j := by
  suffices ∀ (c j : Nat), j + c = F.vars.toNat + F.nodes.length → (F.under (F.vars.toNat + i)).getD j false = true → p j by
    intro j hj
    have hb := Fm.under_bound hj
    exact this (F.vars.toNat + F.nodes.length - j) j (by omega) hj
  intro c
  induction c using Nat.strongRecOn with
  | _ c ih =>
    intro j hjc hj
    rcases Fm.under_inv hg hi hj with ⟨a, ha, rfl⟩ | ⟨k, hk, hm, a, ha, rfl⟩
    · exact h0 a ha
    · have hlt := hg.argLt hk a ha
      exact h1 k hk hm (ih (F.nodes.length - k) (by omega) (F.vars.toNat + k) (by omega) hm) a ha
theorem Fm.under_trans (hg : F.Good) {i k : Nat} (hi : i < F.nodes.length) (hk : k < F.nodes.length) (h : (F.under (F.vars.toNat + i)).getD (F.vars.toNat + k) false = true) :
    ∀ j, (F.under (F.vars.toNat + k)).getD j false = true → (F.under (F.vars.toNat + i)).getD j false = true :=
  Fm.under_ind hg hk (fun j => (F.under (F.vars.toNat + i)).getD j false = true) (Fm.under_closed hg hi hk h) (fun q hq _ h2 => Fm.under_closed hg hi hq h2)
theorem Fm.need_under (hg : F.Good) {i : Nat} (hi : i < F.nodes.length) (h : F.below.getD (F.vars.toNat + i) false = true) : ∀ j, (F.under (F.vars.toNat + i)).getD j false = true → F.below.getD j false = true :=
  Fm.under_ind hg hi (fun j => F.below.getD j false = true) (Fm.below_closed hg hi h) (fun q hq _ h2 => Fm.below_closed hg hq h2)
end
def Fm.modAt (F : Fm) (arg i : Nat) : Bool := !F.below.getD (F.vars.toNat + i) false || Nat.beq (F.vars.toNat + i) arg || (F.under arg).getD (F.vars.toNat + i) false || (F.nodes.getD i ⟨0, 0, []⟩).args.all (fun a => !(F.under arg).getD a.toNat false)
def Fm.isMod (F : Fm) (arg : Nat) : Bool := (F.under arg).any id && !(F.under arg).getD F.top.toNat false && (List.range F.nodes.length).all (F.modAt arg)
def Fm.findTo (F : Fm) (k : Nat) : List Nat := ((List.range k).filter (fun i => F.below.getD (F.vars.toNat + i) false && F.isMod (F.vars.toNat + i))).map (fun i => F.vars.toNat + i)
def Fm.find (F : Fm) : List Nat := F.findTo F.nodes.length
theorem Fm.findTo_succ (F : Fm) (k : Nat) : F.findTo (k + 1) = bif F.below.getD (F.vars.toNat + k) false && F.isMod (F.vars.toNat + k) then F.findTo k ++ [F.vars.toNat + k] else F.findTo k := by
  unfold Fm.findTo
  rw [List.range_succ, List.filter_append, List.map_append]
  cases h : (F.below.getD (F.vars.toNat + k) false && F.isMod (F.vars.toNat + k)) <;> simp only [List.filter_cons, List.filter_nil, h, if_true, Bool.false_eq_true, if_false, cond_true, cond_false, List.map_nil, List.append_nil, List.map_cons]
theorem Fm.findTo_le (F : Fm) (k : Nat) : (F.findTo k).length ≤ k := by
  unfold Fm.findTo
  rw [List.length_map]
  exact Nat.le_trans (List.length_filter_le _ _) (by simp)
theorem Fm.mem_find {F : Fm} {m : Nat} : m ∈ F.find ↔ ∃ i, i < F.nodes.length ∧ F.below.getD (F.vars.toNat + i) false = true ∧ F.isMod (F.vars.toNat + i) = true ∧ m = F.vars.toNat + i := by
  unfold Fm.find Fm.findTo
  simp only [List.mem_map, List.mem_filter, List.mem_range, Bool.and_eq_true]
  constructor
  · rintro ⟨i, ⟨h1, h2, h3⟩, rfl⟩; exact ⟨i, h1, h2, h3, rfl⟩
  · rintro ⟨i, h1, h2, h3, rfl⟩; exact ⟨i, ⟨h1, h2, h3⟩, rfl⟩
theorem Fm.find_sorted (F : Fm) : F.find.Pairwise (· < ·) := by
  unfold Fm.find Fm.findTo
  rw [List.pairwise_map]
  refine List.Pairwise.imp (R := (· < ·)) (fun h => by omega) (List.Pairwise.filter _ List.pairwise_lt_range)
def Fm.evs (F : Fm) (arg : Nat) : Nat := if arg < F.vars.toNat then 2 ^ arg else setOf (F.under arg) F.vars.toNat
theorem Fm.evs_lt {F : Fm} (arg : Nat) : F.evs arg < 2 ^ F.vars.toNat := by
  unfold Fm.evs
  split
  · exact Nat.pow_lt_pow_right (by decide) ‹_›
  · exact setOf_lt _ _
theorem any_take_succ {l : List Bool} {k : Nat} (hk : k < l.length) : (l.take (k + 1)).any id = ((l.take k).any id || l.getD k false) := by
  rw [List.take_succ_eq_append_getElem hk, List.any_append]
  simp [hk]
section
variable {F : Fm}
theorem law_nests (hg : F.Good) {m n : Nat} (hm : m ∈ F.find) (hn : n ∈ F.find) (hlt : n < m) : F.evs m &&& F.evs n = 0 ∨ F.evs m &&& F.evs n = F.evs n := by
  obtain ⟨i, hi, bi, mi, rfl⟩ := Fm.mem_find.1 hm
  obtain ⟨k, hk, bk, mk, rfl⟩ := Fm.mem_find.1 hn
  have evi : F.evs (F.vars.toNat + i) = setOf (F.under (F.vars.toNat + i)) F.vars.toNat := by unfold Fm.evs; rw [if_neg (by omega)]
  have evk : F.evs (F.vars.toNat + k) = setOf (F.under (F.vars.toNat + k)) F.vars.toNat := by unfold Fm.evs; rw [if_neg (by omega)]
  rw [evi, evk]
  cases hu : (F.under (F.vars.toNat + i)).getD (F.vars.toNat + k) false with
  | true =>
    right
    refine Nat.eq_of_testBit_eq fun j => ?_
    rw [Nat.testBit_and, setOf_testBit, setOf_testBit]
    cases hj : (F.under (F.vars.toNat + k)).getD j false with
    | false => simp
    | true => rw [Fm.under_trans hg hi hk hu j hj]; simp
  | false =>
    left
    have hall : ∀ q, q < F.nodes.length → F.modAt (F.vars.toNat + i) q = true := by
      intro q hq
      unfold Fm.isMod at mi
      simp only [Bool.and_eq_true] at mi
      exact List.all_eq_true.1 mi.2 q (List.mem_range.2 hq)
    have out : ∀ q (hq : q < F.nodes.length), F.below.getD (F.vars.toNat + q) false = true → q ≠ i → (F.under (F.vars.toNat + i)).getD (F.vars.toNat + q) false = false → ∀ a ∈ F.nodes[q].args, (F.under (F.vars.toNat + i)).getD a.toNat false = false := by
      intro q hq hb hne hf a ha
      have := hall q hq
      unfold Fm.modAt at this
      rw [hb, hf, show F.nodes.getD q ⟨0, 0, []⟩ = F.nodes[q] from by simp [hq]] at this
      have hbq : Nat.beq (F.vars.toNat + q) (F.vars.toNat + i) = false := by
        cases h : Nat.beq (F.vars.toNat + q) (F.vars.toNat + i) with
        | false => rfl
        | true => exact absurd (Nat.eq_of_beq_eq_true h) (by omega)
      rw [hbq] at this
      simp only [Bool.not_true, Bool.false_or, Bool.or_false] at this
      have := List.all_eq_true.1 this a ha
      simpa using this
    have key : ∀ j, (F.under (F.vars.toNat + k)).getD j false = true → (F.under (F.vars.toNat + i)).getD j false = false ∧ F.below.getD j false = true := by
      refine Fm.under_ind hg hk (fun j => (F.under (F.vars.toNat + i)).getD j false = false ∧ F.below.getD j false = true) (fun a ha => ⟨out k hk bk (by omega) hu a ha, Fm.below_closed hg hk bk a ha⟩) ?_
      intro q hq hm hp a ha
      have := Fm.under_lt hg hm
      exact ⟨out q hq hp.2 (by omega) hp.1 a ha, Fm.below_closed hg hq hp.2 a ha⟩
    refine Nat.eq_of_testBit_eq fun j => ?_
    rw [Nat.testBit_and, setOf_testBit, setOf_testBit, Nat.zero_testBit]
    cases hj : (F.under (F.vars.toNat + k)).getD j false with
    | false => simp
    | true => rw [(key j hj).1]; simp
theorem law_topmod (hg : F.Good) (h : F.vars ≤ F.top) (ha : (F.nodes.getD (F.top - F.vars).toNat ⟨0, 0, []⟩).args ≠ []) : F.top.toNat ∈ F.find := by
  have gt := hg.topLt; have g0 := hg.v0
  obtain ⟨t, ht⟩ : ∃ t, F.top.toNat = F.vars.toNat + t := ⟨F.top.toNat - F.vars.toNat, by omega⟩
  have htn : t < F.nodes.length := by omega
  rw [show (F.top - F.vars).toNat = t by omega, show F.nodes.getD t ⟨0, 0, []⟩ = F.nodes[t] from by simp [htn]] at ha
  refine Fm.mem_find.2 ⟨t, htn, by rw [← ht]; exact Fm.below_top hg, ?_, ht⟩
  unfold Fm.isMod
  simp only [Bool.and_eq_true]
  refine ⟨⟨?_, ?_⟩, ?_⟩
  · rw [List.any_eq_true]
    obtain ⟨a, r, hr⟩ := List.exists_cons_of_ne_nil ha
    have h1 := Fm.under_args hg htn a (by rw [hr]; simp)
    rw [List.getD_eq_getElem?_getD] at h1
    cases h2 : (F.under (F.vars.toNat + t))[a.toNat]? with
    | none => rw [h2] at h1; simp at h1
    | some b => rw [h2] at h1; simp at h1; subst h1; exact ⟨true, List.mem_of_getElem? h2, rfl⟩
  · cases hu : (F.under (F.vars.toNat + t)).getD F.top.toNat false with
    | false => rfl
    | true => exact absurd (Fm.under_lt hg hu) (by omega)
  · rw [List.all_eq_true]
    intro q hq
    unfold Fm.modAt
    cases hb : F.below.getD (F.vars.toNat + q) false with
    | false => simp
    | true =>
      by_cases e : q = t
      · subst e; simp
      · have : (F.under (F.vars.toNat + t)).getD (F.vars.toNat + q) false = true := by
          have h2 := hb
          rw [← Fm.needed_eq hg, ht, List.getD_eq_getElem?_getD, List.getElem?_set_ne (by omega), ← List.getD_eq_getElem?_getD] at h2
          exact h2
        rw [this]; simp
end
end Go.GL
namespace Go.GL
set_option linter.unusedVariables false
section
variable {P : Program} {n : Nat} {S : List (Nat × Value)} {H : List Ent} {A : Array Oper} {Q : Exit → Act → World → Prop}
theorem row_cap {a : Option Nat} {E sz cap : Nat} {xs : List Value} {w : World} (h : (row a E sz cap xs).ok w) : xs.length ≤ cap * sz := by
  cases a with
  | none => obtain ⟨rfl, rfl⟩ := h; simp
  | some b =>
    obtain ⟨sp, _, h2, _⟩ := h
    omega
theorem TOps.rowCapA {l : List Oper} {a : Option Nat} {E sz cap : Nat} {xs : List Value} (hm : row a E sz cap xs ∈ H) (h : xs.length ≤ cap * sz → TOps P n S H l A Q) : TOps P n S H l A Q :=
  fun ac w hS hM => h (row_cap (hM.ok _ hm)) ac w hS hM
theorem Tri.rowCapA {c} {a : Option Nat} {E sz cap : Nat} {xs : List Value} (hm : row a E sz cap xs ∈ H) (h : xs.length ≤ cap * sz → Tri P n S H c Q) : Tri P n S H c Q :=
  fun ac w hS hM => h (row_cap (hM.ok _ hm)) ac w hS hM
end
def argSumI (ns : List Nd) : Int := ns.foldl (fun z d => IntKind.i64.wrap (z + d.args.length)) 0
theorem argSumI_take_succ {ns : List Nd} {k : Nat} (hk : k < ns.length) : argSumI (ns.take (k + 1)) = IntKind.i64.wrap (argSumI (ns.take k) + ns[k].args.length) := by
  unfold argSumI
  rw [List.take_succ_eq_append_getElem hk, List.foldl_append]
  rfl
def Fm.heavy (F : Fm) : Bool := ((decide ((40 : Int) < F.nodes.length) && decide ((F.nodes.length : Int) ≤ 128)) || decide ((300 : Int) < F.nodes.length)) || decide (2000 < argSumI F.nodes)
theorem nats_at {H : List Ent} {a sp : Option Nat} {off : Nat} {l : List Nat} (h : RdS H a off (nats l) sp) {i : Nat} (hi : i < l.length) : ∃ b, a = some b ∧ sp = none ∧ Rd H b (off + i) [.int .i64 (l[i] : Nat)] := by
  have := RdS.at h (i := i) (by simpa using hi)
  simpa using this
def exF29 (t : Bool) : Fm := ⟨4, [⟨3, 0, [0, 1]⟩, ⟨3, 0, [bif t then 2 else 1, 2]⟩, ⟨2, 0, [2, 3]⟩, ⟨2, 0, [4, 5, 6]⟩], 7⟩
theorem exF29_good (t : Bool) : (exF29 t).Good := (Fm.good_iff _).1 (by cases t <;> decide)
theorem exF29_find : (exF29 false).find = [7] ∧ (exF29 true).find = [4, 7] := by decide
theorem Fm.find_lt {F : Fm} {k : Nat} (hk : k < F.find.length) : F.find[k] < F.vars.toNat + F.nodes.length := by
  obtain ⟨i, hi, _, _, h⟩ := Fm.mem_find.1 (List.getElem_mem hk)
  omega
theorem Fm.find_len (F : Fm) : F.find.length ≤ F.nodes.length := F.findTo_le _
theorem Fm.find_mono {F : Fm} {j k : Nat} (hjk : j < k) (hk : k < F.find.length) : F.find[j] < F.find[k] := List.pairwise_iff_getElem.1 F.find_sorted j k (by omega) hk hjk
theorem any_take_succ' {l : List Nat} {k : Nat} (p : Nat → Bool) (hk : k < l.length) : (l.take (k + 1)).any p = ((l.take k).any p || p l[k]) := by
  rw [List.take_succ_eq_append_getElem hk, List.any_append]
  simp
end Go.GL
