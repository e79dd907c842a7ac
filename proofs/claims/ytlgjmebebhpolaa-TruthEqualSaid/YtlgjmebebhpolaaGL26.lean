import Derived.Test.YtlgjmebebhpolaaGL25
namespace Go.GL
set_option linter.unusedVariables false
def lev (yes no : Bool) : Nat := bif yes then 1 else bif no then 0 else 2
theorem lev_le (y n : Bool) : lev y n ≤ 2 := by cases y <;> cases n <;> decide
def tnode (d : Nd) (n0 n1 n2 : Nat) : Nat :=
  if d.kind = 0 then d.k.toNat else if d.kind = 1 then lev (decide ((n0 : Int) = 1)) (decide ((n1 : Int) = 1))
  else if d.kind = 2 then lev (decide ((n1 : Int) = d.args.length)) (decide (0 < (n0 : Int)))
  else if d.kind = 3 then lev (decide (0 < (n1 : Int))) (decide ((n0 : Int) = d.args.length))
  else if d.kind = 4 then lev (decide (d.k ≤ n1)) (decide ((n1 : Int) + n2 < d.k))
  else lev (decide ((n2 : Int) = 0) && decide ((n1 : Int).tmod 2 = 1)) (decide ((n2 : Int) = 0) && decide ((n1 : Int).tmod 2 = 0))
def tc (v : List Nat) (b : Nat) (args : List Int) : Nat := args.countP (fun a => v.getD a.toNat 2 == b)
def tfun (v : List Nat) (d : Nd) : Nat := tnode d (tc v 0 d.args) (tc v 1 d.args) (tc v 2 d.args)
def tevents (v : Nat) (yes no : Int) : List Nat := (List.range v).map (fun i => lev (bitB yes i) (bitB no i))
def Fm.tvals (F : Fm) (yes no : Int) : List Nat := genFrom tfun (tevents F.vars.toNat yes no) F.nodes
def Fm.tval (F : Fm) (yes no : Int) (j : Nat) : Nat := (F.tvals yes no).getD j 2
def Fm.cubeErr (F : Fm) (yes no : Int) : Option Int :=
  match F.err with
  | some e => some e
  | none => if yes < 0 ∨ ((2 ^ F.vars.toNat : Nat) : Int) ≤ yes ∨ no < 0 ∨ ((2 ^ F.vars.toNat : Nat) : Int) ≤ no then some 3 else if iand yes no ≠ 0 then some 6 else none
theorem Fm.cubeErr_none {F : Fm} {yes no : Int} (h : F.cubeErr yes no = none) : F.Good ∧ 0 ≤ yes ∧ yes < ((2 ^ F.vars.toNat : Nat) : Int) ∧ 0 ≤ no ∧ no < ((2 ^ F.vars.toNat : Nat) : Int) ∧ iand yes no = 0 := by
  unfold Fm.cubeErr at h
  cases he : F.err with
  | some e => rw [he] at h; cases h
  | none =>
    rw [he] at h
    simp only at h
    split at h
    · cases h
    · split at h
      · cases h
      · exact ⟨(Fm.good_iff F).1 he, by omega, by omega, by omega, by omega, by omega⟩
theorem Fm.cubeErr_good {F : Fm} (hg : F.Good) {yes no : Nat} (hy : yes < 2 ^ F.vars.toNat) (hn : no < 2 ^ F.vars.toNat) (h : yes &&& no = 0) : F.cubeErr yes no = none := by
  have hv : F.vars.toNat ≤ 24 := by have := hg.v1; have := hg.v0; omega
  unfold Fm.cubeErr
  rw [(Fm.good_iff F).2 hg]
  simp only
  rw [if_neg (by omega), iand_nat (pow_lt63 hv hy) (pow_lt63 hv hn), h]
  rfl
theorem tevents_length (v : Nat) (y n : Int) : (tevents v y n).length = v := by simp [tevents]
theorem Fm.tvals_length (F : Fm) (y n : Int) : (F.tvals y n).length = F.vars.toNat + F.nodes.length := by
  unfold Fm.tvals; rw [genFrom_length, tevents_length]
theorem tc_congr {v w : List Nat} {b : Nat} {l : List Int} (h : ∀ a ∈ l, v.getD a.toNat 2 = w.getD a.toNat 2) : tc v b l = tc w b l := by
  unfold tc
  exact List.countP_congr (fun a ha => by rw [h a ha])
theorem tfun_congr {v w : List Nat} {d : Nd} (h : ∀ a ∈ d.args, v.getD a.toNat 2 = w.getD a.toNat 2) : tfun v d = tfun w d := by
  unfold tfun
  rw [tc_congr h, tc_congr h, tc_congr h]
def tcOf (f : Nat → Nat) (b : Nat) (args : List Int) : Nat := args.countP (fun a => f a.toNat == b)
theorem Fm.tval_event (F : Fm) (y n : Int) {j : Nat} (hj : j < F.vars.toNat) : F.tval y n j = lev (bitB y j) (bitB n j) := by
  unfold Fm.tval Fm.tvals
  rw [genFrom_getD_lt _ _ _ _ _ (by rw [tevents_length]; exact hj)]
  simp [tevents, hj]
theorem Fm.tval_node {F : Fm} (hg : F.Good) (y n : Int) {i : Nat} (hi : i < F.nodes.length) :
    F.tval y n (F.vars.toNat + i) = tnode F.nodes[i] (tcOf (F.tval y n) 0 F.nodes[i].args) (tcOf (F.tval y n) 1 F.nodes[i].args) (tcOf (F.tval y n) 2 F.nodes[i].args) := by
  have := genFrom_node tfun 2 F.nodes (tevents F.vars.toNat y n) i hi (by rw [tevents_length]; exact hg.argLt hi) (fun v w h => tfun_congr h)
  rw [tevents_length] at this
  exact this
theorem tnode_le {d : Nd} {m : Int} (h : d.Fits m) (a b c : Nat) : tnode d a b c ≤ 2 := by
  unfold tnode
  have hk := h.kk.1
  split
  · have := hk ‹_›; omega
  · (repeat' split) <;> exact lev_le _ _
theorem tvals_le {F : Fm} (hg : F.Good) (y n : Int) (k : Nat) (hk : k ≤ F.nodes.length) : ∀ x ∈ genFrom tfun (tevents F.vars.toNat y n) (F.nodes.take k), x ≤ 2 := by
  induction k with
  | zero =>
    intro x hx
    simp only [List.take_zero, genFrom, tevents, List.mem_map] at hx
    obtain ⟨i, _, rfl⟩ := hx
    exact lev_le _ _
  | succ k ih =>
    intro x hx
    rw [genFrom_take_succ tfun (by omega), List.mem_append, List.mem_singleton] at hx
    rcases hx with hx | rfl
    · exact ih (by omega) x hx
    · exact tnode_le (hg.fits k (by omega)) _ _ _
theorem getD_le2 {l : List Nat} (h : ∀ x ∈ l, x ≤ 2) (j : Nat) : l.getD j 2 ≤ 2 := by
  rw [List.getD_eq_getElem?_getD]
  cases hj : l[j]? with
  | none => simp
  | some x => exact h x (List.mem_of_getElem? hj)
def tcs (v : List Nat) (args : List Int) : List Nat := [tc v 0 args, tc v 1 args, tc v 2 args]
theorem tc_take_succ {v : List Nat} {b : Nat} {l : List Int} {k : Nat} (hk : k < l.length) : tc v b (l.take (k + 1)) = tc v b (l.take k) + (if v.getD l[k].toNat 2 == b then 1 else 0) := by
  unfold tc
  rw [List.take_succ_eq_append_getElem hk, List.countP_append]
  simp [List.countP_cons, List.countP_nil]
theorem tcs_take_succ {v : List Nat} {l : List Int} {k : Nat} (hk : k < l.length) (h : v.getD l[k].toNat 2 ≤ 2) :
    tcs v (l.take (k + 1)) = (tcs v (l.take k)).set (v.getD l[k].toNat 2) ((tcs v (l.take k)).getD (v.getD l[k].toNat 2) 0 + 1) := by
  unfold tcs
  rw [tc_take_succ hk, tc_take_succ hk, tc_take_succ hk]
  rcases (show v.getD l[k].toNat 2 = 0 ∨ v.getD l[k].toNat 2 = 1 ∨ v.getD l[k].toNat 2 = 2 by omega) with e | e | e <;> rw [e] <;> simp
theorem tc_le (v : List Nat) (b : Nat) (l : List Int) : tc v b l ≤ l.length := List.countP_le_length
theorem tcs_getD_le (v : List Nat) (l : List Int) (j : Nat) : (tcs v l).getD j 0 ≤ l.length := by
  unfold tcs
  rcases j with _ | _ | _ | j
  · exact tc_le _ _ _
  · exact tc_le _ _ _
  · exact tc_le _ _ _
  · simp
theorem lev_two {y n : Bool} (h : lev y n = 2) : y = false ∧ n = false := by
  cases y <;> cases n <;> simp [lev] at h ⊢
theorem tnode_unknown {d : Nd} {m : Int} (h : d.Fits m) {a b c : Nat} (hs : a + b + c = d.args.length) (h2 : tnode d a b c = 2) : 0 < c := by
  have har := h.ar
  have hk := h.kk.1
  have k5 := h.k1
  unfold tnode at h2
  split at h2
  · have := hk ‹_›; omega
  rename_i h0
  split at h2
  · rename_i h1
    unfold argsB at har
    rw [if_neg h0, if_pos h1] at har
    have h3 := lev_two h2
    simp at har h3
    omega
  split at h2
  · have h3 := lev_two h2
    simp at h3
    omega
  split at h2
  · have h3 := lev_two h2
    simp at h3
    omega
  split at h2
  · have h3 := lev_two h2
    simp at h3
    omega
  · have h3 := lev_two h2
    rcases Nat.eq_zero_or_pos c with e | e
    · subst e
      have ht : ((b : Int).tmod 2) = ((b % 2 : Nat) : Int) := by norm_cast
      rw [ht] at h3
      obtain ⟨h3, h4⟩ := h3
      simp only [Int.natCast_zero, decide_true, Bool.true_and, decide_eq_false_iff_not] at h3 h4
      omega
    · exact e
theorem nats_getz (z : Nat) {l : List Nat} {i : Nat} (hi : i < l.length) : (nats l)[i]? = some (.int .i64 (l.getD i z : Nat)) := by
  simp [hi]
def Fm.tnodeVals (F : Fm) (y n : Int) : List Nat := (F.tvals y n).drop F.vars.toNat
theorem Fm.tnodeVals_length (F : Fm) (y n : Int) : (F.tnodeVals y n).length = F.nodes.length := by
  unfold Fm.tnodeVals; rw [List.length_drop, F.tvals_length]; omega
theorem Fm.tnodeVals_getD (F : Fm) (y n : Int) (i : Nat) : (F.tnodeVals y n).getD i 2 = F.tval y n (F.vars.toNat + i) := by
  unfold Fm.tnodeVals Fm.tval
  rw [List.getD_eq_getElem?_getD, List.getElem?_drop, List.getD_eq_getElem?_getD]
def noPart (y n : Nat) : Nat := n ^^^ (n &&& y)
theorem noPart_lt {y n v : Nat} (hn : n < 2 ^ v) : noPart y n < 2 ^ v := Nat.xor_lt_two_pow hn (Nat.lt_of_le_of_lt Nat.and_le_left hn)
theorem noPart_and (y n : Nat) : y &&& noPart y n = 0 := by
  refine Nat.eq_of_testBit_eq fun i => ?_
  unfold noPart
  rw [Nat.testBit_and, Nat.testBit_xor, Nat.testBit_and, Nat.zero_testBit]
  cases y.testBit i <;> cases n.testBit i <;> rfl
def nextL (v : Nat) (nodes : List Nd) (tv : Nat → Nat) : Nat → Nat → Nat
  | 0, at_ => at_
  | f + 1, at_ => if at_ < v then at_ else
      let args := (nodes.getD (at_ - v) ⟨0, 0, []⟩).args
      nextL v nodes tv f (args.getD (firstI (fun a => decide (tv a.toNat = 2)) args).toNat 0).toNat
def Fm.next (F : Fm) (y n : Int) : Int := if F.tval y n F.top.toNat ≠ 2 then -1 else nextL F.vars.toNat F.nodes (F.tval y n) (F.top.toNat + 1) F.top.toNat
theorem tcOf_pos {f : Nat → Nat} {b : Nat} {args : List Int} (h : 0 < tcOf f b args) : ∃ a ∈ args, f a.toNat = b := by
  unfold tcOf at h
  rw [List.countP_pos_iff] at h
  obtain ⟨a, ha, hb⟩ := h
  exact ⟨a, ha, by simpa using hb⟩
theorem tcOf_sum {f : Nat → Nat} {l : List Int} (h : ∀ a ∈ l, f a.toNat ≤ 2) : tcOf f 0 l + tcOf f 1 l + tcOf f 2 l = l.length := by
  unfold tcOf
  induction l with
  | nil => rfl
  | cons a r ih =>
    have h0 := h a (by simp)
    have := ih (fun b hb => h b (List.mem_cons_of_mem _ hb))
    simp only [List.countP_cons, List.length_cons]
    rcases (show f a.toNat = 0 ∨ f a.toNat = 1 ∨ f a.toNat = 2 by omega) with e | e | e <;> rw [e] <;>
      simp only [beq_self_eq_true, if_true, (by decide : ((0 : Nat) == 1) = false), (by decide : ((0 : Nat) == 2) = false), (by decide : ((1 : Nat) == 0) = false), (by decide : ((1 : Nat) == 2) = false), (by decide : ((2 : Nat) == 0) = false), (by decide : ((2 : Nat) == 1) = false), Bool.false_eq_true, if_false] <;> omega
theorem Fm.tval_le {F : Fm} (hg : F.Good) (y n : Int) (j : Nat) : F.tval y n j ≤ 2 := by
  have := tvals_le hg y n F.nodes.length (Nat.le_refl _)
  rw [List.take_length] at this
  exact getD_le2 this j
theorem Fm.next_arg {F : Fm} (hg : F.Good) (y n : Int) {i : Nat} (hi : i < F.nodes.length) (h : F.tval y n (F.vars.toNat + i) = 2) :
    ∃ k, ∃ hk : k < F.nodes[i].args.length, firstI (fun a => decide (F.tval y n a.toNat = 2)) F.nodes[i].args = k ∧ F.tval y n (F.nodes[i].args[k]).toNat = 2 := by
  rw [F.tval_node hg y n hi] at h
  have hp := tnode_unknown (hg.fits i hi) (tcOf_sum (fun a _ => F.tval_le hg y n a.toNat)) h
  obtain ⟨a, ha, he⟩ := tcOf_pos hp
  obtain ⟨k, hk, h1, h2⟩ := firstI_some (q := fun a => decide (F.tval y n a.toNat = 2)) ⟨a, ha, by simpa using he⟩
  exact ⟨k, hk, h1, by simpa using h2⟩
end Go.GL
