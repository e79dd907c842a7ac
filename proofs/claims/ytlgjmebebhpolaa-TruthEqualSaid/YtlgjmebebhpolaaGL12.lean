import Derived.Test.YtlgjmebebhpolaaGL11
namespace Go.GL
set_option linter.unusedVariables false
theorem valsFrom_getD_lt (l : List Nd) : ∀ (v0 : List Bool) (j : Nat), j < v0.length → (valsFrom v0 l).getD j false = v0.getD j false := by
  induction l with
  | nil => intro v0 j _; rfl
  | cons d r ih =>
    intro v0 j hj
    rw [valsFrom, ih _ j (by simp; omega)]
    simp [List.getD_eq_getElem?_getD, List.getElem?_append_left hj]
theorem cnt_congr {v w : List Bool} {l : List Int} (h : ∀ a ∈ l, v.getD a.toNat false = w.getD a.toNat false) : cnt v l = cnt w l := by
  unfold cnt
  exact List.countP_congr (fun a ha => by rw [h a ha])
theorem valsFrom_node (l : List Nd) (v0 : List Bool) (i : Nat) (hi : i < l.length) (ha : ∀ a ∈ l[i].args, a.toNat < v0.length + i) :
    (valsFrom v0 l).getD (v0.length + i) false = nodeVal l[i] (cnt (valsFrom v0 l) l[i].args) := by
  have hsplit : l = l.take i ++ l[i] :: l.drop (i + 1) := by
    rw [List.getElem_cons_drop]
    simp
  have hlen : (valsFrom v0 (l.take i)).length = v0.length + i := by
    rw [valsFrom_length, List.length_take]
    omega
  have h1 : valsFrom v0 l = valsFrom (valsFrom v0 (l.take i) ++ [nodeVal l[i] (cnt (valsFrom v0 (l.take i)) l[i].args)]) (l.drop (i + 1)) := by
    conv => lhs; rw [hsplit]
    rw [valsFrom_append]
    rfl
  have h2 : cnt (valsFrom v0 (l.take i)) l[i].args = cnt (valsFrom v0 l) l[i].args := by
    refine cnt_congr fun a haa => ?_
    have hlt := ha a haa
    have h3 := valsFrom_getD_lt (l.drop (i + 1)) (valsFrom v0 (l.take i) ++ [nodeVal l[i] (cnt (valsFrom v0 (l.take i)) l[i].args)]) a.toNat (by rw [List.length_append, hlen, List.length_singleton]; omega)
    rw [h1, h3]
    rw [List.getD_eq_getElem?_getD, List.getD_eq_getElem?_getD, List.getElem?_append_left (show a.toNat < (valsFrom v0 (l.take i)).length by omega)]
  have h3 := valsFrom_getD_lt (l.drop (i + 1)) (valsFrom v0 (l.take i) ++ [nodeVal l[i] (cnt (valsFrom v0 (l.take i)) l[i].args)]) (v0.length + i) (by rw [List.length_append, hlen, List.length_singleton]; omega)
  rw [← h2, h1, h3, ← hlen]
  simp [List.getD_eq_getElem?_getD]
def Fm.val (F : Fm) (z : Int) (j : Nat) : Bool := (F.values z).getD j false
theorem Fm.val_event (F : Fm) (z : Int) {j : Nat} (hj : j < F.vars.toNat) : F.val z j = bitB z j := by
  unfold Fm.val Fm.values
  rw [valsFrom_getD_lt _ _ _ (by rw [events_length]; exact hj)]
  simp [events, hj]
theorem Fm.Good.argLt {F : Fm} (hg : F.Good) {i : Nat} (hi : i < F.nodes.length) : ∀ a ∈ F.nodes[i].args, a.toNat < F.vars.toNat + i := by
  intro a ha
  have := (hg.fits i hi).args a ha
  have := hg.v0
  omega
def cntOf (f : Nat → Bool) (args : List Int) : Nat := args.countP (fun a => f a.toNat)
theorem Fm.val_node {F : Fm} (hg : F.Good) (z : Int) {i : Nat} (hi : i < F.nodes.length) : F.val z (F.vars.toNat + i) = nodeVal F.nodes[i] (cntOf (F.val z) F.nodes[i].args) := by
  have := valsFrom_node F.nodes (events F.vars.toNat z) i hi (by rw [events_length]; exact hg.argLt hi)
  rw [events_length] at this
  exact this
theorem Fm.value_eq (F : Fm) (z : Int) : F.value z = F.val z F.top.toNat := rfl
theorem cntOf_congr {f g : Nat → Bool} {l : List Int} (h : ∀ a ∈ l, f a.toNat = g a.toNat) : cntOf f l = cntOf g l := by
  unfold cntOf
  exact List.countP_congr (fun a ha => by rw [h a ha])
theorem markArgs_getD (args : List Int) : ∀ (m : List Bool) (j : Nat), (markArgs m args).getD j false = (m.getD j false || (decide (j < m.length) && args.any (fun a => a.toNat == j))) := by
  induction args with
  | nil => intro m j; simp [markArgs]
  | cons a r ih =>
    intro m j
    have h := ih (m.set a.toNat true) j
    have e : markArgs m (a :: r) = markArgs (m.set a.toNat true) r := rfl
    rw [e, h]
    simp only [List.length_set, List.any_cons, List.getD_eq_getElem?_getD]
    by_cases hj : j < m.length
    · by_cases ha : a.toNat = j
      · subst ha
        simp [hj]
      · rw [List.getElem?_set_ne ha, show (a.toNat == j) = false from beq_eq_false_iff_ne.2 ha, Bool.false_or]
    · simp only [hj, decide_false, Bool.false_and, Bool.or_false]
      rw [List.getElem?_eq_none (by simp; omega), List.getElem?_eq_none (by omega)]
theorem belowL_mono (v : Nat) (nodes : List Nd) : ∀ (i : Nat) (m : List Bool) (j : Nat), m.getD j false = true → (belowL v nodes i m).getD j false = true := by
  intro i
  induction i with
  | zero => intro m j h; exact h
  | succ i ih =>
    intro m j h
    unfold belowL
    refine ih _ j ?_
    cases m.getD (v + i) false with
    | false => exact h
    | true => simp only [cond_true, markArgs_getD, h, Bool.true_or]
theorem belowL_same (v : Nat) (nodes : List Nd) (ha : ∀ (i : Nat) (h : i < nodes.length), ∀ a ∈ nodes[i].args, a.toNat < v + i) : ∀ (i : Nat), i ≤ nodes.length → ∀ (m : List Bool) (j : Nat), v + i ≤ j + 1 → (belowL v nodes i m).getD j false = m.getD j false := by
  intro i
  induction i with
  | zero => intro _ m j _; rfl
  | succ i ih =>
    intro hi m j hj
    unfold belowL
    rw [ih (by omega) _ j (by omega)]
    cases m.getD (v + i) false with
    | false => rfl
    | true =>
      simp only [cond_true, markArgs_getD]
      have hn : nodes.getD i ⟨0, 0, []⟩ = nodes[i] := by simp [show i < nodes.length by omega]
      rw [hn]
      have : (nodes[i].args.any fun a => a.toNat == j) = false := by
        rw [List.any_eq_false]
        intro a haa
        have := ha i (by omega) a haa
        have h2 : a.toNat ≠ j := by omega
        simp [h2]
      rw [this]; simp
theorem belowL_closed (v : Nat) (nodes : List Nd) (ha : ∀ (i : Nat) (h : i < nodes.length), ∀ a ∈ nodes[i].args, a.toNat < v + i) : ∀ (i : Nat), i ≤ nodes.length → ∀ (m : List Bool), m.length = v + nodes.length →
    ∀ (k : Nat) (hk : k < nodes.length), k < i → (belowL v nodes i m).getD (v + k) false = true → ∀ a ∈ nodes[k].args, (belowL v nodes i m).getD a.toNat false = true := by
  intro i
  induction i with
  | zero => intro _ m _ k _ hk; omega
  | succ i ih =>
    intro hi m hm k hkn hk hmark a haa
    unfold belowL at hmark ⊢
    have hlen : (bif m.getD (v + i) false then markArgs m (nodes.getD i ⟨0, 0, []⟩).args else m).length = v + nodes.length := by
      cases m.getD (v + i) false <;> simp [markArgs_length, hm]
    by_cases e : k = i
    · subst e
      rw [belowL_same v nodes ha k (by omega) _ _ (by omega)] at hmark
      refine belowL_mono v nodes k _ _ ?_
      have hn : nodes.getD k ⟨0, 0, []⟩ = nodes[k] := by simp [hkn]
      have hal := ha k hkn a haa
      cases hc : m.getD (v + k) false with
      | false => rw [hc] at hmark; simp only [cond_false] at hmark; rw [hc] at hmark; cases hmark
      | true =>
        simp only [cond_true, markArgs_getD, hn]
        have : (nodes[k].args.any fun b => b.toNat == a.toNat) = true := by
          rw [List.any_eq_true]
          exact ⟨a, haa, by simp⟩
        simp [this, hm]
        right
        omega
    · exact ih (by omega) _ hlen k hkn (by omega) hmark a haa
theorem Fm.below_closed {F : Fm} (hg : F.Good) {i : Nat} (hi : i < F.nodes.length) (hm : F.below.getD (F.vars.toNat + i) false = true) : ∀ a ∈ F.nodes[i].args, F.below.getD a.toNat false = true :=
  belowL_closed F.vars.toNat F.nodes (fun i h => hg.argLt h) F.nodes.length (Nat.le_refl _) _ (by simp) i hi hi hm
theorem Fm.below_top {F : Fm} (hg : F.Good) : F.below.getD F.top.toNat false = true := by
  unfold Fm.below
  refine belowL_mono _ _ _ _ _ ?_
  have := hg.topLt
  have := hg.v0
  simp [List.getD_eq_getElem?_getD, show F.top.toNat < F.vars.toNat + F.nodes.length by omega]
theorem Fm.below_lt {F : Fm} {j : Nat} (h : F.below.getD j false = true) : j < F.vars.toNat + F.nodes.length := by
  rcases Nat.lt_or_ge j (F.vars.toNat + F.nodes.length) with h' | h'
  · exact h'
  · rw [List.getD_eq_getElem?_getD, List.getElem?_eq_none (by rw [Fm.below_length]; exact h')] at h
    cases h
theorem Fm.val_congr {F : Fm} (hg : F.Good) {x y : Int} (h : ∀ i, i < F.vars.toNat → F.below.getD i false = true → bitB x i = bitB y i) :
    ∀ j, F.below.getD j false = true → F.val x j = F.val y j := by
  intro j
  induction j using Nat.strongRecOn with
  | _ j ih =>
    intro hj
    have hlt := Fm.below_lt hj
    rcases Nat.lt_or_ge j F.vars.toNat with hv | hv
    · rw [F.val_event x hv, F.val_event y hv, h j hv hj]
    · obtain ⟨i, rfl⟩ : ∃ i, j = F.vars.toNat + i := ⟨j - F.vars.toNat, by omega⟩
      have hi : i < F.nodes.length := by omega
      rw [Fm.val_node hg x hi, Fm.val_node hg y hi]
      rw [cntOf_congr (f := F.val x) (g := F.val y) fun a ha => ih a.toNat (hg.argLt hi a ha) (Fm.below_closed hg hi hj a ha)]
def lowBits (z : Int) (v : Nat) : Nat := (z % ((2 ^ v : Nat) : Int)).toNat
theorem lowBits_lt (z : Int) (v : Nat) : lowBits z v < 2 ^ v := by
  unfold lowBits
  have h : (0 : Int) < ((2 ^ v : Nat) : Int) := by exact_mod_cast Nat.two_pow_pos v
  have := Int.emod_lt_of_pos z h
  have := Int.emod_nonneg z (show ((2 ^ v : Nat) : Int) ≠ 0 by omega)
  omega
theorem u64_low (z : Int) {v : Nat} (hv : v ≤ 64) : ((z % 18446744073709551616).toNat) % 2 ^ v = lowBits z v := by
  unfold lowBits
  have hd : (2 ^ v : Nat) ∣ 18446744073709551616 := by
    rw [show (18446744073709551616 : Nat) = 2 ^ 64 by decide]
    exact Nat.pow_dvd_pow 2 hv
  obtain ⟨c, hc⟩ := hd
  have h0 : 0 ≤ z % 18446744073709551616 := Int.emod_nonneg _ (by decide)
  obtain ⟨q, hq⟩ := Int.eq_ofNat_of_zero_le h0
  rw [hq, Int.toNat_natCast]
  have h1 : z % ((2 ^ v : Nat) : Int) = (z % 18446744073709551616) % ((2 ^ v : Nat) : Int) := by
    rw [Int.emod_emod_of_dvd]
    exact ⟨(c : Int), by rw [show (18446744073709551616 : Int) = ((18446744073709551616 : Nat) : Int) by rfl, hc]; exact Int.natCast_mul _ _⟩
  rw [h1, hq]
  norm_cast
theorem iand_low {z : Int} {s v : Nat} (hs : s < 2 ^ v) (hv : v ≤ 62) : iand z s = ((lowBits z v &&& s : Nat) : Int) := by
  have h62 : (2 : Nat) ^ v ≤ 2 ^ 62 := Nat.pow_le_pow_right (by decide) hv
  have e62 : (2 : Nat) ^ 62 = 4611686018427387904 := by decide
  unfold iand
  have h : (BitVec.ofInt 64 z &&& BitVec.ofInt 64 (s : Int)).toNat = lowBits z v &&& s := by
    simp only [BitVec.toNat_and, BitVec.toNat_ofInt]
    rw [show ((2 ^ 64 : Nat) : Int) = 18446744073709551616 by decide, emod64 (by omega), ← u64_low z (by omega)]
    refine Nat.eq_of_testBit_eq fun i => ?_
    simp only [Nat.testBit_and, Nat.testBit_mod_two_pow]
    by_cases hi : i < v
    · simp [hi]
    · have : s.testBit i = false := Nat.testBit_lt_two_pow (Nat.lt_of_lt_of_le hs (Nat.pow_le_pow_right (by decide) (by omega)))
      simp [this]
  rw [h, wrapI (by omega)]
  have : lowBits z v &&& s ≤ s := Nat.and_le_right
  omega
theorem iand_mask {z : Int} {v : Nat} (hv : v ≤ 62) : iand z ((2 ^ v - 1 : Nat) : Int) = (lowBits z v : Int) := by
  rw [iand_low (v := v) (by have := Nat.two_pow_pos v; omega) hv, Nat.and_two_pow_sub_one_eq_mod, Nat.mod_eq_of_lt (lowBits_lt z v)]
theorem iandn_nat {a b : Nat} (ha : a < 9223372036854775808) (hb : b < 9223372036854775808) : iandn a b = ((a ^^^ (a &&& b) : Nat) : Int) := by
  unfold iandn
  have h : (BitVec.ofInt 64 (a : Int) &&& ~~~ BitVec.ofInt 64 (b : Int)).toNat = a ^^^ (a &&& b) := by
    simp only [BitVec.toNat_and, BitVec.toNat_not, BitVec.toNat_ofInt]
    rw [show ((2 ^ 64 : Nat) : Int) = 18446744073709551616 by decide, emod64 ha, emod64 hb]
    refine Nat.eq_of_testBit_eq fun i => ?_
    rw [Nat.testBit_and, show 2 ^ 64 - 1 - b = 2 ^ 64 - (b + 1) by omega, Nat.testBit_two_pow_sub_succ (by omega), Nat.testBit_xor, Nat.testBit_and]
    by_cases hi : i < 64
    · simp [hi]
      cases a.testBit i <;> cases b.testBit i <;> rfl
    · have : a.testBit i = false := Nat.testBit_lt_two_pow (Nat.lt_of_lt_of_le (show a < 2 ^ 64 by omega) (Nat.pow_le_pow_right (by decide) (by omega)))
      simp [this]
  have hlt : a ^^^ (a &&& b) < 2 ^ 63 := Nat.xor_lt_two_pow (by omega) (Nat.lt_of_le_of_lt Nat.and_le_left (by omega))
  rw [h, wrapI (by omega)]
  have : (2 : Nat) ^ 63 = 9223372036854775808 := by decide
  omega
end Go.GL
