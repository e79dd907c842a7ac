import Derived.Test.YthehdjppejmfcaaWB
namespace Go.GL
open Go.ChangeShapes Go.WideShapes Go.RowKit Go.Deep Go.Joins
set_option linter.unusedVariables false
set_option linter.unusedSimpArgs false
section
variable {H : Type} {enc : TypeId × Value → H} {P : Program} {w : World} {base : Nat} {spare : Nat → Bool} {held : Bool}
end
theorem tnode_mono {d : Nd} {m : Int} (h : d.Fits m) {a b c a' b' c' : Nat} (hs : a + b + c = d.args.length) (hs' : a' + b' + c' = d.args.length) (ha : a ≤ a') (hb : b ≤ b') (h2 : tnode d a b c ≠ 2) : tnode d a' b' c' = tnode d a b c := by
  have har := h.ar
  unfold tnode at h2 ⊢
  by_cases k0 : d.kind = 0
  · simp only [k0, if_true]
  simp only [k0, if_false] at h2 ⊢
  by_cases k1 : d.kind = 1
  · simp only [k1, if_true] at h2 ⊢
    unfold argsB at har
    rw [if_neg k0, if_pos k1] at har
    simp at har
    by_cases e1 : a = 1
    · have : a' = 1 := by omega
      subst e1 this; rfl
    · by_cases e2 : b = 1
      · have h3 : b' = 1 := by omega
        have h4 : a' = a := by omega
        subst e2 h3 h4; rfl
      · exfalso; apply h2
        unfold lev
        rw [decide_eq_false (by omega), decide_eq_false (by omega)]; rfl
  simp only [k1, if_false] at h2 ⊢
  by_cases k2 : d.kind = 2
  · simp only [k2, if_true] at h2 ⊢
    by_cases e1 : b = d.args.length
    · rw [show b' = b by omega, show a' = a by omega]
    · by_cases e2 : 0 < a
      · unfold lev
        rw [decide_eq_false (show ¬ ((b' : Int) = d.args.length) by omega), decide_eq_false (show ¬ ((b : Int) = d.args.length) by omega), decide_eq_true (show 0 < (a' : Int) by omega), decide_eq_true (show 0 < (a : Int) by omega)]
      · exfalso; apply h2
        unfold lev
        rw [decide_eq_false (by omega), decide_eq_false (by omega)]; rfl
  simp only [k2, if_false] at h2 ⊢
  by_cases k3 : d.kind = 3
  · simp only [k3, if_true] at h2 ⊢
    by_cases e1 : 0 < b
    · unfold lev
      rw [decide_eq_true (show 0 < (b' : Int) by omega), decide_eq_true (show 0 < (b : Int) by omega)]; rfl
    · by_cases e2 : a = d.args.length
      · rw [show b' = b by omega, show a' = a by omega]
      · exfalso; apply h2
        unfold lev
        rw [decide_eq_false (by omega), decide_eq_false (by omega)]; rfl
  simp only [k3, if_false] at h2 ⊢
  by_cases k4 : d.kind = 4
  · simp only [k4, if_true] at h2 ⊢
    by_cases e1 : d.k ≤ b
    · unfold lev
      rw [decide_eq_true (show d.k ≤ (b' : Int) by omega), decide_eq_true (show d.k ≤ (b : Int) by omega)]; rfl
    · by_cases e2 : (b : Int) + c < d.k
      · unfold lev
        rw [decide_eq_false (show ¬ (d.k ≤ (b' : Int)) by omega), decide_eq_false (show ¬ (d.k ≤ (b : Int)) by omega), decide_eq_true (show (b' : Int) + c' < d.k by omega), decide_eq_true e2]
      · exfalso; apply h2
        unfold lev
        rw [decide_eq_false (by omega), decide_eq_false (by omega)]; rfl
  simp only [k4, if_false] at h2 ⊢
  by_cases e : c = 0
  · rw [show c' = c by omega, show b' = b by omega]
  · exfalso; apply h2
    unfold lev
    rw [decide_eq_false (show ¬ ((c : Int) = 0) by omega)]; rfl
theorem tcOf_mono {f g : Nat → Nat} {b : Nat} {l : List Int} (h : ∀ a ∈ l, f a.toNat = b → g a.toNat = b) : tcOf f b l ≤ tcOf g b l := by
  unfold tcOf
  exact List.countP_mono_left (fun a ha h1 => by simpa using h a ha (by simpa using h1))
theorem law_learns {F : Fm} (hg : F.Good) {y n y' n' : Int} (hy : ∀ i, i < F.vars.toNat → bitB y i = true → bitB y' i = true) (hn : ∀ i, i < F.vars.toNat → bitB n i = true → bitB n' i = true)
    (hd : ∀ i, i < F.vars.toNat → bitB n' i = true → bitB y' i = false) : ∀ j, j < F.vars.toNat + F.nodes.length → F.tval y n j ≠ 2 → F.tval y' n' j = F.tval y n j := by
  intro j
  induction j using Nat.strongRecOn with
  | _ j ih =>
    intro hj h2
    rcases Nat.lt_or_ge j F.vars.toNat with hv | hv
    · rw [F.tval_event y n hv] at h2 ⊢
      rw [F.tval_event y' n' hv]
      have a1 := hy j hv; have a2 := hn j hv; have a3 := hd j hv
      unfold lev at h2 ⊢
      cases e1 : bitB y j with
      | true => rw [a1 e1]; simp only [cond_true]
      | false =>
        rw [e1] at h2
        cases e2 : bitB n j with
        | true => rw [a3 (a2 e2), a2 e2]
        | false => rw [e2] at h2; simp at h2
    · obtain ⟨i, rfl⟩ : ∃ i, j = F.vars.toNat + i := ⟨j - F.vars.toNat, by omega⟩
      have hi : i < F.nodes.length := by omega
      rw [F.tval_node hg y n hi] at h2 ⊢
      rw [F.tval_node hg y' n' hi]
      refine tnode_mono (hg.fits i hi) (tcOf_sum (fun a _ => F.tval_le hg y n a.toNat)) (tcOf_sum (fun a _ => F.tval_le hg y' n' a.toNat)) ?_ ?_ h2
      · exact tcOf_mono (fun a ha h0 => by rw [ih a.toNat (hg.argLt hi a ha) (by have := hg.argLt hi a ha; omega) (by omega)]; exact h0)
      · exact tcOf_mono (fun a ha h0 => by rw [ih a.toNat (hg.argLt hi a ha) (by have := hg.argLt hi a ha; omega) (by omega)]; exact h0)
def moreYes (y n b : Nat) : Nat := y ||| noPart n b
def moreNo (y n b0 b1 : Nat) : Nat := n ||| noPart (moreYes y n b0) b1
theorem noPart_testBit (y n i : Nat) : (noPart y n).testBit i = (n.testBit i && !y.testBit i) := by
  unfold noPart
  rw [Nat.testBit_xor, Nat.testBit_and]
  cases y.testBit i <;> cases n.testBit i <;> rfl
end Go.GL
namespace Go.GL
set_option linter.unusedVariables false
set_option linter.unusedSimpArgs false
section
variable {P : Program} {n : Nat} {S : List (Nat × Value)} {H : List Ent} {A : Array Oper} {Q : Exit → Act → World → Prop}
end
section
variable {α : Type} (f : List α → Nd → α) (z : α)
def refG (v : Nat) (ev : List α) (nodes : List Nd) (k : Nat) : List α := (genFrom f ev (nodes.take k)).drop v ++ List.replicate (nodes.length - k) z
variable {f z}
end
def ofT (v : Int) (vs : List Nat) (y n : Int) (a : Int) : Nat := if v ≤ a then vs.getD (a - v).toNat 2 else lev (bitB y a.toNat) (bitB n a.toNat)
end Go.GL
namespace Go.GL
end Go.GL
namespace Go.GL
set_option linter.unusedVariables false
set_option linter.unusedSimpArgs false
theorem tnode_full {d : Nd} {m : Int} (h : d.Fits m) {a b : Nat} (hs : a + b = d.args.length) : tnode d a b 0 = bif nodeVal d b then 1 else 0 := by
  have har := h.ar
  have hk := h.kk.1
  unfold tnode nodeVal
  by_cases k0 : d.kind = 0
  · simp only [k0, if_true]
    rcases hk k0 with e | e <;> rw [e] <;> rfl
  simp only [k0, if_false]
  by_cases k1 : d.kind = 1
  · simp only [k1, if_true]
    unfold argsB at har
    rw [if_neg k0, if_pos k1] at har
    simp at har
    rcases (show (a = 0 ∧ b = 1) ∨ (a = 1 ∧ b = 0) by omega) with ⟨rfl, rfl⟩ | ⟨rfl, rfl⟩ <;> rfl
  simp only [k1, if_false]
  by_cases k2 : d.kind = 2
  · simp only [k2, if_true]
    by_cases e : b = d.args.length
    · rw [decide_eq_true (show (b : Int) = d.args.length by omega)]; rfl
    · rw [decide_eq_false (show ¬ ((b : Int) = d.args.length) by omega), decide_eq_true (show 0 < (a : Int) by omega)]; rfl
  simp only [k2, if_false]
  by_cases k3 : d.kind = 3
  · simp only [k3, if_true]
    by_cases e : 0 < b
    · rw [decide_eq_true (show 0 < (b : Int) by omega)]; rfl
    · rw [decide_eq_false (show ¬ (0 < (b : Int)) by omega), decide_eq_true (show (a : Int) = d.args.length by omega)]; rfl
  simp only [k3, if_false]
  by_cases k4 : d.kind = 4
  · simp only [k4, if_true]
    by_cases e : d.k ≤ b
    · rw [decide_eq_true e]; rfl
    · rw [decide_eq_false e, decide_eq_true (show (b : Int) + (0 : Nat) < d.k by omega)]; rfl
  simp only [k4, if_false]
  have k5 : d.kind = 5 := by have := h.k0; have := h.k1; omega
  simp only [k5, if_true]
  have ht : ((b : Int).tmod 2) = ((b % 2 : Nat) : Int) := by norm_cast
  rw [ht]
  rcases Nat.mod_two_eq_zero_or_one b with e | e <;> rw [e] <;> rfl
theorem tval_full {F : Fm} (hg : F.Good) {y n : Int} (h : ∀ i, i < F.vars.toNat → bitB n i = !bitB y i) : ∀ j, j < F.vars.toNat + F.nodes.length → F.tval y n j = bif F.val y j then 1 else 0 := by
  intro j
  induction j using Nat.strongRecOn with
  | _ j ih =>
    intro hj
    rcases Nat.lt_or_ge j F.vars.toNat with hv | hv
    · rw [F.tval_event y n hv, F.val_event y hv, h j hv]
      cases bitB y j <;> rfl
    · obtain ⟨i, rfl⟩ : ∃ i, j = F.vars.toNat + i := ⟨j - F.vars.toNat, by omega⟩
      have hi : i < F.nodes.length := by omega
      rw [F.tval_node hg y n hi, F.val_node hg y hi]
      have hall : ∀ a ∈ F.nodes[i].args, F.tval y n a.toNat = bif F.val y a.toNat then 1 else 0 := fun a ha => ih a.toNat (hg.argLt hi a ha) (by have := hg.argLt hi a ha; omega)
      have h2 : tcOf (F.tval y n) 2 F.nodes[i].args = 0 := by
        unfold tcOf
        rw [List.countP_eq_zero]
        intro a ha
        rw [hall a ha]
        cases F.val y a.toNat <;> decide
      have h1 : tcOf (F.tval y n) 1 F.nodes[i].args = cntOf (F.val y) F.nodes[i].args := by
        unfold tcOf cntOf
        refine List.countP_congr fun a ha => ?_
        rw [hall a ha]
        cases F.val y a.toNat <;> decide
      have hs := tcOf_sum (f := F.tval y n) (l := F.nodes[i].args) (fun a _ => F.tval_le hg y n a.toNat)
      rw [h2] at hs ⊢
      rw [h1] at hs ⊢
      exact tnode_full (hg.fits i hi) (by omega)
theorem noPart_full {s v i : Nat} (hi : i < v) : (noPart s (2 ^ v - 1)).testBit i = !s.testBit i := by
  rw [noPart_testBit, Nat.testBit_two_pow_sub_one]
  simp [hi]
theorem law_sound {F : Fm} (hg : F.Good) {y n s : Nat} (hy : y < 2 ^ F.vars.toNat) (hn : n < 2 ^ F.vars.toNat) (hs : s < 2 ^ F.vars.toNat)
    (h1 : ∀ i, y.testBit i = true → s.testBit i = true) (h2 : ∀ i, n.testBit i = true → s.testBit i = false) :
    (∀ j, j < F.vars.toNat + F.nodes.length → F.tval y n j ≠ 2 → (decide (F.tval y n j = 1)) = F.val s j) ∧
    (∀ j, j < F.vars.toNat + F.nodes.length → F.tval s (noPart s (2 ^ F.vars.toNat - 1) : Nat) j ≠ 2) := by
  have hv : F.vars.toNat ≤ 24 := by have := hg.v1; have := hg.v0; omega
  have hpos := Nat.two_pow_pos F.vars.toNat
  have hc : noPart s (2 ^ F.vars.toNat - 1) < 2 ^ F.vars.toNat := noPart_lt (by omega)
  have hfull := tval_full hg (y := (s : Int)) (n := (noPart s (2 ^ F.vars.toNat - 1) : Nat)) (fun i hi => by
    rw [bitB_nat (pow_lt63 hv hc) (by omega), bitB_nat (pow_lt63 hv hs) (by omega), noPart_full hi])
  refine ⟨fun j hj hne => ?_, fun j hj => ?_⟩
  · have := law_learns hg (y := (y : Int)) (n := (n : Int)) (y' := (s : Int)) (n' := (noPart s (2 ^ F.vars.toNat - 1) : Nat)) (fun i hi hb => ?_) (fun i hi hb => ?_) (fun i hi hb => ?_) j hj hne
    · rw [← this, hfull j hj]
      cases F.val s j <;> rfl
    · rw [bitB_nat (pow_lt63 hv hy) (by omega)] at hb
      rw [bitB_nat (pow_lt63 hv hs) (by omega)]
      exact h1 i hb
    · rw [bitB_nat (pow_lt63 hv hn) (by omega)] at hb
      rw [bitB_nat (pow_lt63 hv hc) (by omega), noPart_full hi, h2 i hb]; rfl
    · rw [bitB_nat (pow_lt63 hv hc) (by omega), noPart_full hi] at hb
      rw [bitB_nat (pow_lt63 hv hs) (by omega)]
      simpa using hb
  · rw [hfull j hj]
    cases F.val s j <;> decide
def sets3 (y n z v : Nat) : List Nat := [y, noPart n (2 ^ v - 1), y ||| (noPart n (2 ^ v - 1) &&& z)]
end Go.GL
namespace Go.GL
set_option linter.unusedVariables false
set_option linter.unusedSimpArgs false
def kn (y n : Nat) : Nat → Nat
  | 0 => 0
  | v + 1 => kn y n v + (if y.testBit v || n.testBit v then 1 else 0)
structure SplitOk (v k y n : Nat) : Prop where
  y1 : y < 2 ^ v
  n1 : n < 2 ^ v
  yn : y &&& n = 0
  kk : k ≤ kn y n v
end Go.GL
namespace Go.GL
set_option linter.unusedVariables false
set_option linter.unusedSimpArgs false
inductive Tr where
  | mk (v r : Int) (ks : List Tr) : Tr
def Tr.v : Tr → Int
  | .mk v _ _ => v
def Tr.r : Tr → Int
  | .mk _ r _ => r
def Tr.ks : Tr → List Tr
  | .mk _ _ ks => ks
def RKs (H : List Ent) : Nat → List Tr → Option Nat → Nat → Option Nat → Prop
  | 0, ks, _, _, _ => ks = []
  | n + 1, ks, a, o, sp => ks = [] ∨ ∃ b, a = some b ∧ sp = none ∧ ∀ (i : Nat) (k : Tr), ks[i]? = some k → ∃ a' o' c' s', Rd H b (o + i * 3) [.int .i64 k.v, slV a' o' k.ks.length c' s', .int .i64 k.r] ∧ RKs H n k.ks a' o' s'
theorem RKs.le {H H' : List Ent} (hl : Le H' H) : ∀ {n : Nat} {ks : List Tr} {a : Option Nat} {o : Nat} {sp : Option Nat}, RKs H n ks a o sp → RKs H' n ks a o sp
  | 0, ks, a, o, sp, h => h
  | n + 1, ks, a, o, sp, h => by
    rcases h with h | ⟨b, h1, h2, h3⟩
    · exact .inl h
    · refine .inr ⟨b, h1, h2, fun i k hk => ?_⟩
      obtain ⟨a', o', c', s', h4, h5⟩ := h3 i k hk
      exact ⟨a', o', c', s', h4.le hl, RKs.le hl h5⟩
theorem RKs.nil {H : List Ent} : ∀ {n : Nat} {a : Option Nat} {o : Nat} {sp : Option Nat}, RKs H n [] a o sp
  | 0, _, _, _ => rfl
  | _ + 1, _, _, _ => .inl rfl
theorem RKs.more {H : List Ent} : ∀ {n : Nat} {ks : List Tr} {a : Option Nat} {o : Nat} {sp : Option Nat}, RKs H n ks a o sp → RKs H (n + 1) ks a o sp
  | 0, ks, a, o, sp, h => .inl h
  | n + 1, ks, a, o, sp, h => by
    rcases h with h | ⟨b, h1, h2, h3⟩
    · exact .inl h
    · refine .inr ⟨b, h1, h2, fun i k hk => ?_⟩
      obtain ⟨a', o', c', s', h4, h5⟩ := h3 i k hk
      exact ⟨a', o', c', s', h4, RKs.more h5⟩
inductive BT where
  | lf (r : Int) : BT
  | nd (v : Nat) (l h : BT) : BT
def BT.tr : BT → Tr
  | .lf r => .mk 0 r []
  | .nd v l h => .mk v 0 [l.tr, h.tr]
def BT.valid (n : Nat) : BT → Nat → Prop
  | .lf _, _ => True
  | .nd v l h, ab => v < n ∧ ab.testBit v = false ∧ l.valid n (ab ||| 2 ^ v) ∧ h.valid n (ab ||| 2 ^ v)
def BT.size : BT → Nat
  | .lf _ => 1
  | .nd _ l h => 1 + l.size + h.size
def BT.leaves : BT → Nat → Nat → List (Nat × Nat × Int)
  | .lf r, y, n => [(y, n, r)]
  | .nd v l h, y, n => l.leaves y (n ||| 2 ^ v) ++ h.leaves (y ||| 2 ^ v) n
theorem BT.size_pos (B : BT) : 1 ≤ B.size := by cases B <;> simp [BT.size]; omega
theorem BT.leaves_le : ∀ (B : BT) (y n : Nat), (B.leaves y n).length ≤ B.size
  | .lf r, y, n => by simp [BT.leaves, BT.size]
  | .nd v l h, y, n => by
    have a := BT.leaves_le l y (n ||| 2 ^ v); have b := BT.leaves_le h (y ||| 2 ^ v) n
    simp [BT.leaves, BT.size]; omega
structure CubeOk (v y n : Nat) : Prop where
  y1 : y < 2 ^ v
  n1 : n < 2 ^ v
  yn : ∀ i, y.testBit i = true → n.testBit i = false
theorem CubeOk.and {v y n : Nat} (h : CubeOk v y n) : y &&& n = 0 := by
  apply Nat.eq_of_testBit_eq
  intro i
  rw [Nat.testBit_and, Nat.zero_testBit]
  cases e : y.testBit i
  · rfl
  · rw [h.yn i e]; rfl
theorem bit_or {a e i : Nat} : (a ||| 2 ^ e).testBit i = (a.testBit i || decide (e = i)) := by
  rw [Nat.testBit_or, Nat.testBit_two_pow]
theorem or_lt {a e v : Nat} (h : a < 2 ^ v) (he : e < v) : a ||| 2 ^ e < 2 ^ v := Nat.or_lt_two_pow h (Nat.pow_lt_pow_right (by decide) he)
theorem CubeOk.yes {v y n e : Nat} (h : CubeOk v y n) (he : e < v) (hf : (y ||| n).testBit e = false) : CubeOk v (y ||| 2 ^ e) n := by
  rw [Nat.testBit_or, Bool.or_eq_false_iff] at hf
  refine ⟨or_lt h.y1 he, h.n1, fun i hi => ?_⟩
  rw [bit_or, Bool.or_eq_true, decide_eq_true_eq] at hi
  rcases hi with hi | rfl
  · exact h.yn i hi
  · exact hf.2
theorem CubeOk.no {v y n e : Nat} (h : CubeOk v y n) (he : e < v) (hf : (y ||| n).testBit e = false) : CubeOk v y (n ||| 2 ^ e) := by
  rw [Nat.testBit_or, Bool.or_eq_false_iff] at hf
  refine ⟨h.y1, or_lt h.n1 he, fun i hi => ?_⟩
  rw [bit_or, h.yn i hi, Bool.false_or]
  refine decide_eq_false fun e => ?_
  subst e
  rw [hf.1] at hi; cases hi
theorem CubeOk.zero (v : Nat) : CubeOk v 0 0 := ⟨Nat.two_pow_pos v, Nat.two_pow_pos v, fun i hi => by rw [Nat.zero_testBit] at hi; cases hi⟩
theorem or_yes (y n e : Nat) : (y ||| 2 ^ e) ||| n = (y ||| n) ||| 2 ^ e := by rw [Nat.or_assoc, Nat.or_comm (2 ^ e), ← Nat.or_assoc]
theorem or_no (y n e : Nat) : y ||| (n ||| 2 ^ e) = (y ||| n) ||| 2 ^ e := (Nat.or_assoc _ _ _).symm
theorem BT.leaves_cube {v : Nat} : ∀ (B : BT) (y n : Nat), CubeOk v y n → B.valid v (y ||| n) → ∀ q ∈ B.leaves y n, CubeOk v q.1 q.2.1
  | .lf r, y, n, hc, hv, q, hq => by simp [BT.leaves] at hq; subst hq; exact hc
  | .nd e l h, y, n, hc, hv, q, hq => by
    obtain ⟨h1, h2, h3, h4⟩ := hv
    rcases List.mem_append.1 hq with hq | hq
    · exact BT.leaves_cube l _ _ (hc.no h1 h2) (by rw [or_no]; exact h3) q hq
    · exact BT.leaves_cube h _ _ (hc.yes h1 h2) (by rw [or_yes]; exact h4) q hq
theorem BT.cover {v z : Nat} : ∀ (B : BT) (y n : Nat), CubeOk v y n → B.valid v (y ||| n) → (∀ i, y.testBit i = true → z.testBit i = true) → (∀ i, n.testBit i = true → z.testBit i = false) →
    ∃ q ∈ B.leaves y n, (∀ i, q.1.testBit i = true → z.testBit i = true) ∧ ∀ i, q.2.1.testBit i = true → z.testBit i = false
  | .lf r, y, n, hc, hv, hy, hn => ⟨(y, n, r), by simp [BT.leaves], hy, hn⟩
  | .nd e l h, y, n, hc, hv, hy, hn => by
    obtain ⟨h1, h2, h3, h4⟩ := hv
    cases hz : z.testBit e
    · obtain ⟨q, hq, h5⟩ := BT.cover (z := z) l y (n ||| 2 ^ e) (hc.no h1 h2) (by rw [or_no]; exact h3) hy (fun i hi => by
        rw [bit_or, Bool.or_eq_true, decide_eq_true_eq] at hi
        rcases hi with hi | rfl
        · exact hn i hi
        · exact hz)
      exact ⟨q, List.mem_append_left _ hq, h5⟩
    · obtain ⟨q, hq, h5⟩ := BT.cover (z := z) h (y ||| 2 ^ e) n (hc.yes h1 h2) (by rw [or_yes]; exact h4) (fun i hi => by
        rw [bit_or, Bool.or_eq_true, decide_eq_true_eq] at hi
        rcases hi with hi | rfl
        · exact hy i hi
        · exact hz) hn
      exact ⟨q, List.mem_append_right _ hq, h5⟩
def Fm.tTop (F : Fm) (y n : Nat) : Nat := F.tval (y : Nat) (n : Nat) F.top.toNat
def accL (F G : Fm) (q : Nat × Nat × Int) : Bool := (decide (q.2.2 = 0) || decide (q.2.2 = 1)) && (decide ((F.tTop q.1 q.2.1 : Int) = q.2.2) && decide ((G.tTop q.1 q.2.1 : Int) = q.2.2))
theorem top_lt {F : Fm} (hg : F.Good) : F.top.toNat < F.vars.toNat + F.nodes.length := by have := hg.topLt; have := hg.v0; omega
theorem tTop_sound {F : Fm} (hg : F.Good) {v y n z : Nat} (hv : F.vars = v) (hc : CubeOk v y n) (hz : z < 2 ^ v) (h1 : ∀ i, y.testBit i = true → z.testBit i = true) (h2 : ∀ i, n.testBit i = true → z.testBit i = false) (hk : F.tTop y n ≠ 2) : F.value (z : Nat) = decide (F.tTop y n = 1) := by
  have hvn : F.vars.toNat = v := by omega
  have := (law_sound hg (by rw [hvn]; exact hc.y1) (by rw [hvn]; exact hc.n1) (by rw [hvn]; exact hz) h1 h2).1 F.top.toNat (top_lt hg) hk
  rw [Fm.value_eq, ← this]
  rfl
theorem law_accept {F G : Fm} (hgF : F.Good) (hgG : G.Good) {v : Nat} (hvF : F.vars = v) (hvG : G.vars = v) {B : BT} (hB : B.valid v 0) (ha : (B.leaves 0 0).all (accL F G) = true) {z : Nat} (hz : z < 2 ^ v) : F.value (z : Nat) = G.value (z : Nat) := by
  obtain ⟨q, hq, h1, h2⟩ := BT.cover (z := z) B 0 0 (CubeOk.zero v) (by simpa using hB) (fun i hi => by rw [Nat.zero_testBit] at hi; cases hi) (fun i hi => by rw [Nat.zero_testBit] at hi; cases hi)
  have hc := BT.leaves_cube B 0 0 (CubeOk.zero v) (by simpa using hB) q hq
  have ha' := List.all_eq_true.1 ha q hq
  simp only [accL, Bool.and_eq_true, Bool.or_eq_true, decide_eq_true_eq] at ha'
  obtain ⟨h3, h4, h5⟩ := ha'
  rw [tTop_sound hgF hvF hc hz h1 h2 (by omega), tTop_sound hgG hvG hc hz h1 h2 (by omega)]
  congr 1
  exact propext ⟨fun h => by omega, fun h => by omega⟩
theorem tTop_full {F : Fm} (hg : F.Good) {v y n : Nat} (hv : F.vars = v) (h24 : v ≤ 24) (hc : CubeOk v y n) (hf : ∀ i, i < v → (y ||| n).testBit i = true) : F.tTop y n ≠ 2 := by
  have hvn : F.vars.toNat = v := by omega
  have := tval_full hg (y := (y : Nat)) (n := (n : Nat)) (fun i hi => by
    rw [bitB_nat (pow_lt63 h24 hc.n1) (by omega), bitB_nat (pow_lt63 h24 hc.y1) (by omega)]
    have h1 := hf i (by omega)
    rw [Nat.testBit_or] at h1
    cases e : y.testBit i
    · rw [e] at h1; simpa using h1
    · rw [hc.yn i e]; rfl) F.top.toNat (top_lt hg)
  unfold Fm.tTop
  rw [this]
  cases F.val (y : Nat) F.top.toNat <;> decide
theorem tTop_same {F G : Fm} (hgF : F.Good) (hgG : G.Good) {v y n : Nat} (hvF : F.vars = v) (hvG : G.vars = v) (hc : CubeOk v y n) (he : ∀ z, z < 2 ^ v → F.value (z : Nat) = G.value (z : Nat)) (h1 : F.tTop y n ≠ 2) (h2 : G.tTop y n ≠ 2) : F.tTop y n = G.tTop y n := by
  have a := tTop_sound hgF hvF hc hc.y1 (fun i h => h) (fun i h => by cases e : y.testBit i; rfl; rw [hc.yn i e] at h; cases h) h1
  have b := tTop_sound hgG hvG hc hc.y1 (fun i h => h) (fun i h => by cases e : y.testBit i; rfl; rw [hc.yn i e] at h; cases h) h2
  rw [he y hc.y1, b] at a
  have hF2 := Fm.tval_le hgF (y : Nat) (n : Nat) F.top.toNat
  have hG2 := Fm.tval_le hgG (y : Nat) (n : Nat) G.top.toNat
  have e := decide_eq_decide.1 a
  unfold Fm.tTop at *
  omega
theorem cubeErr_ok {F : Fm} (hg : F.Good) {v y n : Nat} (hv : F.vars = v) (hc : CubeOk v y n) : F.cubeErr (y : Nat) (n : Nat) = none := by
  have hvn : F.vars.toNat = v := by omega
  exact Fm.cubeErr_good hg (by rw [hvn]; exact hc.y1) (by rw [hvn]; exact hc.n1) hc.and
theorem RKs.mono {H : List Ent} {n m : Nat} (h : n ≤ m) {ks : List Tr} {a : Option Nat} {o : Nat} {sp : Option Nat} (hk : RKs H n ks a o sp) : RKs H m ks a o sp := by
  obtain ⟨d, rfl⟩ : ∃ d, m = n + d := ⟨m - n, by omega⟩
  clear h
  induction d with
  | zero => exact hk
  | succ d ih => exact RKs.more ih
end Go.GL
namespace Go.GL
open Go.ChangeShapes Go.WideShapes Go.RowKit Go.Deep Go.Joins
set_option linter.unusedVariables false
set_option linter.unusedSimpArgs false
instance : Inhabited Tr := ⟨.mk 0 0 []⟩
section
variable {H : Type} {enc : TypeId × Value → H} {P : Program} {w : World}
theorem open_kids {tT tTs tI : TypeId} {g0 g1 g2 : Field} (hT : P.underlying tT = some (.struct #[g0, g1, g2])) (hone : oneCellFields P #[g0, g1, g2] = true) (hC3 : P.cellsOf tT = 3)
    (e0 : g0.type = tI) (e1 : g1.type = tTs) (e2 : g2.type = tI) (hTs : P.underlying tTs = some (.slice tT)) (hI : P.underlying tI = some (.int .i64)) (hC : P.cellsOf tI = 1) :
    ∀ (n : Nat) {c : Value} {y : DataW H × List MemPlace}, DataW.trod enc P w 0 (fun _ => true) true n tTs [c] = some y →
      ∃ (ks : List Tr) (a : Option Nat) (o cap : Nat) (sp : Option Nat), c = slV a o ks.length cap sp ∧ RKs [GL.base w] n ks a o sp := by
  intro n
  induction n using Nat.strongRecOn with
  | _ n ih =>
  intro c y h
  rcases DataW.trod_slice hTs h with ⟨hc, _⟩ | ⟨a, len, cap, elems, rest, n1, hn, hc, _, _, hl, hm, hel, hx, _, _⟩
  · simp only [List.cons.injEq, and_true] at hc
    subst hc
    exact ⟨[], none, 0, 0, none, rfl, RKs.nil⟩
  · simp only [List.cons.injEq, and_true] at hc
    subst hc hn
    obtain ⟨b, off, sp⟩ := a
    have hspot : 0 < len → sp = none := by
      intro h0
      have h1 := hx 0 h0
      rw [List.getElem?_eq_getElem (by omega), Nat.zero_mul] at h1
      obtain ⟨cs, hcs, _⟩ := Option.bind_eq_some_iff.1 h1
      rw [hC3] at hcs
      have hcs' : w.cells? 0 ⟨b, off, sp⟩ 3 = some cs := hcs
      obtain ⟨_, hcl, hat⟩ := World.cells?_some hcs'
      obtain ⟨c0, c1, c2, rfl⟩ : ∃ c0 c1 c2, cs = [c0, c1, c2] := by
        match cs, hcl with
        | [c0, c1, c2], _ => exact ⟨c0, c1, c2, rfl⟩
      have := hat 0 (by omega)
      simpa [Addr.add] using World.cell?_spot this
    have each0 : ∀ i, i < len → sp = none ∧ ∃ k : Tr, ∃ a' o' c' s', Rd [GL.base w] b (off + i * 3) [.int .i64 k.v, slV a' o' k.ks.length c' s', .int .i64 k.r] ∧ RKs [GL.base w] n1 k.ks a' o' s' := by
      intro i hi
      have h1 := hx i hi
      rw [List.getElem?_eq_getElem (by omega)] at h1
      obtain ⟨cs, hcs, htr⟩ := Option.bind_eq_some_iff.1 h1
      rw [hC3] at hcs
      obtain ⟨_, hcl, hat⟩ := World.cells?_some hcs
      obtain ⟨c0, c1, c2, rfl⟩ : ∃ c0 c1 c2, cs = [c0, c1, c2] := by
        match cs, hcl with
        | [c0, c1, c2], _ => exact ⟨c0, c1, c2, rfl⟩
      have hs : sp = none := hspot (by omega)
      subst hs
      obtain ⟨xs, n2, hn2, _, hl3, hlen, hf⟩ := DataW.trod_struct hT htr
      match xs, hlen with
      | [y0, y1, y2], _ =>
      have k0 : DataW.trod enc P w 0 (fun _ => true) true n2 g0.type (([c0, c1, c2].drop g0.offset).take (P.cellsOf g0.type)) = some y0 := by simpa using hf 0 g0 rfl
      have k1 : DataW.trod enc P w 0 (fun _ => true) true n2 g1.type (([c0, c1, c2].drop g1.offset).take (P.cellsOf g1.type)) = some y1 := by simpa using hf 1 g1 rfl
      have k2 : DataW.trod enc P w 0 (fun _ => true) true n2 g2.type (([c0, c1, c2].drop g2.offset).take (P.cellsOf g2.type)) = some y2 := by simpa using hf 2 g2 rfl
      obtain ⟨o0, q0⟩ := hone_of hone 0 g0 rfl
      obtain ⟨o1, q1⟩ := hone_of hone 1 g1 rfl
      obtain ⟨o2, q2⟩ := hone_of hone 2 g2 rfl
      rw [o0, q0, e0] at k0; rw [o1, q1, e1] at k1; rw [o2, q2, e2] at k2
      simp only [List.drop_zero, List.take_succ_cons, List.take_zero] at k0
      simp only [List.drop_succ_cons, List.drop_zero, List.take_succ_cons, List.take_zero] at k1 k2
      obtain ⟨v, r0, _, _⟩ := DataW.trod_int hI k0
      obtain ⟨r, r2, _, _⟩ := DataW.trod_int hI k2
      obtain ⟨ks, a', o', c', s', r1, r3⟩ := ih n2 (by omega) k1
      simp only [List.cons.injEq, and_true] at r0 r2
      subst r0 r1 r2
      refine ⟨rfl, .mk v r ks, a', o', c', s', Rd.base (fun j u hj => ?_), RKs.mono (by omega) r3⟩
      have hj3 : j < 3 := by
        have := (List.getElem?_eq_some_iff.1 hj).1
        simpa using this
      have := hat j hj3
      rw [addr_add, addr_add] at this
      rw [this]
      exact hj
    obtain ⟨f, hf⟩ := choose_lt (p := fun i (k : Tr) => ∃ a' o' c' s', Rd [GL.base w] b (off + i * 3) [.int .i64 k.v, slV a' o' k.ks.length c' s', .int .i64 k.r] ∧ RKs [GL.base w] n1 k.ks a' o' s') (n := len) (fun i hi => (each0 i hi).2)
    have hlen : ((List.range len).map f).length = len := by simp
    refine ⟨(List.range len).map f, some b, off, cap, sp, by rw [hlen]; rfl, ?_⟩
    rcases Nat.eq_zero_or_pos len with h0 | hp
    · subst h0
      exact .inl rfl
    · refine .inr ⟨b, rfl, (each0 0 hp).1, fun i k hk => ?_⟩
      have hil : i < len := by have := (List.getElem?_eq_some_iff.1 hk).1; simpa using this
      have : k = f i := by simpa [hil] using hk.symm
      subst this
      exact hf i hil
end
end Go.GL
namespace Go.GL
set_option linter.unusedVariables false
set_option linter.unusedSimpArgs false
def ckL (f : Tr → Nat → Nat → Option Int × Nat) : List Tr → Nat → Nat → Option Int × Nat
  | [], _, c => (none, c)
  | k :: r, ab, c => match f k ab c with
    | (some e, c') => (some e, c')
    | (none, c') => ckL f r ab c'
def ckT (v : Nat) : Nat → Tr → Nat → Nat → Option Int × Nat
  | n, T, ab, c =>
    if 4096 < c + 1 then (some 4, c + 1) else
    if T.ks.length ≠ 0 ∧ T.ks.length ≠ 2 then (some 11, c + 1) else
    if T.ks.length = 0 then (if T.v ≠ 0 then some 2 else none, c + 1) else
    if T.v < 0 ∨ (v : Int) ≤ T.v then (some 3, c + 1) else
    if ab.testBit T.v.toNat = true then (some 6, c + 1) else
    if T.r ≠ 0 then (some 2, c + 1) else
    match n with
    | 0 => (none, c + 1)
    | n + 1 => ckL (ckT v n) T.ks (ab ||| 2 ^ T.v.toNat) (c + 1)
variable {v n ab c : Nat} {T : Tr}
theorem ckT_1 (h : 4096 < c + 1) : ckT v n T ab c = (some 4, c + 1) := by unfold ckT; rw [if_pos h]
theorem ckT_2 (h : ¬ 4096 < c + 1) (h2 : T.ks.length ≠ 0 ∧ T.ks.length ≠ 2) : ckT v n T ab c = (some 11, c + 1) := by unfold ckT; rw [if_neg h, if_pos h2]
theorem ckT_3 (h : ¬ 4096 < c + 1) (h2 : T.ks.length = 0) (h3 : T.v ≠ 0) : ckT v n T ab c = (some 2, c + 1) := by unfold ckT; rw [if_neg h, if_neg (by omega), if_pos h2, if_pos h3]
theorem ckT_4 (h : ¬ 4096 < c + 1) (h2 : T.ks.length = 0) (h3 : ¬ T.v ≠ 0) : ckT v n T ab c = (none, c + 1) := by unfold ckT; rw [if_neg h, if_neg (by omega), if_pos h2, if_neg h3]
theorem ckT_5 (h : ¬ 4096 < c + 1) (h2 : T.ks.length = 2) (h3 : T.v < 0 ∨ (v : Int) ≤ T.v) : ckT v n T ab c = (some 3, c + 1) := by unfold ckT; rw [if_neg h, if_neg (by omega), if_neg (by omega), if_pos h3]
theorem ckT_6 (h : ¬ 4096 < c + 1) (h2 : T.ks.length = 2) (h3 : ¬ (T.v < 0 ∨ (v : Int) ≤ T.v)) (h4 : ab.testBit T.v.toNat = true) : ckT v n T ab c = (some 6, c + 1) := by unfold ckT; rw [if_neg h, if_neg (by omega), if_neg (by omega), if_neg h3, if_pos h4]
theorem ckT_7 (h : ¬ 4096 < c + 1) (h2 : T.ks.length = 2) (h3 : ¬ (T.v < 0 ∨ (v : Int) ≤ T.v)) (h4 : ¬ ab.testBit T.v.toNat = true) (h5 : T.r ≠ 0) : ckT v n T ab c = (some 2, c + 1) := by unfold ckT; rw [if_neg h, if_neg (by omega), if_neg (by omega), if_neg h3, if_neg h4, if_pos h5]
theorem ckT_8 (h : ¬ 4096 < c + 1) (h2 : T.ks.length = 2) (h3 : ¬ (T.v < 0 ∨ (v : Int) ≤ T.v)) (h4 : ¬ ab.testBit T.v.toNat = true) (h5 : ¬ T.r ≠ 0) : ckT v (n + 1) T ab c = ckL (ckT v n) T.ks (ab ||| 2 ^ T.v.toNat) (c + 1) := by conv => lhs; unfold ckT; rw [if_neg h, if_neg (by omega), if_neg (by omega), if_neg h3, if_neg h4, if_neg h5]
theorem ckL_some {f : Tr → Nat → Nat → Option Int × Nat} {k : Tr} {r : List Tr} {e : Int} (h : (f k ab c).1 = some e) : ckL f (k :: r) ab c = (some e, (f k ab c).2) := by
  unfold ckL
  cases hx : f k ab c with
  | mk o c' => rw [hx] at h; simp only at h; subst h; rfl
theorem ckL_none {f : Tr → Nat → Nat → Option Int × Nat} {k : Tr} {r : List Tr} (h : (f k ab c).1 = none) : ckL f (k :: r) ab c = ckL f r ab (f k ab c).2 := by
  conv => lhs; unfold ckL
  cases hx : f k ab c with
  | mk o c' => rw [hx] at h; simp only at h; subst h; rfl
theorem ckL_le {f : Tr → Nat → Nat → Option Int × Nat} (hf : ∀ k ab c, (f k ab c).1 = none → (f k ab c).2 ≤ 4096) : ∀ (l : List Tr) (c : Nat), c ≤ 4096 → (ckL f l ab c).1 = none → (ckL f l ab c).2 ≤ 4096
  | [], c, h, _ => h
  | k :: r, c, h, h1 => by
    cases hx : (f k ab c).1 with
    | some e => rw [ckL_some hx] at h1; cases h1
    | none => rw [ckL_none hx] at h1 ⊢; exact ckL_le hf r _ (hf _ _ _ hx) h1
theorem ckT_le : ∀ (n : Nat) (T : Tr) (ab c : Nat), (ckT v n T ab c).1 = none → (ckT v n T ab c).2 ≤ 4096 := by
  intro n
  induction n with
  | zero =>
    intro T ab c h
    by_cases h1 : 4096 < c + 1
    · rw [ckT_1 h1] at h; cases h
    · have e : (ckT v 0 T ab c).2 = c + 1 := by
        unfold ckT
        rw [if_neg h1]
        split
        · rfl
        split
        · rfl
        split
        · rfl
        split
        · rfl
        split
        · rfl
        · rfl
      omega
  | succ n ih =>
    intro T ab c h
    by_cases h1 : 4096 < c + 1
    · rw [ckT_1 h1] at h; cases h
    by_cases h2 : T.ks.length ≠ 0 ∧ T.ks.length ≠ 2
    · rw [ckT_2 h1 h2] at h; cases h
    by_cases h3 : T.ks.length = 0
    · by_cases h4 : T.v ≠ 0
      · rw [ckT_3 h1 h3 h4] at h; cases h
      · rw [ckT_4 h1 h3 h4]; simp only; omega
    have h3' : T.ks.length = 2 := by omega
    by_cases h4 : T.v < 0 ∨ (v : Int) ≤ T.v
    · rw [ckT_5 h1 h3' h4] at h; cases h
    by_cases h5 : ab.testBit T.v.toNat = true
    · rw [ckT_6 h1 h3' h4 h5] at h; cases h
    by_cases h6 : T.r ≠ 0
    · rw [ckT_7 h1 h3' h4 h5 h6] at h; cases h
    · rw [ckT_8 h1 h3' h4 h5 h6] at h ⊢
      exact ckL_le ih _ _ (by omega) h
def shT : Nat → Tr → Int → Bool
  | 0, T, d => !(decide (d < 0) || decide (3 < T.ks.length)) && true
  | n + 1, T, d => !(decide (d < 0) || decide (3 < T.ks.length)) && T.ks.all (fun q => shT n q (d - 1))
theorem shT_false {n : Nat} {T : Tr} {d : Int} (h : d < 0 ∨ 3 < T.ks.length) : shT n T d = false := by
  have e : (decide (d < 0) || decide (3 < T.ks.length)) = true := by
    rw [Bool.or_eq_true, decide_eq_true_eq, decide_eq_true_eq]; exact h
  cases n with
  | zero => unfold shT; rw [e]; rfl
  | succ n => unfold shT; rw [e]; rfl
theorem shT_true {n : Nat} {T : Tr} {d : Int} (h : ¬ (d < 0 ∨ 3 < T.ks.length)) (hk : ∀ m, n = m + 1 → T.ks.all (fun q => shT m q (d - 1)) = true) : shT n T d = true := by
  have e : (decide (d < 0) || decide (3 < T.ks.length)) = false := by
    rw [Bool.or_eq_false_iff, decide_eq_false_iff_not, decide_eq_false_iff_not]; exact ⟨fun x => h (.inl x), fun x => h (.inr x)⟩
  cases n with
  | zero => unfold shT; rw [e]; rfl
  | succ n => unfold shT; rw [e, hk n rfl]; rfl
theorem shT_kid {n : Nat} {T q : Tr} {d : Int} (hq : q ∈ T.ks) (h : shT n q (d - 1) = false) : shT (n + 1) T d = false := by
  unfold shT
  have : T.ks.all (fun q => shT n q (d - 1)) = false := by
    rw [List.all_eq_false]
    exact ⟨q, hq, by rw [h]; decide⟩
  rw [this, Bool.and_false]
def argW (l : List Nd) : Int := l.foldl (fun x d => IntKind.i64.wrap (x + d.args.length)) 0
def Fm.heavyB (F : Fm) : Bool := (decide (8 < F.vars) || decide (16 < (F.nodes.length : Int))) || decide (60 < argW F.nodes)
def Fm.readyB (F : Fm) : Bool := !F.heavyB && decide (F.err.getD 0 = 0)
theorem argW_succ {l : List Nd} {k : Nat} (h : k < l.length) : argW (l.take (k + 1)) = IntKind.i64.wrap (argW (l.take k) + l[k].args.length) := by
  unfold argW
  rw [List.take_succ_eq_append_getElem h, List.foldl_append]
  rfl
def DepT : Nat → Tr → Prop
  | 0, T => T.ks = []
  | n + 1, T => ∀ k ∈ T.ks, DepT n k
theorem RKs.dep {H : List Ent} : ∀ {n : Nat} {T : Tr} {a : Option Nat} {o : Nat} {sp : Option Nat}, RKs H n T.ks a o sp → DepT n T
  | 0, T, _, _, _, h => h
  | n + 1, T, _, _, _, h => by
    intro k hk
    rcases h with h | ⟨b, _, _, h3⟩
    · rw [h] at hk; cases hk
    · obtain ⟨i, hi, rfl⟩ := List.getElem_of_mem hk
      obtain ⟨a', o', c', s', _, h5⟩ := h3 i _ (List.getElem?_eq_getElem hi)
      exact RKs.dep h5
theorem ckT_tree : ∀ (n : Nat) (T : Tr) (ab c : Nat), DepT n T → (ckT v n T ab c).1 = none → ∃ B : BT, T = B.tr ∧ B.valid v ab ∧ (ckT v n T ab c).2 = c + B.size := by
  intro n
  induction n with
  | zero =>
    intro T ab c hd h
    have hk : T.ks = [] := hd
    have h3 : T.ks.length = 0 := by rw [hk]; rfl
    by_cases h1 : 4096 < c + 1
    · rw [ckT_1 h1] at h; cases h
    by_cases h4 : T.v ≠ 0
    · rw [ckT_3 h1 h3 h4] at h; cases h
    · rw [ckT_4 h1 h3 h4]
      refine ⟨.lf T.r, ?_, trivial, rfl⟩
      cases T with
      | mk a b ks => simp only [Tr.ks] at hk; simp only [Tr.v, ne_eq, Decidable.not_not] at h4; rw [hk, h4]; rfl
  | succ n ih =>
    intro T ab c hd h
    by_cases h1 : 4096 < c + 1
    · rw [ckT_1 h1] at h; cases h
    by_cases h2 : T.ks.length ≠ 0 ∧ T.ks.length ≠ 2
    · rw [ckT_2 h1 h2] at h; cases h
    by_cases h3 : T.ks.length = 0
    · by_cases h4 : T.v ≠ 0
      · rw [ckT_3 h1 h3 h4] at h; cases h
      · rw [ckT_4 h1 h3 h4]
        refine ⟨.lf T.r, ?_, trivial, rfl⟩
        have hk : T.ks = [] := List.eq_nil_of_length_eq_zero h3
        cases T with
        | mk a b ks => simp only [Tr.ks] at hk; simp only [Tr.v, ne_eq, Decidable.not_not] at h4; rw [hk, h4]; rfl
    have h3' : T.ks.length = 2 := by omega
    by_cases h4 : T.v < 0 ∨ (v : Int) ≤ T.v
    · rw [ckT_5 h1 h3' h4] at h; cases h
    by_cases h5 : ab.testBit T.v.toNat = true
    · rw [ckT_6 h1 h3' h4 h5] at h; cases h
    by_cases h6 : T.r ≠ 0
    · rw [ckT_7 h1 h3' h4 h5 h6] at h; cases h
    · rw [ckT_8 h1 h3' h4 h5 h6] at h ⊢
      cases T with
      | mk a r ks =>
      simp only [Tr.ks, Tr.v, Tr.r] at *
      match ks, h3', hd with
      | [k0, k1], _, hd =>
      have d0 : DepT n k0 := hd k0 (by simp [Tr.ks])
      have d1 : DepT n k1 := hd k1 (by simp [Tr.ks])
      cases hx0 : (ckT v n k0 (ab ||| 2 ^ a.toNat) (c + 1)).1 with
      | some e => rw [ckL_some hx0] at h; cases h
      | none =>
        rw [ckL_none hx0] at h ⊢
        cases hx1 : (ckT v n k1 (ab ||| 2 ^ a.toNat) (ckT v n k0 (ab ||| 2 ^ a.toNat) (c + 1)).2).1 with
        | some e => rw [ckL_some hx1] at h; cases h
        | none =>
          rw [ckL_none hx1]
          obtain ⟨B0, e0, v0, s0⟩ := ih k0 _ _ d0 hx0
          obtain ⟨B1, e1, v1, s1⟩ := ih k1 _ _ d1 hx1
          refine ⟨.nd a.toNat B0 B1, ?_, ⟨by omega, by simpa using h5, v0, v1⟩, ?_⟩
          · simp only [BT.tr, ← e0, ← e1]
            rw [show ((a.toNat : Nat) : Int) = a by omega, show r = 0 by omega]
          · simp only [ckL, BT.size]
            omega
def BT.depth : BT → Nat
  | .lf _ => 0
  | .nd _ l h => max l.depth h.depth + 1
theorem ckT_ok : ∀ (B : BT) (n ab c : Nat), B.depth ≤ n → B.valid v ab → c + B.size ≤ 4096 → ckT v n B.tr ab c = (none, c + B.size)
  | .lf r, n, ab, c, _, _, hs => by
    simp only [BT.size] at hs ⊢
    exact ckT_4 (by omega) rfl (by simp [BT.tr, Tr.v])
  | .nd x l h, n, ab, c, hd, hv, hs => by
    obtain ⟨h1, h2, h3, h4⟩ := hv
    simp only [BT.depth] at hd
    simp only [BT.size] at hs ⊢
    obtain ⟨m, rfl⟩ : ∃ m, n = m + 1 := ⟨n - 1, by omega⟩
    have hx : ((x : Int)).toNat = x := by omega
    rw [ckT_8 (T := (BT.nd x l h).tr) (by omega) rfl (by simp [BT.tr, Tr.v]; omega) (by simp only [BT.tr, Tr.v]; rw [hx, h2]; decide) (by simp [BT.tr, Tr.r])]
    simp only [BT.tr, Tr.ks, Tr.v, hx]
    have e0 := ckT_ok l m (ab ||| 2 ^ x) (c + 1) (by omega) h3 (by omega)
    have e1 := ckT_ok h m (ab ||| 2 ^ x) (c + 1 + l.size) (by omega) h4 (by omega)
    rw [ckL_none (by rw [e0]), e0, ckL_none (by rw [e1]), e1]
    simp only [ckL]
    rw [show c + 1 + l.size + h.size = c + (1 + l.size + h.size) by omega]
end Go.GL
namespace Go.GL
set_option linter.unusedVariables false
set_option linter.unusedSimpArgs false
def lvV : List (Nat × Nat × Int) → List Value
  | [] => []
  | q :: r => natV q.1 :: natV q.2.1 :: .int .i64 q.2.2 :: lvV r
theorem lvV_length : ∀ l : List (Nat × Nat × Int), (lvV l).length = 3 * l.length
  | [] => rfl
  | q :: r => by simp only [lvV, List.length_cons, lvV_length r]; omega
theorem lvV_append : ∀ a b : List (Nat × Nat × Int), lvV (a ++ b) = lvV a ++ lvV b
  | [], b => rfl
  | q :: r, b => by simp only [lvV, List.cons_append, lvV_append r b]
theorem lvV_snoc (a : List (Nat × Nat × Int)) (y n : Nat) (r : Int) : lvV a ++ [natV y, natV n, .int .i64 r] = lvV (a ++ [(y, n, r)]) := by rw [lvV_append]; rfl
theorem lvV_at : ∀ (l : List (Nat × Nat × Int)) (k : Nat) (q : Nat × Nat × Int), l[k]? = some q → ∀ j v, [natV q.1, natV q.2.1, Value.int .i64 q.2.2][j]? = some v → (lvV l)[k * 3 + j]? = some v
  | [], k, q, h, j, v, hj => by simp at h
  | p :: r, 0, q, h, j, v, hj => by
    simp only [List.getElem?_cons_zero, Option.some.injEq] at h
    subst h
    match j, hj with
    | 0, hj => simpa [lvV] using hj
    | 1, hj => simpa [lvV] using hj
    | 2, hj => simpa [lvV] using hj
  | p :: r, k + 1, q, h, j, v, hj => by
    simp only [List.getElem?_cons_succ] at h
    have := lvV_at r k q h j v hj
    rw [show (k + 1) * 3 + j = (k * 3 + j) + 3 by omega]
    simpa [lvV] using this
theorem lvV_rd {H : List Ent} {b E cap : Nat} {l : List (Nat × Nat × Int)} (h : row (some b) E 3 cap (lvV l) ∈ H) {k : Nat} (hk : k < l.length) : Rd H b (k * 3) [natV l[k].1, natV l[k].2.1, .int .i64 l[k].2.2] := by
  have h0 : Rd H b 0 (lvV l) := Rd.all h
  intro w hM j v hj
  have := h0 w hM (k * 3 + j) v (lvV_at l k l[k] (by simp [hk]) j v hj)
  simpa [Nat.add_assoc] using this
theorem BT.leaf_of {B : BT} (h : ((B.tr.ks.length : Nat) : Int) = 0) : ∃ r, B = .lf r := by
  cases B with
  | lf r => exact ⟨r, rfl⟩
  | nd e l h' => simp [BT.tr, Tr.ks] at h
theorem BT.node_of {B : BT} (h : ¬ ((B.tr.ks.length : Nat) : Int) = 0) : ∃ e l g, B = .nd e l g := by
  cases B with
  | lf r => exact absurd rfl h
  | nd e l g => exact ⟨e, l, g, rfl⟩
end Go.GL
namespace Go.GL
set_option linter.unusedVariables false
set_option linter.unusedSimpArgs false
theorem Rd.seg {H : List Ent} {b off : Nat} {vs : List Value} (h : Rd H b off vs) (i n : Nat) : Rd H b (off + i) ((vs.drop i).take n) := by
  intro w hM j u hj
  have := h w hM (i + j) u (by
    rw [List.getElem?_take] at hj
    split at hj
    · rw [List.getElem?_drop] at hj; exact hj
    · cases hj)
  rw [show off + (i + j) = off + i + j by omega] at this
  exact this
def Kn (v : Nat) (pl : List Nat) (d x : Nat) : Prop := ∀ i, i < v → x.testBit i = decide (pl.getD i 0 < d)
theorem Kn.start {v : Nat} {pl : List Nat} : Kn v pl 0 (0 ||| 0) := fun i _ => by simp
theorem Kn.fresh {v : Nat} {o pl : List Nat} {d x : Nat} (ho : OP v o pl) (hd : d < v) (h : Kn v pl d x) : x.testBit (o.getD d 0) = false := by
  have hx := ho.op d hd
  rw [h _ hx.1, hx.2]; exact decide_eq_false (by omega)
theorem Kn.step {v : Nat} {o pl : List Nat} {d x : Nat} (ho : OP v o pl) (hd : d < v) (h : Kn v pl d x) : Kn v pl (d + 1) (x ||| 2 ^ (o.getD d 0)) := by
  intro i hi
  have hx := ho.op d hd
  rw [bit_or, h i hi]
  by_cases he : o.getD d 0 = i
  · subst he
    rw [hx.2, decide_eq_true rfl, Bool.or_true, decide_eq_true (by omega)]
  · have hp := ho.po i hi
    have hne : pl.getD i 0 ≠ d := fun e => he (by rw [← e]; exact hp.2)
    rw [decide_eq_false he, Bool.or_false]
    exact decide_eq_decide.2 ⟨fun h => by omega, fun h => by omega⟩
theorem Kn.full {v : Nat} {o pl : List Nat} {x : Nat} (ho : OP v o pl) (h : Kn v pl v x) : ∀ i, i < v → x.testBit i = true := fun i hi => by rw [h i hi]; exact decide_eq_true (ho.po i hi).1
structure AW where
  B : BT
  N : List Ent
  a : Option Nat
  o : Nat
  c : Nat
  s : Option Nat
  b : Nat
def AW.ok (F G : Fm) (v k y n : Nat) (x : AW) : Prop := x.B.valid v (y ||| n) ∧ x.B.depth ≤ k ∧ (x.B.leaves y n).all (accL F G) = true ∧ x.B.size + 1 ≤ 2 ^ (k + 1) ∧ RKs [bundle x.N] k x.B.tr.ks x.a x.o x.s
def AW.cells (x : AW) : List Value := [.int .i64 x.B.tr.v, slV x.a x.o x.B.tr.ks.length x.c x.s, .int .i64 x.B.tr.r]
def AW.leaf (r : Int) : AW := ⟨.lf r, [], none, 0, 0, none, 0⟩
theorem acc_leaf {F G : Fm} (hgF : F.Good) (hgG : G.Good) {v y n : Nat} (hvF : F.vars = v) (hvG : G.vars = v) (hc : CubeOk v y n) (he : ∀ z, z < 2 ^ v → F.value (z : Nat) = G.value (z : Nat)) (h1 : F.tTop y n ≠ 2) (h2 : G.tTop y n ≠ 2) : accL F G (y, n, (F.tTop y n : Int)) = true := by
  have hs := tTop_same hgF hgG hvF hvG hc he h1 h2
  have hF2 := Fm.tval_le hgF (y : Nat) (n : Nat) F.top.toNat
  have hl : F.tTop y n ≤ 2 := hF2
  simp only [accL, Bool.and_eq_true, Bool.or_eq_true, decide_eq_true_eq]
  exact ⟨by omega, trivial, by omega⟩
theorem AW.leaf_ok {F G : Fm} {v k y n : Nat} {r : Int} (h : accL F G (y, n, r) = true) : (AW.leaf r).ok F G v k y n := by
  refine ⟨trivial, Nat.zero_le _, ?_, ?_, RKs.nil⟩
  · simp [AW.leaf, BT.leaves, h]
  · have := Nat.two_pow_pos k
    rw [Nat.pow_succ]
    show 1 + 1 ≤ _
    omega
theorem RKs.two {H : List Ent} {n b : Nat} {l g : Tr} {a0 a1 s0 s1 : Option Nat} {o0 o1 c0 c1 : Nat} (h : Rd H b 0 [.int .i64 l.v, slV a0 o0 l.ks.length c0 s0, .int .i64 l.r, .int .i64 g.v, slV a1 o1 g.ks.length c1 s1, .int .i64 g.r]) (h0 : RKs H n l.ks a0 o0 s0) (h1 : RKs H n g.ks a1 o1 s1) : RKs H (n + 1) [l, g] (some b) 0 none := by
  refine .inr ⟨b, rfl, rfl, fun i k hk => ?_⟩
  match i, hk with
  | 0, hk =>
    simp only [List.getElem?_cons_zero, Option.some.injEq] at hk
    subst hk
    exact ⟨a0, o0, c0, s0, Rd.seg h 0 3, h0⟩
  | 1, hk =>
    simp only [List.getElem?_cons_succ, List.getElem?_cons_zero, Option.some.injEq] at hk
    subst hk
    exact ⟨a1, o1, c1, s1, Rd.seg h 3 3, h1⟩
def AW.nd (b e : Nat) (x z : AW) (R : Ent) : AW := ⟨.nd e x.B z.B, [R, bundle z.N, bundle x.N], some b, 0, 2, none, 0⟩
theorem AW.nd_ok {F G : Fm} {v k y n b e E : Nat} {x z : AW} (he : e < v) (hf : (y ||| n).testBit e = false) (hx : x.ok F G v k y (n ||| 2 ^ e)) (hz : z.ok F G v k (y ||| 2 ^ e) n) : (AW.nd b e x z (row (some b) E 3 2 (x.cells ++ z.cells))).ok F G v (k + 1) y n := by
  obtain ⟨x1, x2, x3, x4, x5⟩ := hx
  obtain ⟨z1, z2, z3, z4, z5⟩ := hz
  refine ⟨⟨he, hf, by rw [← or_no]; exact x1, by rw [← or_yes]; exact z1⟩, ?_, ?_, ?_, ?_⟩
  · show max x.B.depth z.B.depth + 1 ≤ k + 1
    omega
  · show ((x.B.leaves y (n ||| 2 ^ e) ++ z.B.leaves (y ||| 2 ^ e) n)).all _ = true
    rw [List.all_append, x3, z3]; rfl
  · show 1 + x.B.size + z.B.size + 1 ≤ _
    rw [Nat.pow_succ]
    omega
  · refine RKs.two (n := k) (c0 := x.c) (c1 := z.c) ?_ (x5.le (bundle_sub (by simp [AW.nd]))) (z5.le (bundle_sub (by simp [AW.nd])))
    have h := Rd.le (Rd.all (H := [row (some b) E 3 2 (x.cells ++ z.cells)]) (List.Mem.head _)) (bundle_sub (L := (AW.nd b e x z (row (some b) E 3 2 (x.cells ++ z.cells))).N) (H := []) (List.Mem.head _))
    exact h
end Go.GL
namespace Go.GL
set_option linter.unusedVariables false
set_option linter.unusedSimpArgs false
theorem Rd.eqv {H : List Ent} {b off : Nat} {v w : Value} (h : Rd H b off [v]) (e : v = w) : Rd H b off [w] := e ▸ h
def skipJ (st : Int) (v : Nat) : Nat → Nat → Nat
  | 0, i => i
  | k + 1, i => if i < v ∧ iand (ishr st i) 1 = 0 then skipJ st v k (i + 1) else i
theorem skipJ_step {st : Int} {v i : Nat} (h : i < v) (h2 : iand (ishr st i) 1 = 0) : skipJ st v (v - i) i = skipJ st v (v - (i + 1)) (i + 1) := by
  obtain ⟨m, hm⟩ : ∃ m, v - i = m + 1 := ⟨v - i - 1, by omega⟩
  rw [hm, show v - (i + 1) = m by omega]
  show (if i < v ∧ iand (ishr st i) 1 = 0 then skipJ st v m (i + 1) else i) = _
  rw [if_pos ⟨h, h2⟩]
theorem skipJ_stop {st : Int} {v i : Nat} (h : ¬ (i < v ∧ iand (ishr st i) 1 = 0)) : skipJ st v (v - i) i = i := by
  cases hm : v - i with
  | zero => rfl
  | succ m => show (if i < v ∧ iand (ishr st i) 1 = 0 then skipJ st v m (i + 1) else i) = _; rw [if_neg h]
structure SS where
  best : Int
  total : Int
  found : Bool
  deriving DecidableEq
def fromM (F : Fm) (st : Int) (cost : List Int) (v : Nat) : Nat → Nat → Int → Int → SS → Option SS
  | 0, _, _, _, _ => none
  | k + 1, i, set, total, s =>
    if s.found = true ∧ s.total ≤ total then none else
    if ¬ (i ≤ 24 ∧ 0 ≤ total ∧ total ≤ 1000000000) then none else
    if ¬ (F.setErr (iandn st (ior set (iandn st (((2 ^ i : Nat) : Int) - 1)))) = none ∧ F.setErr (iandn st set) = none) then none else
    if F.value (iandn st (ior set (iandn st (((2 ^ i : Nat) : Int) - 1)))) = true then some s else
    if F.value (iandn st set) = false then some ⟨set, total, true⟩ else
    if ¬ (i ≤ v) then none else
    if skipJ st v (v - i) i = v then some s else
    if ¬ (skipJ st v (v - i) i < cost.length ∧ 0 ≤ cost.getD (skipJ st v (v - i) i) 0 ∧ cost.getD (skipJ st v (v - i) i) 0 ≤ 1000000000) then none else
    match fromM F st cost v k (skipJ st v (v - i) i + 1) (ior set ((2 ^ skipJ st v (v - i) i : Nat) : Int)) (total + cost.getD (skipJ st v (v - i) i) 0) s with
    | none => none
    | some s1 => fromM F st cost v k (skipJ st v (v - i) i + 1) set total s1
variable {F : Fm} {st : Int} {cost : List Int} {v : Nat} {k i : Nat} {set total : Int} {s s' : SS}
structure FromOk (F : Fm) (st : Int) (v : Nat) (i : Nat) (set total : Int) (s : SS) : Prop where
  c1 : s.found = true → total < s.total
  c2 : i ≤ 24
  c3 : 0 ≤ total
  c4 : total ≤ 1000000000
  c5 : F.setErr (iandn st (ior set (iandn st (((2 ^ i : Nat) : Int) - 1)))) = none
  c6 : F.setErr (iandn st set) = none
theorem fromM_ok (h : fromM F st cost v (k + 1) i set total s = some s') : FromOk F st v i set total s := by
  unfold fromM at h
  split at h
  · cases h
  rename_i h1
  split at h
  · cases h
  rename_i h2
  split at h
  · cases h
  rename_i h3
  simp only [Decidable.not_not] at h2 h3
  exact ⟨fun hf => by
    refine Int.not_le.1 fun hle => h1 ⟨hf, hle⟩, h2.1, h2.2.1, h2.2.2, h3.1, h3.2⟩
theorem fromM_1 (h : fromM F st cost v (k + 1) i set total s = some s') (hv : F.value (iandn st (ior set (iandn st (((2 ^ i : Nat) : Int) - 1)))) = true ) : s' = s := by
  revert hv
  unfold fromM at h
  split at h
  · cases h
  split at h
  · cases h
  split at h
  · cases h
  intro hv
  rw [if_pos hv] at h
  injection h with h
  exact h.symm
theorem fromM_2 (h : fromM F st cost v (k + 1) i set total s = some s') (hv : ¬ F.value (iandn st (ior set (iandn st (((2 ^ i : Nat) : Int) - 1)))) = true) (hw : F.value (iandn st set) = false) : s' = ⟨set, total, true⟩ := by
  revert hv hw
  unfold fromM at h
  split at h
  · cases h
  split at h
  · cases h
  split at h
  · cases h
  intro hv hw
  rw [if_neg hv, if_pos hw] at h
  injection h with h
  exact h.symm
theorem fromM_3 (h : fromM F st cost v (k + 1) i set total s = some s') (hv : ¬ F.value (iandn st (ior set (iandn st (((2 ^ i : Nat) : Int) - 1)))) = true) (hw : ¬ F.value (iandn st set) = false) : i ≤ v ∧ (skipJ st v (v - i) i = v → s' = s) ∧ (¬ skipJ st v (v - i) i = v → skipJ st v (v - i) i < cost.length ∧ 0 ≤ cost.getD (skipJ st v (v - i) i) 0 ∧ cost.getD (skipJ st v (v - i) i) 0 ≤ 1000000000 ∧ ∃ s1, fromM F st cost v k (skipJ st v (v - i) i + 1) (ior set ((2 ^ skipJ st v (v - i) i : Nat) : Int)) (total + cost.getD (skipJ st v (v - i) i) 0) s = some s1 ∧ fromM F st cost v k (skipJ st v (v - i) i + 1) set total s1 = some s') := by
  revert hv hw
  unfold fromM at h
  split at h
  · cases h
  split at h
  · cases h
  split at h
  · cases h
  intro hv hw
  rw [if_neg hv, if_neg hw] at h
  split at h
  · cases h
  rename_i h4
  refine ⟨by omega, fun hj => ?_, fun hj => ?_⟩
  · rw [if_pos hj] at h; injection h with h; exact h.symm
  · rw [if_neg hj] at h
    split at h
    · cases h
    rename_i h5
    simp only [Decidable.not_not] at h5
    refine ⟨h5.1, h5.2.1, h5.2.2, ?_⟩
    cases hx : fromM F st cost v k (skipJ st v (v - i) i + 1) (ior set ((2 ^ skipJ st v (v - i) i : Nat) : Int)) (total + cost.getD (skipJ st v (v - i) i) 0) s with
    | none => rw [hx] at h; cases h
    | some s1 => rw [hx] at h; exact ⟨s1, rfl, h⟩
def vote3 : Fm := ⟨3, [⟨4, 2, [0, 1, 2]⟩], 3⟩
theorem vote3_good : vote3.Good := (Fm.good_iff _).1 (by decide)
theorem vote3_from : fromM vote3 5 [4, 1, 3] 3 8 0 0 0 ⟨0, 0, false⟩ = some ⟨4, 3, true⟩ := by decide
end Go.GL
namespace Go.GL
set_option linter.unusedVariables false
set_option linter.unusedSimpArgs false
def voM1 : Mo := ⟨1, [⟨0, true, false⟩]⟩
def voM2 : Mo := ⟨5, [⟨0, true, false⟩, ⟨2, true, true⟩]⟩
theorem voM1_eq : vote3.play Mo.zero 0 true = voM1 := by decide +kernel
theorem voM2_eq : vote3.play voM1 2 true = voM2 := by decide +kernel
theorem voM1_err : vote3.playErr Mo.zero 0 true = none := by decide +kernel
theorem voM2_err : vote3.playErr voM1 2 true = none := by decide +kernel
theorem voM2_top : vote3.playTop voM1 2 true = true := by decide +kernel
theorem vote3_syn : vote3.syn = true := by decide +kernel
theorem vote3_set : vote3.setErr 0 = none := by decide +kernel
theorem vote3_zero : vote3.value 0 = false := by decide +kernel
end Go.GL
namespace Go.GL
set_option linter.unusedVariables false
set_option linter.unusedSimpArgs false
def cntR (p : Nat → Bool) (k : Nat) : Nat := (List.range k).countP p
theorem cntR_succ (p : Nat → Bool) (k : Nat) : cntR p (k + 1) = cntR p k + (bif p k then 1 else 0) := by
  unfold cntR
  rw [List.range_succ, List.countP_append, List.countP_singleton]
  cases p k <;> rfl
theorem cntR_t {p : Nat → Bool} {k : Nat} (h : p k = true) : cntR p (k + 1) = cntR p k + 1 := by rw [cntR_succ, h]; rfl
theorem cntR_f {p : Nat → Bool} {k : Nat} (h : p k = false) : cntR p (k + 1) = cntR p k := by rw [cntR_succ, h]; rfl
theorem cntR_le (p : Nat → Bool) (k : Nat) : cntR p k ≤ k := by
  have := List.countP_le_length (p := p) (l := List.range k)
  rw [List.length_range] at this
  exact this
def gainB (F G : Fm) (z : Nat) : Bool := G.value (z : Nat) && !F.value (z : Nat)
def lostB (F G : Fm) (z : Nat) : Bool := F.value (z : Nat) && !G.value (z : Nat)
theorem cnt_dif (F G : Fm) : ∀ k, cntR (difB F G) k = cntR (gainB F G) k + cntR (lostB F G) k
  | 0 => rfl
  | k + 1 => by
    rw [cntR_succ, cntR_succ, cntR_succ, cnt_dif F G k]
    unfold difB gainB lostB
    cases F.value (k : Nat) <;> cases G.value (k : Nat) <;> simp <;> omega
theorem cntR_zero {p : Nat → Bool} : ∀ {k : Nat}, (∀ i, i < k → p i = false) → cntR p k = 0
  | 0, _ => rfl
  | k + 1, h => by rw [cntR_f (h k (by omega)), cntR_zero fun i hi => h i (by omega)]
theorem dif_match {F G : Fm} {v : Nat} (hv : F.vars = v) {eq : Bool} {st ct gn ls : Nat} {z : Int} (h : DfOk F G v eq st ct gn ls) (hz : DifAt F G z) :
    eq = decide (z < 0) ∧ gn = cntR (gainB F G) (2 ^ v) ∧ ls = cntR (lostB F G) (2 ^ v) ∧ ct = gn + ls ∧ (eq = false → (st : Int) = z) ∧ (eq = true ↔ ∀ z, z < 2 ^ v → F.value (z : Nat) = G.value (z : Nat)) := by
  have hvn : F.vars.toNat = v := by omega
  unfold DifAt at hz
  rw [hvn] at hz
  cases he : eq with
  | true =>
    obtain ⟨h1, h2, h3, h4⟩ := h.eq1 he
    have hzn : z < 0 := by
      rcases hz with ⟨h5, _⟩ | ⟨s, _, h6, h7, _⟩
      · omega
      · exact absurd (h1 s h6) h7
    refine ⟨(decide_eq_true hzn).symm, ?_, ?_, by omega, fun h => (by cases h), fun _ => h1, fun _ => rfl⟩
    · rw [h3, cntR_zero fun i hi => ?_]
      unfold gainB; rw [h1 i hi]; cases G.value (i : Nat) <;> rfl
    · rw [h4, cntR_zero fun i hi => ?_]
      unfold lostB; rw [h1 i hi]; cases G.value (i : Nat) <;> rfl
  | false =>
    obtain ⟨h1, h2, h3⟩ := h.st1 he
    have hne : F.value (st : Nat) ≠ G.value (st : Nat) := by
      unfold difB at h2
      simpa using h2
    have hs : z = st := by
      rcases hz with ⟨_, h6⟩ | ⟨s, h5, h6, h7, h8⟩
      · exact absurd (h6 st h1) hne
      · have a : ¬ st < s := fun hl => hne (h8 st hl)
        have b : ¬ s < st := fun hl => h7 (by have := h3 s hl; unfold difB at this; simpa using this)
        omega
    refine ⟨(decide_eq_false (by omega)).symm, h.gn1 he, h.ls1 he, ?_, fun _ => hs.symm, fun h => (by cases h), fun hall => absurd (hall st h1) hne⟩
    rw [h.ct1 he, h.gn1 he, h.ls1 he]
    exact cnt_dif F G (2 ^ v)
theorem eqErr_ok {F G : Fm} (hgF : F.Good) (hgG : G.Good) {v : Nat} (hv8 : v ≤ 8) (hvF : F.vars = v) (hvG : G.vars = v) : F.eqErr G = none := by
  have h1 := (Fm.good_iff F).2 hgF
  have h2 := (Fm.good_iff G).2 hgG
  rw [Fm.eqErr_4 h1 h2 (by rw [hvF, hvG])]
  unfold Fm.terr
  rw [h1]
  exact if_neg (by omega)
theorem tr_inj : ∀ {B C : BT}, B.tr = C.tr → B = C
  | .lf r, .lf r', h => by simp only [BT.tr, Tr.mk.injEq] at h; rw [h.2.1]
  | .lf r, .nd v l g, h => by simp [BT.tr] at h
  | .nd v l g, .lf r, h => by simp [BT.tr] at h
  | .nd v l g, .nd v' l' g', h => by
    simp only [BT.tr, Tr.mk.injEq, List.cons.injEq, and_true] at h
    rw [tr_inj h.2.2.1, tr_inj h.2.2.2, show v = v' by omega]
end Go.GL
