import Derived.Test.YtffghipagnjggaaGL77
namespace Go.GL
set_option linter.unusedVariables false
set_option linter.unusedSimpArgs false
section
variable {es : List Bool} {l : List Nd} {v : Nat}
theorem cnt_two {a b : Int} : cnt (valsFrom es l) [a, b] = (if VB es l a then 1 else 0) + (if VB es l b then 1 else 0) := by
  unfold cnt VB
  simp only [List.countP_cons, List.countP_nil]
  omega
theorem VB_and (he : es.length = v) {a b : Int} : VB es (l ++ [⟨2, 0, [a, b]⟩]) ((v : Int) + l.length) = (VB es l a && VB es l b) := by
  rw [VB_new he, nv2 rfl, cnt_two]
  cases VB es l a <;> cases VB es l b <;> rfl
theorem VB_or (he : es.length = v) {a b : Int} : VB es (l ++ [⟨3, 0, [a, b]⟩]) ((v : Int) + l.length) = (VB es l a || VB es l b) := by
  rw [VB_new he, nv3 rfl, cnt_two]
  cases VB es l a <;> cases VB es l b <;> rfl
theorem VB_or1 (he : es.length = v) {a : Int} : VB es (l ++ [⟨3, 0, [a]⟩]) ((v : Int) + l.length) = VB es l a := by
  rw [VB_new he, nv3 rfl, cnt_one]
  cases VB es l a <;> rfl
end
def PK (r : List Nd) : Prop := ∀ x ∈ r, x.kind ≠ 1 ∧ x.kind ≠ 5
theorem PK.app {a b : List Nd} (h : PK a) (k : PK b) : PK (a ++ b) := fun x hx => (List.mem_append.1 hx).elim (h x) (k x)
theorem PK.one {d : Nd} (h : d.kind ≠ 1 ∧ d.kind ≠ 5) : PK [d] := fun x hx => by obtain rfl := List.mem_singleton.1 hx; exact h
theorem xor6_law {es : List Bool} {v : Nat} (he : es.length = v) {p n : Int} {s : P3} (h1 : InR (v + s.1.length) s.2.1) (h2 : InR (v + s.1.length) s.2.2) (hp : InR (v + s.1.length) p) (hn : InR (v + s.1.length) n) :
    VB es (xor6 v p n s).1 (xor6 v p n s).2.1 = ((VB es s.1 s.2.1 && VB es s.1 n) || (VB es s.1 s.2.2 && VB es s.1 p)) ∧
    VB es (xor6 v p n s).1 (xor6 v p n s).2.2 = ((VB es s.1 s.2.1 && VB es s.1 p) || (VB es s.1 s.2.2 && VB es s.1 n)) ∧ ∃ r, (xor6 v p n s).1 = s.1 ++ r ∧ PK r := by
  obtain ⟨l0, y, m⟩ := s
  simp only at h1 h2 hp hn
  unfold xor6
  dsimp only
  obtain ⟨l1, e1⟩ : ∃ l1, l0 ++ ([⟨2, 0, [y, n]⟩] : List Nd) = l1 := ⟨_, rfl⟩
  obtain ⟨l2, e2⟩ : ∃ l2, l1 ++ ([⟨2, 0, [m, p]⟩] : List Nd) = l2 := ⟨_, rfl⟩
  obtain ⟨l3, e3⟩ : ∃ l3, l2 ++ ([⟨3, 0, [(v : Int) + l0.length, (v : Int) + (l0.length + 1 : Nat)]⟩] : List Nd) = l3 := ⟨_, rfl⟩
  obtain ⟨l4, e4⟩ : ∃ l4, l3 ++ ([⟨2, 0, [y, p]⟩] : List Nd) = l4 := ⟨_, rfl⟩
  obtain ⟨l5, e5⟩ : ∃ l5, l4 ++ ([⟨2, 0, [m, n]⟩] : List Nd) = l5 := ⟨_, rfl⟩
  obtain ⟨l6, e6⟩ : ∃ l6, l5 ++ ([⟨3, 0, [(v : Int) + (l0.length + 3 : Nat), (v : Int) + (l0.length + 4 : Nat)]⟩] : List Nd) = l6 := ⟨_, rfl⟩
  rw [e1, e2, e3, e4, e5, e6]
  have k1 : l1.length = l0.length + 1 := by rw [← e1]; simp
  have k2 : l2.length = l0.length + 2 := by rw [← e2]; simp [k1]
  have k3 : l3.length = l0.length + 3 := by rw [← e3]; simp [k2]
  have k4 : l4.length = l0.length + 4 := by rw [← e4]; simp [k3]
  have k5 : l5.length = l0.length + 5 := by rw [← e5]; simp [k4]
  have o1 : ∀ a, InR (v + (l0.length : Int)) a → VB es l1 a = VB es l0 a := fun a ha => by rw [← e1]; exact VB_old he ha
  have o2 : ∀ a, InR (v + ((l0.length + 1 : Nat) : Int)) a → VB es l2 a = VB es l1 a := fun a ha => by rw [← e2]; exact VB_old he (by rw [k1]; exact ha)
  have o3 : ∀ a, InR (v + ((l0.length + 2 : Nat) : Int)) a → VB es l3 a = VB es l2 a := fun a ha => by rw [← e3]; exact VB_old he (by rw [k2]; exact ha)
  have o4 : ∀ a, InR (v + ((l0.length + 3 : Nat) : Int)) a → VB es l4 a = VB es l3 a := fun a ha => by rw [← e4]; exact VB_old he (by rw [k3]; exact ha)
  have o5 : ∀ a, InR (v + ((l0.length + 4 : Nat) : Int)) a → VB es l5 a = VB es l4 a := fun a ha => by rw [← e5]; exact VB_old he (by rw [k4]; exact ha)
  have o6 : ∀ a, InR (v + ((l0.length + 5 : Nat) : Int)) a → VB es l6 a = VB es l5 a := fun a ha => by rw [← e6]; exact VB_old he (by rw [k5]; exact ha)
  have n1 : VB es l1 ((v : Int) + l0.length) = (VB es l0 y && VB es l0 n) := by rw [← e1]; exact VB_and he
  have n2 : VB es l2 ((v : Int) + (l0.length + 1 : Nat)) = (VB es l1 m && VB es l1 p) := by rw [← e2, ← k1]; exact VB_and he
  have n3 : VB es l3 ((v : Int) + (l0.length + 2 : Nat)) = (VB es l2 ((v : Int) + l0.length) || VB es l2 ((v : Int) + (l0.length + 1 : Nat))) := by rw [← e3, ← k2]; exact VB_or he
  have n4 : VB es l4 ((v : Int) + (l0.length + 3 : Nat)) = (VB es l3 y && VB es l3 p) := by rw [← e4, ← k3]; exact VB_and he
  have n5 : VB es l5 ((v : Int) + (l0.length + 4 : Nat)) = (VB es l4 m && VB es l4 n) := by rw [← e5, ← k4]; exact VB_and he
  have n6 : VB es l6 ((v : Int) + (l0.length + 5 : Nat)) = (VB es l5 ((v : Int) + (l0.length + 3 : Nat)) || VB es l5 ((v : Int) + (l0.length + 4 : Nat))) := by rw [← e6, ← k5]; exact VB_or he
  have up : ∀ {i : Nat} {a : Int}, InR (v + (l0.length : Int)) a → InR (v + ((l0.length + i : Nat) : Int)) a := fun h => h.mono (by omega)
  have at_ : ∀ {i j : Nat}, i < j → InR (v + ((l0.length + j : Nat) : Int)) ((v : Int) + (l0.length + i : Nat)) := fun h => ⟨by omega, by omega⟩
  refine ⟨?_, ?_, ?_⟩
  · rw [o6 _ (at_ (by omega)), o5 _ (at_ (by omega)), o4 _ (at_ (by omega)), n3, n2, o2 ((v : Int) + l0.length) ⟨by omega, by omega⟩, n1, o1 _ h2, o1 _ hp]
  · rw [n6, n5, o5 _ (at_ (by omega)), n4, o4 _ (up h2), o4 _ (up hn), o3 _ (up h1), o3 _ (up hp), o3 _ (up h2), o3 _ (up hn), o2 _ (up h1), o2 _ (up hp), o2 _ (up h2), o2 _ (up hn), o1 _ h1, o1 _ hp, o1 _ h2, o1 _ hn]
  · refine ⟨_, by rw [← e6, ← e5, ← e4, ← e3, ← e2, ← e1]; simp only [List.append_assoc]; rfl, ?_⟩
    intro x hx
    simp only [List.mem_append, List.mem_singleton] at hx
    rcases hx with rfl | rfl | rfl | rfl | rfl | rfl <;> exact ⟨by simp, by simp⟩
theorem xorR_law {es : List Bool} {v : Nat} (he : es.length = v) {P N : List Int} {m : Int} {ns : List Nd} {f : Nat → Bool} (hP : ∀ a ∈ P, InR m a) (hN : ∀ a ∈ N, InR m a) (hm : m = v + ns.length) : ∀ (l : List Int) (s : P3) (b : Bool), (∀ a ∈ l, a.toNat < P.length ∧ a.toNat < N.length) →
    (∀ a ∈ l, VB es ns (P.getD a.toNat 0) = f a.toNat ∧ VB es ns (N.getD a.toNat 0) = !f a.toNat) → (∃ r, s.1 = ns ++ r ∧ PK r) → NF v s.1 → InR (v + s.1.length) s.2.1 → InR (v + s.1.length) s.2.2 → VB es s.1 s.2.1 = b → VB es s.1 s.2.2 = !b →
    VB es (xorR v P N l s).1 (xorR v P N l s).2.1 = (b ^^ decide (cntOf f l % 2 = 1)) ∧ VB es (xorR v P N l s).1 (xorR v P N l s).2.2 = (!(b ^^ decide (cntOf f l % 2 = 1))) ∧ ∃ r, (xorR v P N l s).1 = ns ++ r ∧ PK r
  | [], s, b, _, _, hr, _, _, _, h1, h2 => ⟨by rw [xorR, h1]; simp [cntOf], by rw [xorR, h2]; simp [cntOf], hr⟩
  | a :: r, s, b, hl, hf, ⟨q, hq, hqk⟩, hnf, i1, i2, h1, h2 => by
    rw [xorR]
    have ha := hl a List.mem_cons_self
    obtain ⟨f1, f2⟩ := hf a List.mem_cons_self
    have hsl : ns.length ≤ s.1.length := by rw [hq]; simp
    have ip := (getD_in hP ha.1)
    have iN := (getD_in hN ha.2)
    obtain ⟨b0, b1, b2⟩ := xor6_in (p := P.getD a.toNat 0) (n := N.getD a.toNat 0) (s := s) (by omega) hnf i1 i2 (ip.mono (by omega)) (iN.mono (by omega))
    obtain ⟨c1, c2, r2, hr2, hrk⟩ := xor6_law he i1 i2 (ip.mono (show m ≤ v + s.1.length by omega)) (iN.mono (show m ≤ v + s.1.length by omega))
    have op : VB es s.1 (P.getD a.toNat 0) = f a.toNat := by rw [hq, VB_old he (by rw [← hm]; exact ip)]; exact f1
    have on : VB es s.1 (N.getD a.toNat 0) = !f a.toNat := by rw [hq, VB_old he (by rw [← hm]; exact iN)]; exact f2
    rw [h1, h2, op, on] at c1 c2
    have := xorR_law he hP hN hm r (xor6 v (P.getD a.toNat 0) (N.getD a.toNat 0) s) (b ^^ f a.toNat) (fun x hx => hl x (List.mem_cons_of_mem _ hx)) (fun x hx => hf x (List.mem_cons_of_mem _ hx)) ⟨q ++ r2, by rw [hr2, hq, List.append_assoc], hqk.app hrk⟩ b0 b1 b2 (by rw [c1]; cases b <;> cases f a.toNat <;> rfl) (by rw [c2]; cases b <;> cases f a.toNat <;> rfl)
    have hc : (b ^^ f a.toNat ^^ decide (cntOf f r % 2 = 1)) = (b ^^ decide (cntOf f (a :: r) % 2 = 1)) := by
      have e : cntOf f (a :: r) = cntOf f r + if f a.toNat then 1 else 0 := by unfold cntOf; rw [List.countP_cons]
      rw [e]
      rcases Nat.mod_two_eq_zero_or_one (cntOf f r) with h0 | h0
      · cases b <;> cases f a.toNat <;> simp [h0, Nat.add_mod]
      · cases b <;> cases f a.toNat <;> simp [h0, Nat.add_mod]
    rw [hc] at this
    exact this
theorem pushN_law {es : List Bool} {v : Nat} (he : es.length = v) {P N : List Int} {d : Nd} {ns : List Nd} {m : Nat} {f : Nat → Bool} (h : NF v ns) (hP : ∀ a ∈ P, InR (v + ns.length) a) (hN : ∀ a ∈ N, InR (v + ns.length) a) (hd : d.Fits m) (hPl : P.length = m) (hNl : N.length = m)
    (hf : ∀ a ∈ d.args, VB es ns (P.getD a.toNat 0) = f a.toNat ∧ VB es ns (N.getD a.toNat 0) = !f a.toNat) :
    VB es (pushN v P N d ns).1 (pushN v P N d ns).2.1 = nodeVal d (cntOf f d.args) ∧ VB es (pushN v P N d ns).1 (pushN v P N d ns).2.2 = (!nodeVal d (cntOf f d.args)) ∧ ∃ r, (pushN v P N d ns).1 = ns ++ r ∧ PK r := by
  have hlt : ∀ a ∈ d.args, a.toNat < P.length ∧ a.toNat < N.length := fun a ha => by have := hd.args a ha; omega
  have har := hd.ar
  have hk0 := hd.k0; have hk1 := hd.k1; have hkk := hd.kk
  have hcP : cnt (valsFrom es ns) (trI P d.args) = cntOf f d.args := cnt_tr fun a ha => (hf a ha).1
  have hcN : cnt (valsFrom es ns) (trI N d.args) + cntOf f d.args = d.args.length := by rw [cnt_tr (f := fun j => !f j) fun a ha => (hf a ha).2]; exact cntOf_not f d.args
  have hle := cntOf_le f d.args
  unfold pushN
  split
  · rename_i h5
    have hne : d.args ≠ [] := by
      intro h1
      rw [h1, h5] at har
      unfold argsB at har
      simp at har
    obtain ⟨a, r, hr⟩ := List.exists_cons_of_ne_nil hne
    have ha := hlt a (by rw [hr]; exact List.mem_cons_self)
    obtain ⟨f1, f2⟩ := hf a (by rw [hr]; exact List.mem_cons_self)
    have ip := getD_in hP ha.1
    have iN := getD_in hN ha.2
    unfold xor0
    rw [hr]
    show VB es (xorR v P N r (xorI v (P.getD a.toNat 0) (N.getD a.toNat 0) ns)).1 (xorR v P N r (xorI v (P.getD a.toNat 0) (N.getD a.toNat 0) ns)).2.1 = _ ∧ VB es (xorR v P N r (xorI v (P.getD a.toNat 0) (N.getD a.toNat 0) ns)).1 (xorR v P N r (xorI v (P.getD a.toNat 0) (N.getD a.toNat 0) ns)).2.2 = _ ∧ ∃ q, (xorR v P N r (xorI v (P.getD a.toNat 0) (N.getD a.toNat 0) ns)).1 = ns ++ q ∧ PK q
    obtain ⟨b0, b1, b2⟩ := xorI_in (p := P.getD a.toNat 0) (n := N.getD a.toNat 0) h (by omega) rfl ip iN
    obtain ⟨l1, e1⟩ : ∃ l1, ns ++ ([⟨3, 0, [P.getD a.toNat 0]⟩] : List Nd) = l1 := ⟨_, rfl⟩
    have k1 : l1.length = ns.length + 1 := by rw [← e1]; simp
    have hI : xorI v (P.getD a.toNat 0) (N.getD a.toNat 0) ns = (l1 ++ [⟨3, 0, [N.getD a.toNat 0]⟩], (v : Int) + ns.length, (v : Int) + (ns.length + 1 : Nat)) := by rw [← e1]; rfl
    have v1 : VB es (xorI v (P.getD a.toNat 0) (N.getD a.toNat 0) ns).1 (xorI v (P.getD a.toNat 0) (N.getD a.toNat 0) ns).2.1 = f a.toNat := by
      rw [hI]
      dsimp only
      rw [VB_old he ⟨by omega, by omega⟩, ← e1, VB_or1 he]
      exact f1
    have v2 : VB es (xorI v (P.getD a.toNat 0) (N.getD a.toNat 0) ns).1 (xorI v (P.getD a.toNat 0) (N.getD a.toNat 0) ns).2.2 = !f a.toNat := by
      rw [hI]
      dsimp only
      rw [← k1, VB_or1 he, ← e1, VB_old he iN]
      exact f2
    have := xorR_law he hP hN rfl r (xorI v (P.getD a.toNat 0) (N.getD a.toNat 0) ns) (f a.toNat) (fun x hx => hlt x (by rw [hr]; exact List.mem_cons_of_mem _ hx)) (fun x hx => hf x (by rw [hr]; exact List.mem_cons_of_mem _ hx))
      ⟨[⟨3, 0, [P.getD a.toNat 0]⟩] ++ [⟨3, 0, [N.getD a.toNat 0]⟩], by unfold xorI; rw [List.append_assoc], (PK.one ⟨by simp, by simp⟩).app (PK.one ⟨by simp, by simp⟩)⟩ b0 b1 b2 v1 v2
    have hc : (f a.toNat ^^ decide (cntOf f r % 2 = 1)) = nodeVal d (cntOf f (a :: r) : Nat) := by
      have e : cntOf f (a :: r) = cntOf f r + if f a.toNat then 1 else 0 := by unfold cntOf; rw [List.countP_cons]
      rw [nv5 h5, e]
      rcases Nat.mod_two_eq_zero_or_one (cntOf f r) with h0 | h0
      · cases f a.toNat <;> simp [h0, Nat.add_mod]
      · cases f a.toNat <;> simp [h0, Nat.add_mod]
    rw [hc] at this
    exact this
  · rename_i h5
    dsimp only
    obtain ⟨A, B, hAB⟩ : ∃ A B, p2 d P N = (A, B) := ⟨_, _, rfl⟩
    rw [hAB]
    dsimp only
    have hA : VB es (ns ++ [A] ++ [B]) ((v : Int) + ns.length) = nodeVal A (cnt (valsFrom es ns) A.args) := by
      rw [VB_old he ⟨by omega, by rw [List.length_append, List.length_singleton]; omega⟩, VB_new he]
    have hB : ((∀ a ∈ B.args, InR (v + ns.length) a)) → VB es (ns ++ [A] ++ [B]) ((v : Int) + (ns.length + 1 : Nat)) = nodeVal B (cnt (valsFrom es ns) B.args) := fun hb => by
      have hl1 : (ns ++ [A]).length = ns.length + 1 := by simp
      rw [← hl1, VB_new he]
      refine congrArg (fun z : Nat => nodeVal B (z : Int)) ?_
      unfold cnt
      refine List.countP_congr fun a ha => ?_
      have := VB_old (r := [A]) he (hb a ha)
      unfold VB at this
      rw [this]
    have hP1 := fun (x : Int) (hx : x ∈ trI P d.args) => trI_in hP (fun a ha => (hlt a ha).1) x hx
    have hN1 := fun (x : Int) (hx : x ∈ trI N d.args) => trI_in hN (fun a ha => (hlt a ha).2) x hx
    have fin : (∀ a ∈ B.args, InR (v + ns.length) a) → nodeVal A (cnt (valsFrom es ns) A.args) = nodeVal d (cntOf f d.args) → nodeVal B (cnt (valsFrom es ns) B.args) = (!nodeVal d (cntOf f d.args)) → (A.kind ≠ 1 ∧ A.kind ≠ 5) → (B.kind ≠ 1 ∧ B.kind ≠ 5) →
        VB es (ns ++ [A] ++ [B]) ((v : Int) + ns.length) = nodeVal d (cntOf f d.args) ∧ VB es (ns ++ [A] ++ [B]) ((v : Int) + (ns.length + 1 : Nat)) = (!nodeVal d (cntOf f d.args)) ∧ ∃ r, ns ++ [A] ++ [B] = ns ++ r ∧ PK r :=
      fun hb g1 g2 g3 g4 => ⟨hA.trans g1, (hB hb).trans g2, [A] ++ [B], by rw [List.append_assoc], (PK.one g3).app (PK.one g4)⟩
    have nb : ∀ (p q : Prop) [Decidable p] [Decidable q], (p ↔ ¬ q) → decide p = !decide q := fun p q _ _ h => by
      by_cases hq : q
      · rw [decide_eq_true hq, decide_eq_false (fun hp => h.1 hp hq)]; rfl
      · rw [decide_eq_false hq, decide_eq_true (h.2 hq)]; rfl
    unfold p2 at hAB
    split at hAB
    · rename_i h0
      obtain ⟨rfl, rfl⟩ := Prod.mk.inj hAB
      have hk := hkk.1 h0
      refine fin (by simp) (by rw [nv0 rfl, nv0 h0]) (by rw [nv0 rfl, nv0 h0]; exact nb _ _ (by show 1 - d.k = 1 ↔ _; omega)) ⟨by simp, by simp⟩ ⟨by simp, by simp⟩
    · split at hAB
      · rename_i h0 h1
        obtain ⟨rfl, rfl⟩ := Prod.mk.inj hAB
        have hl1 : d.args.length = 1 := by rw [h1] at har; unfold argsB at har; simp at har; omega
        refine fin hP1 (by rw [nv3 rfl, nv1 h1]; exact decide_eq_decide.2 (by show (0 : Int) < (cnt (valsFrom es ns) (trI N d.args) : Nat) ↔ _; omega)) (by rw [nv3 rfl, nv1 h1]; exact nb _ _ (by show (0 : Int) < (cnt (valsFrom es ns) (trI P d.args) : Nat) ↔ _; omega)) ⟨by simp, by simp⟩ ⟨by simp, by simp⟩
      · split at hAB
        · rename_i h0 h1 h2
          obtain ⟨rfl, rfl⟩ := Prod.mk.inj hAB
          refine fin hN1 (by rw [nv2 rfl, nv2 h2]; exact decide_eq_decide.2 (by show ((cnt (valsFrom es ns) (trI P d.args) : Nat) : Int) = ((trI P d.args).length : Nat) ↔ _; rw [trI_length]; omega)) (by rw [nv3 rfl, nv2 h2]; exact nb _ _ (by show (0 : Int) < (cnt (valsFrom es ns) (trI N d.args) : Nat) ↔ _; omega)) ⟨by simp, by simp⟩ ⟨by simp, by simp⟩
        · split at hAB
          · rename_i h0 h1 h2 h3
            obtain ⟨rfl, rfl⟩ := Prod.mk.inj hAB
            refine fin hN1 (by rw [nv3 rfl, nv3 h3]; exact decide_eq_decide.2 (by show (0 : Int) < (cnt (valsFrom es ns) (trI P d.args) : Nat) ↔ _; omega)) (by rw [nv2 rfl, nv3 h3]; exact nb _ _ (by show ((cnt (valsFrom es ns) (trI N d.args) : Nat) : Int) = ((trI N d.args).length : Nat) ↔ _; rw [trI_length]; omega)) ⟨by simp, by simp⟩ ⟨by simp, by simp⟩
          · rename_i h0 h1 h2 h3
            obtain ⟨rfl, rfl⟩ := Prod.mk.inj hAB
            have h4 : d.kind = 4 := by omega
            refine fin hN1 (by rw [nv4 rfl, nv4 h4]; exact decide_eq_decide.2 (by show d.k ≤ ((cnt (valsFrom es ns) (trI P d.args) : Nat) : Int) ↔ _; omega)) (by rw [nv4 rfl, nv4 h4]; exact nb _ _ (by show (d.args.length : Int) - d.k + 1 ≤ ((cnt (valsFrom es ns) (trI N d.args) : Nat) : Int) ↔ _; omega)) ⟨by simp, by simp⟩ ⟨by simp, by simp⟩
end Go.GL
