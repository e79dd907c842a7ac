import Derived.Test.YtffghipagnjggaaGL86
namespace Go.GL
set_option linter.unusedVariables false
set_option linter.unusedSimpArgs false
section
variable {v : Nat} {nodes : List Nd}
theorem treeM_node {n i : Nat} {ms : MS} (hi : i < nodes.length) (h : ¬ (((v : Int) + i) < v ∨ ms.full = true)) :
    treeM v nodes (n + 1) ((v : Int) + i) ms = addM v ⟨nodes[i].kind, nodes[i].k, (stepL (treeM v nodes n) nodes[i].args ([], ms)).1⟩ (stepL (treeM v nodes n) nodes[i].args ([], ms)).2 := by
  rw [treeM, if_neg h]
  rw [show nodes.getD ((v : Int) + i - v).toNat ⟨0, 0, []⟩ = nodes[i] from by rw [show ((v : Int) + i - v).toNat = i by omega]; simp [List.getD_eq_getElem?_getD, hi]]
theorem treeM_early {n : Nat} {a : Int} {ms : MS} (h : a < v ∨ ms.full = true) : treeM v nodes n a ms = (a, ms) := by
  cases n with
  | zero => rfl
  | succ n => rw [treeM, if_pos h]
theorem stepL_len (f : Int → MS → Int × MS) : ∀ (l : List Int) (r : List Int × MS), (stepL f l r).1.length = r.1.length + l.length
  | [], r => rfl
  | a :: l, r => by rw [stepL, stepL_len f l]; simp; omega
theorem stepL_gr {f : Int → MS → Int × MS} (hf : ∀ a s, MS.Gr s (f a s).2) : ∀ (l : List Int) (r : List Int × MS), MS.Gr r.2 (stepL f l r).2
  | [], r => MS.Gr.refl _
  | a :: l, r => (hf a r.2).trans (stepL_gr hf l (r.1 ++ [(f a r.2).1], (f a r.2).2))
theorem treeM_gr : ∀ (n : Nat) (a : Int) (s : MS), MS.Gr s (treeM v nodes n a s).2
  | 0, a, s => MS.Gr.refl s
  | n + 1, a, s => by
    unfold treeM
    split
    · exact MS.Gr.refl s
    · exact (stepL_gr (fun a s => treeM_gr n a s) _ ([], s)).trans (addM_gr _ _ _)
theorem stepL_ok {n : Nat} (hv : (v : Int) ≤ 24) (l : List Int) (r : List Int × MS) (h : r.2.Ok) : (stepL (treeM v nodes n) l r).2.Ok := (stepL_gr (fun a s => treeM_gr n a s) l r).ok h
end
end Go.GL
namespace Go.GL
set_option linter.unusedVariables false
set_option linter.unusedSimpArgs false
section
variable {es : List Bool} {v : Nat}
theorem MS.Gr.off {s r : MS} (g : MS.Gr s r) (h : r.full = false) : s.full = false := by
  cases hs : s.full with
  | false => rfl
  | true => rw [g.full hs] at h; cases h
theorem MS.Gr.val (he : es.length = v) {s r : MS} (g : MS.Gr s r) {a : Int} (ha : InR (v + s.ns.length) a) : VB es r.ns a = VB es s.ns a := by
  obtain ⟨l, hl⟩ := g.pre
  rw [hl]
  exact VB_old he ha
theorem addM_val (he : es.length = v) {d : Nd} {s : MS} (hf : (addM v d s).2.full = false) : VB es (addM v d s).2.ns (addM v d s).1 = nodeVal d (cnt (valsFrom es s.ns) d.args) := by
  unfold addM at hf ⊢
  split
  · rename_i h; rw [if_pos h] at hf; cases hf
  · exact VB_new he
def cB (b : Int → Bool) (l : List Int) : Nat := l.countP b
theorem cB_cons (b : Int → Bool) (a : Int) (l : List Int) : cB b (a :: l) = cB b l + if b a then 1 else 0 := by unfold cB; rw [List.countP_cons]
theorem cB_le (b : Int → Bool) (l : List Int) : cB b l ≤ l.length := List.countP_le_length
theorem cnt_cB {ns : List Nd} {b : Int → Bool} {l : List Int} (h : ∀ a ∈ l, VB es ns a = b a) : cnt (valsFrom es ns) l = cB b l := by
  unfold cnt cB
  exact List.countP_congr fun a ha => by rw [← h a ha]; rfl
theorem add2_val (he : es.length = v) {k a b : Int} {s : MS} (hf : (addM v ⟨k, 0, [a, b]⟩ s).2.full = false) (hk : k = 2 ∨ k = 3) :
    VB es (addM v ⟨k, 0, [a, b]⟩ s).2.ns (addM v ⟨k, 0, [a, b]⟩ s).1 = if k = 2 then (VB es s.ns a && VB es s.ns b) else (VB es s.ns a || VB es s.ns b) := by
  rw [addM_val he hf]
  rcases hk with rfl | rfl
  · rw [nv2 rfl, cnt_two]
    cases VB es s.ns a <;> cases VB es s.ns b <;> rfl
  · rw [nv3 rfl, cnt_two]
    cases VB es s.ns a <;> cases VB es s.ns b <;> rfl
theorem not_val (he : es.length = v) {a : Int} {s : MS} (hf : (addM v ⟨1, 0, [a]⟩ s).2.full = false) : VB es (addM v ⟨1, 0, [a]⟩ s).2.ns (addM v ⟨1, 0, [a]⟩ s).1 = !VB es s.ns a := by
  rw [addM_val he hf, nv1 rfl, cnt_one]
  cases VB es s.ns a <;> rfl
theorem gate_or (he : es.length = v) {l : List Int} {s : MS} {b : Int → Bool} (hb : ∀ a ∈ l, VB es s.ns a = b a) (h0 : l ≠ []) (hf : (gateM v 3 l s).2.full = false) : VB es (gateM v 3 l s).2.ns (gateM v 3 l s).1 = decide (1 ≤ cB b l) := by
  unfold gateM at hf ⊢
  split
  · rename_i h1
    obtain ⟨a, rfl⟩ := List.length_eq_one_iff.1 h1
    show VB es s.ns a = _
    rw [hb a (by simp), cB_cons]
    cases b a <;> simp [cB]
  · rename_i h1
    rw [if_neg h1] at hf
    rw [addM_val he hf, nv3 rfl, cnt_cB hb]
    exact decide_eq_decide.2 (by omega)
theorem gate_and (he : es.length = v) {l : List Int} {s : MS} {b : Int → Bool} (hb : ∀ a ∈ l, VB es s.ns a = b a) (h0 : l ≠ []) (hf : (gateM v 2 l s).2.full = false) : VB es (gateM v 2 l s).2.ns (gateM v 2 l s).1 = decide (l.length ≤ cB b l) := by
  have hle := cB_le b l
  unfold gateM at hf ⊢
  split
  · rename_i h1
    obtain ⟨a, rfl⟩ := List.length_eq_one_iff.1 h1
    show VB es s.ns a = _
    rw [hb a (by simp), cB_cons]
    cases b a <;> simp [cB]
  · rename_i h1
    rw [if_neg h1] at hf
    rw [addM_val he hf, nv2 rfl, cnt_cB hb]
    exact decide_eq_decide.2 (by show ((cB b l : Nat) : Int) = (l.length : Nat) ↔ _; omega)
def MadeVal (es : List Bool) (ns : List Nd) (b : Int → Bool) (args : List Int) (m : Made) : Prop := ∀ q ∈ m, VB es ns q.2 = decide (q.1.1 ≤ (cB b (args.drop q.1.2.toNat) : Nat))
theorem MadeVal.gr (he : es.length = v) {s r : MS} {b : Int → Bool} {args : List Int} {m : Made} (h : MadeVal es s.ns b args m) (hi : MadeIn (v + s.ns.length) m) (g : MS.Gr s r) : MadeVal es r.ns b args m := fun q hq => by
  rw [g.val he (hi q hq)]; exact h q hq
theorem MadeVal.snoc {ns : List Nd} {b : Int → Bool} {args : List Int} {m : Made} (h : MadeVal es ns b args m) {k i x : Int} (hx : VB es ns x = decide (k ≤ (cB b (args.drop i.toNat) : Nat))) : MadeVal es ns b args (m ++ [((k, i), x)]) := by
  intro q hq
  rcases List.mem_append.1 hq with hq | hq
  · exact h q hq
  · obtain rfl := List.mem_singleton.1 hq
    exact hx
theorem leastM_val (he : es.length = v) {args : List Int} (h16 : args.length ≤ 16) {b : Int → Bool} : ∀ (n : Nat), n ≤ args.length → ∀ (k : Int) (m : Made) (s : MS), 1 ≤ k → k ≤ n → (∀ a ∈ args, InR (v + s.ns.length) a) → (∀ a ∈ args, VB es s.ns a = b a) → NF v s.ns → MadeIn (v + s.ns.length) m → MadeVal es s.ns b args m → (leastM v args n k m s).2.2.full = false →
    VB es (leastM v args n k m s).2.2.ns (leastM v args n k m s).1 = decide (k ≤ (cB b (args.drop (args.length - n)) : Nat)) ∧ MadeVal es (leastM v args n k m s).2.2.ns b args (leastM v args n k m s).2.1
  | 0, hn, k, m, s, hk, hk2, ha, hb, h, hm, hv, hf => by omega
  | n + 1, hn, k, m, s, hk, hk2, ha, hb, h, hm, hv, hf => by
    have hi : args.length - (n + 1) < args.length := by omega
    have hdn : args.drop (args.length - (n + 1)) ≠ [] := by
      intro e
      have := congrArg List.length e
      rw [List.length_drop] at this
      simp at this
      omega
    have hda : ∀ a ∈ args.drop (args.length - (n + 1)), VB es s.ns a = b a := fun a h => hb a (List.mem_of_mem_drop h)
    have hdl : (args.drop (args.length - (n + 1))).length = n + 1 := by rw [List.length_drop]; omega
    have hcl := cB_le b (args.drop (args.length - (n + 1)))
    have hin : ∀ a ∈ args.drop (args.length - (n + 1)), InR ((v : Int) + s.ns.length) a := fun a h => ha a (List.mem_of_mem_drop h)
    cases hfd : findM k ((args.length - (n + 1) : Nat) : Int) m with
    | some x =>
      rw [leastM_early rfl (.inl (by rw [hfd]; simp)), hfd]
      have := hv _ (findM_mem hfd)
      rw [Int.toNat_natCast] at this
      exact ⟨this, hv⟩
    | none =>
      cases hu : s.full with
      | true =>
        rw [leastM_early rfl (.inr hu)] at hf
        rw [show ((findM k ((args.length - (n + 1) : Nat) : Int) m).getD 0, m, s).2.2.full = s.full from rfl, hu] at hf
        cases hf
      | false =>
        by_cases h1 : k = 1
        · rw [leastM_or rfl hfd hu h1] at hf ⊢
          have hval := gate_or he hda hdn hf
          have g := gateM_fit (v := (v : Int)) (by omega) (k := 3) (.inr rfl) h hdn (by omega) hin
          subst h1
          refine ⟨hval.trans (decide_eq_decide.2 (by omega)), ((hv.gr he hm g.gr).snoc ?_)⟩
          rw [Int.toNat_natCast]
          exact hval.trans (decide_eq_decide.2 (by omega))
        · by_cases h2 : k = ((n + 1 : Nat) : Int)
          · rw [leastM_and rfl hfd hu h1 h2] at hf ⊢
            have hval := gate_and he hda hdn hf
            have g := gateM_fit (v := (v : Int)) (by omega) (k := 2) (.inl rfl) h hdn (by omega) hin
            refine ⟨hval.trans (decide_eq_decide.2 (by omega)), ((hv.gr he hm g.gr).snoc ?_)⟩
            rw [Int.toNat_natCast]
            exact hval.trans (decide_eq_decide.2 (by omega))
          · obtain ⟨r1, e1⟩ : ∃ r, leastM v args n (k - 1) m s = r := ⟨_, rfl⟩
            obtain ⟨r2, e2⟩ : ∃ r, addM v ⟨2, 0, [args.getD (args.length - (n + 1)) 0, r1.1]⟩ r1.2.2 = r := ⟨_, rfl⟩
            obtain ⟨r3, e3⟩ : ∃ r, leastM v args n k r1.2.1 r2.2 = r := ⟨_, rfl⟩
            obtain ⟨r4, e4⟩ : ∃ r, addM v ⟨3, 0, [r2.1, r3.1]⟩ r3.2.2 = r := ⟨_, rfl⟩
            rw [leastM_two rfl hfd hu h1 h2 e1 e2 e3 e4] at hf ⊢
            dsimp only at hf
            obtain ⟨f1, m1⟩ := leastM_fit (v := (v : Int)) (by omega) h16 n (by omega) (k - 1) m s (by omega) (by omega) ha h hm
            rw [e1] at f1 m1
            have a1 : ∀ a ∈ args, InR (v + r1.2.2.ns.length) a := fun a h => f1.up (ha a h)
            have hgi : args.getD (args.length - (n + 1)) 0 ∈ args := by
              rw [List.getD_eq_getElem?_getD, List.getElem?_eq_getElem hi]
              exact List.getElem_mem hi
            have f2 := add2_fit (v := (v : Int)) (by omega) (k := 2) (.inl rfl) f1.nf (a1 _ hgi) f1.inr
            dsimp only at f2
            rw [e2] at f2
            have a2 : ∀ a ∈ args, InR (v + r2.2.ns.length) a := fun a h => f2.up (a1 a h)
            obtain ⟨f3, m3⟩ := leastM_fit (v := (v : Int)) (by omega) h16 n (by omega) k r1.2.1 r2.2 (by omega) (by omega) a2 f2.nf (m1.gr f2.gr)
            rw [e3] at f3 m3
            have g4 : MS.Gr r3.2.2 r4.2 := by rw [← e4]; exact addM_gr _ _ _
            have u3 := g4.off hf
            have u2 := f3.gr.off u3
            have u1 := f2.gr.off u2
            obtain ⟨v1, w1⟩ := leastM_val he h16 n (by omega) (k - 1) m s (by omega) (by omega) ha hb h hm hv (by rw [e1]; exact u1)
            rw [e1] at v1 w1
            have b1 : ∀ a ∈ args, VB es r1.2.2.ns a = b a := fun a h => (f1.gr.val he (ha a h)).trans (hb a h)
            have b2 : ∀ a ∈ args, VB es r2.2.ns a = b a := fun a h => (f2.gr.val he (a1 a h)).trans (b1 a h)
            obtain ⟨v3, w3⟩ := leastM_val he h16 n (by omega) k r1.2.1 r2.2 (by omega) (by omega) a2 b2 f2.nf (m1.gr f2.gr) (w1.gr he m1 f2.gr) (by rw [e3]; exact u3)
            rw [e3] at v3 w3
            have v2 := add2_val (es := es) (v := v) he (k := 2) (a := args.getD (args.length - (n + 1)) 0) (b := r1.1) (s := r1.2.2) (by rw [e2]; exact u2) (.inl rfl)
            rw [e2, if_pos rfl, b1 _ hgi, v1] at v2
            have v4 := add2_val (es := es) (v := v) he (k := 3) (a := r2.1) (b := r3.1) (s := r3.2.2) (by rw [e4]; exact hf) (.inr rfl)
            have v2' : VB es r3.2.2.ns r2.1 = VB es r2.2.ns r2.1 := f3.gr.val he f2.inr
            rw [e4, if_neg (by decide), v2', v2, v3] at v4
            have hdr : args.drop (args.length - (n + 1)) = args.getD (args.length - (n + 1)) 0 :: args.drop (args.length - n) := by
              rw [List.drop_eq_getElem_cons hi, show args.length - (n + 1) + 1 = args.length - n by omega]
              simp [List.getD_eq_getElem?_getD, hi]
            have hval : VB es r4.2.ns r4.1 = decide (k ≤ (cB b (args.drop (args.length - (n + 1))) : Nat)) := by
              rw [v4, hdr, cB_cons]
              cases b (args.getD (args.length - (n + 1)) 0)
              · simp
              · simp only [Bool.true_and, if_true]
                rw [Bool.eq_iff_iff]
                simp only [Bool.or_eq_true, decide_eq_true_eq]
                omega
            refine ⟨hval, (w3.gr he m3 g4).snoc ?_⟩
            rw [Int.toNat_natCast]
            exact hval
theorem xor1_val (he : es.length = v) {y : Int} {r : Int × MS} (h : NF v r.2.ns) (hx : InR (v + r.2.ns.length) r.1) (hy : InR (v + r.2.ns.length) y) (hf : (xor1 v y r).2.full = false) :
    VB es (xor1 v y r).2.ns (xor1 v y r).1 = (VB es r.2.ns r.1 ^^ VB es r.2.ns y) := by
  obtain ⟨x, s⟩ := r
  dsimp only at h hx hy hf ⊢
  have f1 := addM_fit (v := (v : Int)) (by omega) h (Fits.mk1 hy)
  obtain ⟨r1, e1⟩ : ∃ q, addM v ⟨1, 0, [y]⟩ s = q := ⟨_, rfl⟩
  rw [e1] at f1
  have f2 := add2_fit (v := (v : Int)) (by omega) (k := 2) (.inl rfl) f1.nf (f1.up hx) f1.inr
  obtain ⟨r2, e2⟩ : ∃ q, addM v ⟨2, 0, [x, r1.1]⟩ r1.2 = q := ⟨_, rfl⟩
  rw [e2] at f2
  have f3 := addM_fit (v := (v : Int)) (by omega) f2.nf (Fits.mk1 (f2.up (f1.up hx)))
  obtain ⟨r3, e3⟩ : ∃ q, addM v ⟨1, 0, [x]⟩ r2.2 = q := ⟨_, rfl⟩
  rw [e3] at f3
  have f4 := add2_fit (v := (v : Int)) (by omega) (k := 2) (.inl rfl) f3.nf f3.inr (f3.up (f2.up (f1.up hy)))
  obtain ⟨r4, e4⟩ : ∃ q, addM v ⟨2, 0, [r3.1, y]⟩ r3.2 = q := ⟨_, rfl⟩
  rw [e4] at f4
  obtain ⟨r5, e5⟩ : ∃ q, addM v ⟨3, 0, [r2.1, r4.1]⟩ r4.2 = q := ⟨_, rfl⟩
  have e : xor1 v y (x, s) = r5 := by unfold xor1; dsimp only; rw [e1, e2, e3, e4, e5]
  rw [e] at hf ⊢
  have g5 : MS.Gr r4.2 r5.2 := by rw [← e5]; exact addM_gr _ _ _
  have u4 := g5.off hf
  have u3 := f4.gr.off u4
  have u2 := f3.gr.off u3
  have u1 := f2.gr.off u2
  have w1 := not_val (es := es) he (a := y) (s := s) (by rw [e1]; exact u1)
  rw [e1] at w1
  have w2 := add2_val (es := es) he (k := 2) (a := x) (b := r1.1) (s := r1.2) (by rw [e2]; exact u2) (.inl rfl)
  rw [e2, if_pos rfl, w1, f1.gr.val he hx] at w2
  have w3 := not_val (es := es) he (a := x) (s := r2.2) (by rw [e3]; exact u3)
  rw [e3, f2.gr.val he (f1.up hx), f1.gr.val he hx] at w3
  have w4 := add2_val (es := es) he (k := 2) (a := r3.1) (b := y) (s := r3.2) (by rw [e4]; exact u4) (.inl rfl)
  rw [e4, if_pos rfl, w3, f3.gr.val he (f2.up (f1.up hy)), f2.gr.val he (f1.up hy), f1.gr.val he hy] at w4
  have w5 := add2_val (es := es) he (k := 3) (a := r2.1) (b := r4.1) (s := r4.2) (by rw [e5]; exact hf) (.inr rfl)
  rw [e5, if_neg (by decide), w4, f4.gr.val he (f3.up f2.inr), f3.gr.val he f2.inr, w2] at w5
  rw [w5]
  cases VB es s.ns x <;> cases VB es s.ns y <;> rfl
theorem chain_xor (he : es.length = v) {b : Int → Bool} : ∀ (l : List Int) (r : Int × MS), NF v r.2.ns → InR (v + r.2.ns.length) r.1 → (∀ a ∈ l, InR (v + r.2.ns.length) a) → (∀ a ∈ l, VB es r.2.ns a = b a) → (chainX (xor1 v) l r).2.full = false →
    VB es (chainX (xor1 v) l r).2.ns (chainX (xor1 v) l r).1 = (VB es r.2.ns r.1 ^^ decide (cB b l % 2 = 1))
  | [], r, h, hx, hl, hb, hf => by simp [chainX, cB]
  | y :: l, r, h, hx, hl, hb, hf => by
    have f1 := xor1_fit (v := (v : Int)) (by omega) h hx (hl y (by simp))
    have hla : ∀ a ∈ l, InR (v + (xor1 v y r).2.ns.length) a := fun a ha => f1.up (hl a (by simp [ha]))
    have fc := chainX_fit (v := (v : Int)) (f := xor1 v) (fun y r h1 h2 h3 => xor1_fit (by omega) h1 h2 h3) l (xor1 v y r) f1.nf f1.inr hla
    have hf' : (chainX (xor1 v) l (xor1 v y r)).2.full = false := hf
    have u1 := fc.gr.off hf'
    have := chain_xor he l (xor1 v y r) f1.nf f1.inr hla (fun a ha => (f1.gr.val he (hl a (by simp [ha]))).trans (hb a (by simp [ha]))) hf'
    show VB es (chainX (xor1 v) l (xor1 v y r)).2.ns (chainX (xor1 v) l (xor1 v y r)).1 = _
    rw [this, xor1_val he h hx (hl y (by simp)) u1, hb y (by simp), cB_cons]
    rcases Nat.mod_two_eq_zero_or_one (cB b l) with h0 | h0
    · cases VB es r.2.ns r.1 <;> cases b y <;> simp [h0, Nat.add_mod]
    · cases VB es r.2.ns r.1 <;> cases b y <;> simp [h0, Nat.add_mod]
theorem chain_bin (he : es.length = v) {k : Int} (hk : k = 2 ∨ k = 3) {b : Int → Bool} : ∀ (l : List Int) (r : Int × MS), NF v r.2.ns → InR (v + r.2.ns.length) r.1 → (∀ a ∈ l, InR (v + r.2.ns.length) a) → (∀ a ∈ l, VB es r.2.ns a = b a) → (chainX (fun y r => addM v ⟨k, 0, [r.1, y]⟩ r.2) l r).2.full = false →
    VB es (chainX (fun y r => addM v ⟨k, 0, [r.1, y]⟩ r.2) l r).2.ns (chainX (fun y r => addM v ⟨k, 0, [r.1, y]⟩ r.2) l r).1 = if k = 2 then (VB es r.2.ns r.1 && decide (cB b l = l.length)) else (VB es r.2.ns r.1 || decide (0 < cB b l))
  | [], r, h, hx, hl, hb, hf => by simp [chainX, cB]
  | y :: l, r, h, hx, hl, hb, hf => by
    have f1 := add2_fit (v := (v : Int)) (by omega) hk h hx (hl y (by simp))
    obtain ⟨r1, e1⟩ : ∃ q, addM v ⟨k, 0, [r.1, y]⟩ r.2 = q := ⟨_, rfl⟩
    rw [e1] at f1
    have hla : ∀ a ∈ l, InR (v + r1.2.ns.length) a := fun a ha => f1.up (hl a (by simp [ha]))
    have fc := chainX_fit (v := (v : Int)) (f := fun y r => addM v ⟨k, 0, [r.1, y]⟩ r.2) (fun y r h1 h2 h3 => add2_fit (by omega) hk h1 h2 h3) l r1 f1.nf f1.inr hla
    have hc : chainX (fun y r => addM v ⟨k, 0, [r.1, y]⟩ r.2) (y :: l) r = chainX (fun y r => addM v ⟨k, 0, [r.1, y]⟩ r.2) l r1 := by rw [chainX, e1]
    rw [hc] at hf ⊢
    have u1 := fc.gr.off hf
    have := chain_bin he hk l r1 f1.nf f1.inr hla (fun a ha => (f1.gr.val he (hl a (by simp [ha]))).trans (hb a (by simp [ha]))) hf
    have w1 := add2_val (es := es) he (k := k) (a := r.1) (b := y) (s := r.2) (by rw [e1]; exact u1) hk
    rw [e1, hb y (by simp)] at w1
    rw [this, w1, cB_cons]
    have hle := cB_le b l
    rcases hk with rfl | rfl
    · rw [if_pos rfl, if_pos rfl, if_pos rfl]
      cases b y
      · simp; intro _; omega
      · simp
    · rw [if_neg (by decide), if_neg (by decide), if_neg (by decide)]
      cases b y <;> simp
theorem nodeM_val (he : es.length = v) (what : Nat) {d : Nd} {s : MS} (h : NF v s.ns) (hd : d.Fits (v + s.ns.length)) (hf : (nodeM what v d s).2.full = false) :
    VB es (nodeM what v d s).2.ns (nodeM what v d s).1 = nodeVal d (cnt (valsFrom es s.ns) d.args) := by
  have hlen := hd.len
  unfold nodeM at hf ⊢
  split
  · rename_i hB
    rw [if_pos hB] at hf
    have hne : d.args ≠ [] := hd.ne (by
      intro h0
      unfold specB at hB
      rw [h0] at hB
      split at hB <;> simp at hB)
    obtain ⟨x0, xr, hx⟩ := List.exists_cons_of_ne_nil hne
    have hA := hd.args
    have hA' : ∀ a ∈ d.args, InR (v + s.ns.length) a := fun a ha => hA a ha
    have hb : ∀ a ∈ d.args, VB es s.ns a = VB es s.ns a := fun _ _ => rfl
    have hcc := cnt_cB (es := es) (ns := s.ns) (b := VB es s.ns) hb
    unfold specM at hf ⊢
    match what, hB, hf with
    | 0, hB, hf =>
      have h4 : d.kind = 4 := by simpa [specB] using hB
      have hkk := hd.kk.2.1 h4
      have := (leastM_val he hlen (b := VB es s.ns) d.args.length (Nat.le_refl _) d.k [] s hkk.1 hkk.2 hA' hb h (fun p hp => by cases hp) (fun p hp => by cases hp) hf).1
      rw [Nat.sub_self, List.drop_zero] at this
      rw [nv4 h4, hcc]
      exact this
    | 1, hB, hf =>
      have h5 : d.kind = 5 := by simpa [specB] using hB
      dsimp only at hf ⊢
      unfold xorM at hf ⊢
      rw [nv5 h5, hcc]
      rw [hx] at hA' hf ⊢
      have := chain_xor he (b := VB es s.ns) xr (x0, s) h (hA' x0 (by simp)) (fun a ha => hA' a (by simp [ha])) (fun _ _ => rfl) hf
      rw [cB_cons]
      refine this.trans ?_
      dsimp only
      rcases Nat.mod_two_eq_zero_or_one (cB (VB es s.ns) xr) with h0 | h0
      · cases VB es s.ns x0 <;> simp [h0, Nat.add_mod]
      · cases VB es s.ns x0 <;> simp [h0, Nat.add_mod]
    | w + 2, hB, hf =>
      dsimp only at hf ⊢
      unfold binM at hf ⊢
      have hk : d.kind = 2 ∨ d.kind = 3 := by simpa [specB] using hB
      rw [hcc]
      have hle := cB_le (VB es s.ns) xr
      have hlx : d.args.length = xr.length + 1 := by rw [hx]; rfl
      rw [hx] at hA' hf
      have := chain_bin he hk (b := VB es s.ns) xr (x0, s) h (hA' x0 (by simp)) (fun a ha => hA' a (by simp [ha])) (fun _ _ => rfl) hf
      rw [show d.args.tail = xr by rw [hx]; rfl, show d.args.headD 0 = x0 by rw [hx]; rfl]
      refine this.trans ?_
      rcases hk with hk | hk
      · rw [if_pos hk, nv2 hk, hlx, hx, cB_cons]
        cases VB es s.ns x0
        · simp; omega
        · simp; omega
      · rw [if_neg (by omega), nv3 hk, hx, cB_cons]
        cases VB es s.ns x0
        · simp
        · simp
  · rename_i hB
    rw [if_neg hB] at hf
    exact addM_val he hf
theorem mapS_val {F : Fm} (hg : F.Good) {what v : Nat} (hv : F.vars = v) : ∀ k, k ≤ F.nodes.length → (mapS what v F.nodes k).2.full = false → ∀ (x : Int) (j : Nat), j < v + k → VB (events v x) (mapS what v F.nodes k).2.ns ((mapS what v F.nodes k).1.getD j 0) = F.val x j
  | 0, _, _, x, j, hj => by
    have hvn : F.vars.toNat = v := by omega
    show VB (events v x) [] ((evI v).getD j 0) = _
    rw [evI_getD (by omega), VB_event (by omega), F.val_event x (by omega)]
  | k + 1, hk, hf, x, j, hj => by
    have hvn : F.vars.toNat = v := by omega
    have hkn : k < F.nodes.length := by omega
    have hn := hg.nodes hv
    have M := mapS_fit (what := what) hn k (by omega)
    have hl := mapS_len (what := what) (v := v) (nodes := F.nodes) k
    have hd := hn k hkn
    have hD := hd.trD M.inr (fun a ha => by have := hd.args a ha; omega)
    have f := nodeM_fit (v := (v : Int)) (by omega) what M.nf hD
    have hgd : F.nodes.getD k ⟨0, 0, []⟩ = F.nodes[k] := by simp [List.getD_eq_getElem?_getD, hkn]
    rw [mapS] at hf ⊢
    dsimp only at hf ⊢
    rw [hgd] at hf ⊢
    have u := f.gr.off hf
    have ih := mapS_val hg hv k (by omega) u x
    have hes : (events v x).length = v := events_length v x
    by_cases hjk : j < v + k
    · rw [List.getD_eq_getElem?_getD, List.getElem?_append_left (by omega), ← List.getD_eq_getElem?_getD, f.gr.val hes (getD_in M.inr (by omega))]
      exact ih j hjk
    · obtain rfl : j = v + k := by omega
      rw [List.getD_eq_getElem?_getD, List.getElem?_append_right (by omega), hl, Nat.sub_self]
      have hnv := Fm.val_node hg x hkn
      rw [hvn] at hnv
      rw [hnv]
      refine (nodeM_val hes what M.nf hD hf).trans ?_
      have hc : cnt (valsFrom (events v x) (mapS what v F.nodes k).2.ns) (trD (mapS what v F.nodes k).1 F.nodes[k]).args = cntOf (F.val x) F.nodes[k].args := cnt_tr (fun a ha => ih a.toNat (by have := hd.args a ha; omega))
      rw [hc]
      unfold nodeVal
      simp only [trD, trI_length]
      rfl
end
theorem expF_val {F : Fm} {what : Nat} (h : F.expE what = none) (z : Int) : (F.expF what).value z = F.value z ∧ (F.expF what).vars = F.vars := by
  have he : F.err = none := by
    unfold Fm.expE at h
    cases h0 : F.err with
    | none => rfl
    | some e => rw [h0] at h; cases h
  have hg := (Fm.good_iff F).1 he
  have g0 := hg.v0; have gt := hg.topLt
  obtain ⟨v, hv⟩ := Int.eq_ofNat_of_zero_le g0
  have hvn : F.vars.toNat = v := by omega
  unfold Fm.expE at h
  rw [he] at h
  unfold resE at h
  unfold Fm.expF
  rw [he]
  unfold Fm.expS at h ⊢
  rw [hvn] at h ⊢
  dsimp only at h ⊢
  have hfu : ¬ (mapS what v F.nodes F.nodes.length).2.full = true := by
    intro e
    rw [if_pos e] at h
    cases h
  unfold resF
  rw [if_neg hfu]
  have V := mapS_val (what := what) hg hv F.nodes.length (Nat.le_refl _) (by simpa using hfu) z F.top.toNat (by omega)
  refine ⟨?_, rfl⟩
  rw [Fm.value_eq, Fm.value_eq, ← V]
  unfold Fm.val Fm.values VB
  dsimp only
  rw [hvn]
theorem plain_val {F : Fm} (h : F.plainE = none) (z : Int) : F.plainF.value z = F.value z ∧ F.plainF.vars = F.vars ∧ F.expE 0 = none ∧ (F.expF 0).expE 1 = none := by
  unfold Fm.plainE at h
  unfold Fm.plainF
  cases h0 : F.expE 0 with
  | some e => rw [h0] at h; cases h
  | none =>
    rw [h0] at h
    dsimp only at h ⊢
    have a := expF_val h0 z
    have b := expF_val h z
    exact ⟨b.1.trans a.1, b.2.trans a.2, rfl, h⟩
end Go.GL
namespace Go.GL
set_option linter.unusedVariables false
set_option linter.unusedSimpArgs false
theorem addM_off {v : Int} {d : Nd} {s : MS} (h : (addM v d s).2.full = false) : addM v d s = (v + s.ns.length, ⟨s.ns ++ [d], s.full⟩) ∧ s.full = false ∧ s.ns.length < 128 := by
  unfold addM at h ⊢
  split
  · rename_i h1; rw [if_pos h1] at h; cases h
  · rename_i h1; rw [if_neg h1] at h; exact ⟨rfl, h, by omega⟩
section
variable {v : Nat} {nodes : List Nd}
theorem treeM_big {n i : Nat} {s : MS} (hi : i < nodes.length) (hf : s.full = false) :
    treeM v nodes (n + 1) ((v : Int) + i) s = addM v ⟨nodes[i].kind, nodes[i].k, (stepL (treeM v nodes n) nodes[i].args ([], s)).1⟩ (stepL (treeM v nodes n) nodes[i].args ([], s)).2 :=
  treeM_node hi (by rw [hf]; intro h; rcases h with h | h; omega; cases h)
structure LstR (v : Nat) (f : Nat → Bool) (es : List Bool) (s : MS) (l : List Int) (r : List Int × MS) : Prop where
  gr : MS.Gr s r.2
  nf : NF v r.2.ns
  inr : ∀ a ∈ r.1, InR (v + r.2.ns.length) a
  val : cnt (valsFrom es r.2.ns) r.1 = cntOf f l
structure TreR (v : Nat) (f : Nat → Bool) (es : List Bool) (s : MS) (a : Int) (r : Int × MS) : Prop where
  gr : MS.Gr s r.2
  nf : NF v r.2.ns
  inr : InR (v + r.2.ns.length) r.1
  val : VB es r.2.ns r.1 = f a.toNat
theorem cntOf_snoc (f : Nat → Bool) (l : List Int) (a : Int) : cntOf f (l ++ [a]) = cntOf f l + if f a.toNat then 1 else 0 := by
  unfold cntOf
  rw [List.countP_append, List.countP_singleton]
theorem cnt_snoc (w : List Bool) (l : List Int) (a : Int) : cnt w (l ++ [a]) = cnt w l + if w.getD a.toNat false then 1 else 0 := by
  unfold cnt
  rw [List.countP_append, List.countP_singleton]
theorem stepL_tree {es : List Bool} (he : es.length = v) {f : Nat → Bool} {n : Nat} (ih : ∀ (a : Int) (s : MS), 0 ≤ a → a < v + n → NF v s.ns → (treeM v nodes n a s).2.full = false → TreR v f es s a (treeM v nodes n a s)) {s0 : MS} :
    ∀ (l : List Int) (done : List Int) (r : List Int × MS), (∀ a ∈ l, 0 ≤ a ∧ a < v + n) → LstR v f es s0 done r → (stepL (treeM v nodes n) l r).2.full = false → LstR v f es s0 (done ++ l) (stepL (treeM v nodes n) l r)
  | [], done, r, _, h, hf => by rw [List.append_nil]; exact h
  | a :: l, done, r, ha, h, hf => by
    rw [stepL] at hf ⊢
    have g := stepL_gr (fun a s => treeM_gr (v := v) (nodes := nodes) n a s) l (r.1 ++ [(treeM v nodes n a r.2).1], (treeM v nodes n a r.2).2)
    have u := g.off hf
    have t := ih a r.2 (ha a (by simp)).1 (ha a (by simp)).2 h.nf u
    have hn : LstR v f es s0 (done ++ [a]) (r.1 ++ [(treeM v nodes n a r.2).1], (treeM v nodes n a r.2).2) := by
      refine ⟨h.gr.trans t.gr, t.nf, fun b hb => ?_, ?_⟩
      · rcases List.mem_append.1 hb with hb | hb
        · exact t.gr.up (h.inr b hb)
        · obtain rfl := List.mem_singleton.1 hb
          exact t.inr
      · dsimp only
        have hv := t.val
        unfold VB at hv
        rw [cnt_snoc, cntOf_snoc, hv, ← h.val]
        congr 1
        unfold cnt
        exact List.countP_congr fun b hb => by
          have := t.gr.val he (h.inr b hb)
          unfold VB at this
          rw [this]
    have := stepL_tree he ih l (done ++ [a]) _ (fun b hb => ha b (by simp [hb])) hn hf
    rwa [List.append_assoc, List.singleton_append] at this
theorem treeM_all {F : Fm} (hg : F.Good) (hv : F.vars = v) {x : Int} : ∀ (n : Nat), n ≤ F.nodes.length → ∀ (a : Int) (s : MS), 0 ≤ a → a < v + n → NF v s.ns → (treeM v F.nodes n a s).2.full = false →
    TreR v (F.val x) (events v x) s a (treeM v F.nodes n a s) := by
  have hvn : F.vars.toNat = v := by omega
  have hes : (events v x).length = v := events_length v x
  have hn := hg.nodes hv
  intro n
  induction n with
  | zero =>
    intro _ a s h0 h1 hs hf
    have ha : a = (a.toNat : Int) := by omega
    refine ⟨MS.Gr.refl s, hs, ⟨h0, ?_⟩, ?_⟩
    · show a < v + (s.ns.length : Int); omega
    · show VB (events v x) s.ns a = _
      rw [ha, VB_event (by omega), Int.toNat_natCast, F.val_event x (by omega)]
  | succ n ih =>
    intro hN a s h0 h1 hs hf
    by_cases hav : a < v
    · rw [treeM_early (.inl hav)]
      have ha : a = (a.toNat : Int) := by omega
      refine ⟨MS.Gr.refl s, hs, ⟨h0, ?_⟩, ?_⟩
      · show a < v + (s.ns.length : Int); omega
      · show VB (events v x) s.ns a = _
        rw [ha, VB_event (by omega), Int.toNat_natCast, F.val_event x (by omega)]
    · have gs := treeM_gr (v := v) (nodes := F.nodes) (n + 1) a s
      have us := gs.off hf
      obtain ⟨i, rfl⟩ : ∃ i : Nat, a = v + i := ⟨(a - v).toNat, by omega⟩
      have hin : i < F.nodes.length := by omega
      rw [treeM_big hin us] at hf ⊢
      have hd := hn i hin
      obtain ⟨e1, e2, e3⟩ := addM_off hf
      have L := stepL_tree (v := v) hes (fun a s b1 b2 b3 b4 => ih (by omega) a s b1 b2 b3 b4) (s0 := s) F.nodes[i].args [] ([], s) (fun a ha => by have := hd.args a ha; omega) ⟨MS.Gr.refl s, hs, fun _ h => by simp at h, rfl⟩ e2
      rw [List.nil_append] at L
      have hlen := stepL_len (treeM v F.nodes n) F.nodes[i].args ([], s)
      simp only [List.length_nil, Nat.zero_add] at hlen
      obtain ⟨R, hR⟩ : ∃ R, stepL (treeM v F.nodes n) F.nodes[i].args ([], s) = R := ⟨_, rfl⟩
      rw [hR] at L e1 hf hlen ⊢
      have hfit : (⟨F.nodes[i].kind, F.nodes[i].k, R.1⟩ : Nd).Fits ((v : Int) + R.2.ns.length) := by
        refine ⟨hd.k0, hd.k1, ?_, fun a ha => L.inr a ha, ?_⟩
        · show argsB F.nodes[i].kind (R.1.length : Nat) = true
          rw [hlen]; exact hd.ar
        · have kk := hd.kk
          refine ⟨kk.1, fun h4 => ?_, kk.2.2⟩
          show 1 ≤ F.nodes[i].k ∧ F.nodes[i].k ≤ (R.1.length : Nat)
          rw [hlen]; exact kk.2.1 h4
      have f := addM_fit (v := (v : Int)) (by omega) L.nf hfit
      refine ⟨L.gr.trans f.gr, f.nf, f.inr, ?_⟩
      rw [addM_val hes hf, L.val]
      have : ((v : Int) + i).toNat = F.vars.toNat + i := by omega
      rw [this, Fm.val_node hg x hin]
      unfold nodeVal
      dsimp only
      rw [hlen]
theorem stepL_again {M : List Nd} {n m : Nat} (ih : ∀ (a : Int) (s : MS), 0 ≤ a → a < v + n → (treeM v nodes n a s).2.full = false → (∃ t, M = (treeM v nodes n a s).2.ns ++ t) → (treeM v nodes n a s).2.ns.length ≤ m → treeM v M m (treeM v nodes n a s).1 s = treeM v nodes n a s) :
    ∀ (l : List Int) (r : List Int × MS), (∀ a ∈ l, 0 ≤ a ∧ a < v + n) → (stepL (treeM v nodes n) l r).2.full = false → (∃ t, M = (stepL (treeM v nodes n) l r).2.ns ++ t) → (stepL (treeM v nodes n) l r).2.ns.length ≤ m →
    ∃ l', (stepL (treeM v nodes n) l r).1 = r.1 ++ l' ∧ stepL (treeM v M m) l' r = stepL (treeM v nodes n) l r
  | [], r, _, hf, hM, hm => ⟨[], by simp [stepL], rfl⟩
  | a :: l, r, ha, hf, hM, hm => by
    rw [stepL] at hf hM hm ⊢
    have g := stepL_gr (fun a s => treeM_gr (v := v) (nodes := nodes) n a s) l (r.1 ++ [(treeM v nodes n a r.2).1], (treeM v nodes n a r.2).2)
    have u := g.off hf
    obtain ⟨l', h1, h2⟩ := stepL_again ih l _ (fun b hb => ha b (by simp [hb])) hf hM hm
    obtain ⟨t, ht⟩ := hM
    obtain ⟨w, hw⟩ := g.pre
    have := ih a r.2 (ha a (by simp)).1 (ha a (by simp)).2 u ⟨w ++ t, by rw [ht, hw, List.append_assoc]⟩ (by have := g.len; dsimp only at this ⊢; omega)
    refine ⟨(treeM v nodes n a r.2).1 :: l', by rw [h1, List.append_assoc]; rfl, ?_⟩
    rw [stepL, this]
    exact h2
theorem treeM_again {M : List Nd} (hn : ∀ i (h : i < nodes.length), nodes[i].Fits ((v : Int) + i)) : ∀ (n : Nat), n ≤ nodes.length → ∀ (m : Nat) (a : Int) (s : MS), 0 ≤ a → a < v + n → (treeM v nodes n a s).2.full = false → (∃ t, M = (treeM v nodes n a s).2.ns ++ t) → (treeM v nodes n a s).2.ns.length ≤ m → treeM v M m (treeM v nodes n a s).1 s = treeM v nodes n a s := by
  intro n
  induction n with
  | zero =>
    intro _ m a s h0 h1 hf hM hm
    show treeM v M m a s = (a, s)
    exact treeM_early (.inl (by omega))
  | succ n ih =>
    intro hN m a s h0 h1 hf hM hm
    by_cases hav : a < v
    · rw [treeM_early (.inl hav)]
      exact treeM_early (.inl hav)
    · have gs := treeM_gr (v := v) (nodes := nodes) (n + 1) a s
      have us := gs.off hf
      obtain ⟨i, rfl⟩ : ∃ i : Nat, a = v + i := ⟨(a - v).toNat, by omega⟩
      have hin : i < nodes.length := by omega
      rw [treeM_big hin us] at hf hM hm ⊢
      have hd := hn i hin
      obtain ⟨e1, e2, e3⟩ := addM_off hf
      rw [e1] at hM hm ⊢
      simp only [List.length_append, List.length_singleton] at hm
      obtain ⟨m, rfl⟩ : ∃ m', m = m' + 1 := ⟨m - 1, by omega⟩
      obtain ⟨t, ht⟩ := hM
      dsimp only at ht ⊢
      obtain ⟨l', h1, h2⟩ := stepL_again (M := M) (m := m) (fun a s b1 b2 b3 b4 b5 => ih (by omega) m a s b1 b2 b3 b4 b5) nodes[i].args ([], s) (fun a ha => by have := hd.args a ha; omega) e2 ⟨[⟨nodes[i].kind, nodes[i].k, (stepL (treeM v nodes n) nodes[i].args ([], s)).1⟩] ++ t, by rw [ht, List.append_assoc]⟩ (by omega)
      rw [List.nil_append] at h1
      obtain ⟨R, hR⟩ : ∃ R, stepL (treeM v nodes n) nodes[i].args ([], s) = R := ⟨_, rfl⟩
      rw [hR] at h1 h2 ht e1 e2 e3 ⊢
      have hML : R.2.ns.length < M.length := by rw [ht]; simp
      have hMi : M[R.2.ns.length] = ⟨nodes[i].kind, nodes[i].k, R.1⟩ := by
        subst ht
        rw [List.getElem_append_left (by simp), List.getElem_append_right (Nat.le_refl _)]
        simp
      rw [treeM_big hML us, hMi]
      dsimp only
      rw [h1, h2]
      rw [← h1]
      exact e1
def occ (ns : List Nd) (j : Int) : Nat := (ns.flatMap (·.args)).count j
theorem occ_append (l m : List Nd) (j : Int) : occ (l ++ m) j = occ l j + occ m j := by unfold occ; rw [List.flatMap_append, List.count_append]
theorem occ_one (d : Nd) (j : Int) : occ [d] j = d.args.count j := by unfold occ; simp
def oneIf (p : Prop) [Decidable p] : Nat := if p then 1 else 0
theorem count_snoc (l : List Int) (a j : Int) : (l ++ [a]).count j = l.count j + oneIf (a = j) := by
  rw [List.count_append, List.count_singleton]
  unfold oneIf
  by_cases h : a = j <;> simp [h]
theorem stepL_occ {n : Nat} (ih : ∀ (a : Int) (s : MS), 0 ≤ a → a < v + n → (treeM v nodes n a s).2.full = false → ∃ l, (treeM v nodes n a s).2.ns = s.ns ++ l ∧ ∀ j : Nat, occ l (v + j) + oneIf ((treeM v nodes n a s).1 = v + j) = oneIf (s.ns.length ≤ j ∧ j < (treeM v nodes n a s).2.ns.length)) {s0 : MS} :
    ∀ (l : List Int) (r : List Int × MS), (∀ a ∈ l, 0 ≤ a ∧ a < v + n) → (∃ l', r.2.ns = s0.ns ++ l' ∧ ∀ j : Nat, occ l' (v + j) + r.1.count ((v : Int) + j) = oneIf (s0.ns.length ≤ j ∧ j < r.2.ns.length)) → (stepL (treeM v nodes n) l r).2.full = false →
    ∃ l', (stepL (treeM v nodes n) l r).2.ns = s0.ns ++ l' ∧ ∀ j : Nat, occ l' (v + j) + (stepL (treeM v nodes n) l r).1.count ((v : Int) + j) = oneIf (s0.ns.length ≤ j ∧ j < (stepL (treeM v nodes n) l r).2.ns.length)
  | [], r, _, h, hf => h
  | a :: l, r, ha, h, hf => by
    rw [stepL] at hf ⊢
    have g := stepL_gr (fun a s => treeM_gr (v := v) (nodes := nodes) n a s) l (r.1 ++ [(treeM v nodes n a r.2).1], (treeM v nodes n a r.2).2)
    have u := g.off hf
    refine stepL_occ ih l _ (fun b hb => ha b (by simp [hb])) ?_ hf
    obtain ⟨l1, h1, h2⟩ := h
    obtain ⟨l2, h3, h4⟩ := ih a r.2 (ha a (by simp)).1 (ha a (by simp)).2 u
    refine ⟨l1 ++ l2, by rw [h3, h1, List.append_assoc], fun j => ?_⟩
    have q1 := h2 j
    have q2 := h4 j
    dsimp only
    rw [occ_append, count_snoc]
    have g1 : s0.ns.length ≤ r.2.ns.length := by rw [h1]; simp
    have g2 : r.2.ns.length ≤ (treeM v nodes n a r.2).2.ns.length := by rw [h3]; simp
    unfold oneIf at q1 q2 ⊢
    (repeat' split at q1) <;> (repeat' split at q2) <;> (repeat' split) <;> omega
theorem treeM_occ (hn : ∀ i (h : i < nodes.length), nodes[i].Fits ((v : Int) + i)) : ∀ (n : Nat), n ≤ nodes.length → ∀ (a : Int) (s : MS), 0 ≤ a → a < v + n → (treeM v nodes n a s).2.full = false → ∃ l, (treeM v nodes n a s).2.ns = s.ns ++ l ∧ ∀ j : Nat, occ l (v + j) + oneIf ((treeM v nodes n a s).1 = v + j) = oneIf (s.ns.length ≤ j ∧ j < (treeM v nodes n a s).2.ns.length) := by
  have early : ∀ (a : Int) (s : MS), a < v → ∃ l, s.ns = s.ns ++ l ∧ ∀ j : Nat, occ l (v + j) + oneIf (a = v + j) = oneIf (s.ns.length ≤ j ∧ j < s.ns.length) := by
    intro a s hav
    refine ⟨[], by simp, fun j => ?_⟩
    have e1 : occ [] ((v : Int) + j) = 0 := rfl
    rw [e1]
    unfold oneIf
    rw [if_neg (by omega), if_neg (by omega)]
  intro n
  induction n with
  | zero => intro _ a s h0 h1 hf; exact early a s (by omega)
  | succ n ih =>
    intro hN a s h0 h1 hf
    by_cases hav : a < v
    · rw [treeM_early (.inl hav)]; exact early a s hav
    · have gs := treeM_gr (v := v) (nodes := nodes) (n + 1) a s
      have us := gs.off hf
      obtain ⟨i, rfl⟩ : ∃ i : Nat, a = v + i := ⟨(a - v).toNat, by omega⟩
      have hin : i < nodes.length := by omega
      rw [treeM_big hin us] at hf ⊢
      have hd := hn i hin
      obtain ⟨e1, e2, e3⟩ := addM_off hf
      obtain ⟨l', h1, h2⟩ := stepL_occ (fun a s b1 b2 b3 => ih (by omega) a s b1 b2 b3) (s0 := s) nodes[i].args ([], s) (fun a ha => by have := hd.args a ha; omega) ⟨[], by simp, fun j => by
        have e1 : occ [] ((v : Int) + j) = 0 := rfl
        rw [e1]
        unfold oneIf
        rw [if_neg (by dsimp only; omega)]
        simp⟩ e2
      obtain ⟨R, hR⟩ : ∃ R, stepL (treeM v nodes n) nodes[i].args ([], s) = R := ⟨_, rfl⟩
      rw [hR] at h1 h2 e1 ⊢
      rw [e1]
      refine ⟨l' ++ [⟨nodes[i].kind, nodes[i].k, R.1⟩], by dsimp only; rw [h1, List.append_assoc], fun j => ?_⟩
      have q := h2 j
      rw [occ_append, occ_one]
      dsimp only
      have g1 : s.ns.length ≤ R.2.ns.length := by rw [h1]; simp
      rw [List.length_append, List.length_singleton]
      unfold oneIf at q ⊢
      (repeat' split at q) <;> (repeat' split) <;> omega
end
section
variable {F : Fm}
theorem treeE_cases (hg : F.Good) : (F.treeE = none ∧ F.treeR.2.full = false ∧ F.treeF = ⟨F.vars, F.treeR.2.ns, F.treeR.1⟩) ∨ (F.treeE = some 4 ∧ F.treeF = Fm.zero) := by
  have he := (Fm.good_iff F).2 hg
  unfold Fm.treeE Fm.treeF
  rw [he]
  dsimp only
  unfold resE resF
  cases F.treeR.2.full with
  | true => exact .inr ⟨rfl, rfl⟩
  | false => exact .inl ⟨rfl, rfl, rfl⟩
theorem treeE_err {e : Int} (h : F.err = some e) : F.treeE = some e ∧ F.treeF = Fm.zero := by
  unfold Fm.treeE Fm.treeF
  rw [h]
  exact ⟨rfl, rfl⟩
theorem treeM_len {v : Nat} {nodes : List Nd} : ∀ (n : Nat) (a : Int) (s : MS), s.Ok → (treeM v nodes n a s).2.Ok := fun n a s h => (treeM_gr n a s).ok h
theorem treeF_law (hg : F.Good) (h : F.treeE = none) : F.treeF.Good ∧ (∀ z, F.treeF.value z = F.value z) ∧ F.treeF.treeE = none ∧ F.treeF.treeF = F.treeF ∧
    (∀ j : Nat, occ F.treeF.nodes (F.vars + j) + oneIf (F.treeF.top = F.vars + j) = oneIf (j < F.treeF.nodes.length)) ∧ (F.top < F.vars → F.treeF.nodes = [] ∧ F.treeF.top = F.top) ∧ (¬ F.top < F.vars → F.treeF.top = F.vars + F.treeF.nodes.length - 1 ∧ 0 < F.treeF.nodes.length) := by
  have g0 := hg.v0; have g1 := hg.v1; have gt := hg.topLt
  obtain ⟨v, hv⟩ := Int.eq_ofNat_of_zero_le g0
  have hvn : F.vars.toNat = v := by omega
  have hn := hg.nodes hv
  rcases treeE_cases hg with ⟨h1, hf, h3⟩ | ⟨h1, _⟩
  · have hRd : F.treeR = treeM v F.nodes F.nodes.length F.top ⟨[], false⟩ := by unfold Fm.treeR; rw [hvn]
    have A := fun z => treeM_all (x := z) hg hv F.nodes.length (Nat.le_refl _) F.top ⟨[], false⟩ gt.1 (by omega) NF.nil (by rw [← hRd]; exact hf)
    have O := treeM_len (v := v) (nodes := F.nodes) F.nodes.length F.top ⟨[], false⟩ (by show (0 : Nat) ≤ 128; decide)
    have B := fun M t m => treeM_again (M := M) hn F.nodes.length (Nat.le_refl _) m F.top ⟨[], false⟩ gt.1 (by omega) (by rw [← hRd]; exact hf) t
    obtain ⟨l, C1, C2⟩ := treeM_occ hn F.nodes.length (Nat.le_refl _) F.top ⟨[], false⟩ gt.1 (by omega) (by rw [← hRd]; exact hf)
    rw [← hRd] at A O B C1 C2
    rw [h3]
    have hG : (⟨F.vars, F.treeR.2.ns, F.treeR.1⟩ : Fm).Good := by
      refine Fm.Fit.good ⟨g0, g1, ?_, ?_⟩ O
      · show ∀ i (h : i < F.treeR.2.ns.length), F.treeR.2.ns[i].Fits (F.vars + i)
        rw [hv]; exact (A 0).nf
      · have := (A 0).inr
        show 0 ≤ F.treeR.1 ∧ F.treeR.1 < F.vars + (F.treeR.2.ns.length : Nat)
        rw [hv]
        exact this
    have hG2 : (⟨F.vars, F.treeR.2.ns, F.treeR.1⟩ : Fm).treeR = F.treeR := by
      have : (⟨F.vars, F.treeR.2.ns, F.treeR.1⟩ : Fm).treeR = treeM v F.treeR.2.ns F.treeR.2.ns.length F.treeR.1 ⟨[], false⟩ := by
        show treeM F.vars.toNat _ _ _ _ = _
        rw [hvn]
      rw [this]
      exact B F.treeR.2.ns ⟨[], by simp⟩ F.treeR.2.ns.length (Nat.le_refl _)
    have hGe := (Fm.good_iff _).2 hG
    refine ⟨hG, fun z => ?_, ?_, ?_, fun j => ?_, fun hlt => ?_, fun hge => ?_⟩
    · rw [Fm.value_eq, Fm.value_eq, ← (A z).val]
      unfold Fm.val Fm.values VB
      dsimp only
      rw [hvn]
    · unfold Fm.treeE
      rw [hGe, hG2]
      unfold resE
      rw [hf]
      rfl
    · unfold Fm.treeF
      rw [hGe, hG2]
      unfold resF
      rw [hf]
      rfl
    · rw [C1]
      have := C2 j
      rw [hv]
      rw [C1] at this
      simpa using this
    · have : F.treeR = (F.top, ⟨[], false⟩) := by rw [hRd]; exact treeM_early (.inl (by omega))
      rw [this]
      exact ⟨rfl, rfl⟩
    · obtain ⟨i, hi⟩ : ∃ i : Nat, F.top = v + i := ⟨(F.top - v).toNat, by omega⟩
      have hin : i < F.nodes.length := by omega
      obtain ⟨n, hN⟩ : ∃ n, F.nodes.length = n + 1 := ⟨F.nodes.length - 1, by omega⟩
      rw [hN, hi, treeM_big hin rfl] at hRd
      rw [hRd] at hf
      obtain ⟨e1, _, _⟩ := addM_off hf
      rw [e1] at hRd
      rw [hRd]
      dsimp only
      rw [List.length_append, List.length_singleton]
      exact ⟨by omega, by omega⟩
  · rw [h1] at h; cases h
theorem treeF_ok : F.treeF.ok := by
  cases he : F.err with
  | some e => rw [(treeE_err he).2]; exact zero_ok
  | none =>
    have hg := (Fm.good_iff F).1 he
    rcases treeE_cases hg with ⟨h1, _, _⟩ | ⟨_, h2⟩
    · exact (treeF_law hg h1).1.ok
    · rw [h2]; exact zero_ok
end
theorem treeE_pos {F : Fm} {e : Int} (h : F.treeE = some e) : e ≠ 0 := by
  cases he : F.err with
  | some e' =>
    rw [(treeE_err he).1] at h
    cases h
    rintro rfl
    rw [err_getD (by rw [he]; rfl)] at he
    cases he
  | none =>
    rcases treeE_cases ((Fm.good_iff F).1 he) with ⟨h1, _⟩ | ⟨h1, _⟩
    · rw [h1] at h; cases h
    · rw [h1] at h; cases h; decide
theorem treeE_getD {F : Fm} (h : F.treeE.getD 0 = 0) : F.treeE = none := by
  cases he : F.treeE with
  | none => rfl
  | some e => rw [he] at h; exact absurd h (treeE_pos he)
end Go.GL
namespace Go.GL
set_option linter.unusedVariables false
set_option linter.unusedSimpArgs false
def Plain1 (what : Nat) (d : Nd) : Prop := specB what d.kind = true → 2 ≤ what ∧ d.args.length = 2
theorem trI_ev {m : Nat} {l : List Int} (h : ∀ a ∈ l, 0 ≤ a ∧ a < m) : trI (evI m) l = l := by
  unfold trI
  conv => rhs; rw [← List.map_id l]
  refine List.map_congr_left fun a ha => ?_
  have := h a ha
  rw [evI_getD (by omega)]
  show ((a.toNat : Nat) : Int) = a
  omega
theorem nodeM_plain {what v : Nat} {d : Nd} {s : MS} (hw : whatE what) (hp : Plain1 what d) (hd : d.Fits ((v : Int) + s.ns.length)) : nodeM what v d s = addM v d s := by
  unfold nodeM
  split
  · rename_i hB
    obtain ⟨h2, hl⟩ := hp hB
    obtain rfl : what = 2 := by rcases hw with h | h | h <;> omega
    have hk : d.kind = 2 ∨ d.kind = 3 := by simpa [specB] using hB
    have hk0 := hd.kk.2.2 (by omega) (by omega)
    obtain ⟨k, kk, args⟩ := d
    match args, hl with
    | [a, b], _ =>
      dsimp only at hk0
      subst hk0
      rfl
  · rfl
theorem mapS_plain {what v : Nat} {nodes : List Nd} (hw : whatE what) (hn : ∀ i (h : i < nodes.length), nodes[i].Fits ((v : Int) + i)) (hl : nodes.length ≤ 128) (hp : ∀ d ∈ nodes, Plain1 what d) : ∀ k, k ≤ nodes.length → mapS what v nodes k = (evI (v + k), ⟨nodes.take k, false⟩)
  | 0, _ => rfl
  | k + 1, hk => by
    have hkn : k < nodes.length := by omega
    have hgd : nodes.getD k ⟨0, 0, []⟩ = nodes[k] := by simp [List.getD_eq_getElem?_getD, hkn]
    rw [mapS, mapS_plain hw hn hl hp k (by omega)]
    dsimp only
    have hd := hn k hkn
    have ht : trD (evI (v + k)) nodes[k] = nodes[k] := by
      unfold trD
      rw [trI_ev (fun a ha => by have := hd.args a ha; omega)]
    have htl : (nodes.take k).length = k := by rw [List.length_take]; omega
    rw [hgd, ht, nodeM_plain hw (hp _ (List.getElem_mem hkn)) (by dsimp only; rw [htl]; exact hd)]
    unfold addM
    dsimp only
    rw [htl, if_neg (by omega), show v + (k + 1) = (v + k) + 1 by omega, evI_succ, List.take_succ_eq_append_getElem hkn]
    rw [show ((v : Int) + k) = ((v + k : Nat) : Int) by omega]
theorem exp_plain {F : Fm} {what : Nat} (hw : whatE what) (hg : F.Good) (hp : ∀ d ∈ F.nodes, Plain1 what d) : F.expF what = F ∧ F.expE what = none := by
  have g0 := hg.v0; have gt := hg.topLt
  obtain ⟨v, hv⟩ := Int.eq_ofNat_of_zero_le g0
  have hvn : F.vars.toNat = v := by omega
  have he := (Fm.good_iff F).2 hg
  have hS : F.expS what = (evI (v + F.nodes.length), ⟨F.nodes, false⟩) := by
    unfold Fm.expS
    rw [hvn, mapS_plain hw (hg.nodes hv) hg.n1 hp _ (Nat.le_refl _), List.take_length]
  unfold Fm.expF Fm.expE
  rw [he, hS]
  unfold resF resE
  refine ⟨?_, rfl⟩
  dsimp only
  rw [evI_getD (by omega)]
  rw [if_neg (by decide)]
  obtain ⟨a, b, c⟩ := F
  dsimp only at *
  congr 1
  omega
def cK (c : Int) (ns : List Nd) : Nat := ns.countP (fun d => decide (d.kind = c))
theorem cK_snoc (c : Int) (ns : List Nd) (d : Nd) : cK c (ns ++ [d]) = cK c ns + oneIf (d.kind = c) := by
  unfold cK oneIf
  rw [List.countP_append, List.countP_singleton]
  simp
theorem cK_zero {c : Int} {ns : List Nd} : cK c ns = 0 ↔ ∀ d ∈ ns, d.kind ≠ c := by
  unfold cK
  rw [List.countP_eq_zero]
  simp
section
variable {v c : Int}
theorem addM_cK {d : Nd} {s : MS} (h : d.kind ≠ c) : cK c (addM v d s).2.ns = cK c s.ns := by
  unfold addM
  split
  · rfl
  · dsimp only; rw [cK_snoc]; unfold oneIf; rw [if_neg h]; rfl
theorem gateM_cK {k : Int} {l : List Int} {s : MS} (h : k ≠ c) : cK c (gateM v k l s).2.ns = cK c s.ns := by
  unfold gateM
  split
  · rfl
  · exact addM_cK h
theorem leastM_cK {args : List Int} (h2 : (2 : Int) ≠ c) (h3 : (3 : Int) ≠ c) : ∀ (n : Nat) (k : Int) (m : Made) (s : MS), cK c (leastM v args n k m s).2.2.ns = cK c s.ns
  | 0, _, _, _ => rfl
  | n + 1, k, m, s => by
    unfold leastM
    split
    · rfl
    · split
      · rfl
      · split
        · exact gateM_cK h3
        · split
          · exact gateM_cK h2
          · dsimp only
            rw [addM_cK h3, leastM_cK h2 h3 n, addM_cK h2, leastM_cK h2 h3 n]
theorem chainX_cK {f : Int → Int × MS → Int × MS} (hf : ∀ y r, cK c (f y r).2.ns = cK c r.2.ns) : ∀ (l : List Int) (r : Int × MS), cK c (chainX f l r).2.ns = cK c r.2.ns
  | [], r => rfl
  | y :: l, r => (chainX_cK hf l (f y r)).trans (hf y r)
theorem xor1_cK {y : Int} {r : Int × MS} (h1 : (1 : Int) ≠ c) (h2 : (2 : Int) ≠ c) (h3 : (3 : Int) ≠ c) : cK c (xor1 v y r).2.ns = cK c r.2.ns := by
  unfold xor1
  dsimp only
  rw [addM_cK h3, addM_cK h2, addM_cK h1, addM_cK h2, addM_cK h1]
def Away (what : Nat) (c : Int) : Prop := match what with | 0 => c ≠ 2 ∧ c ≠ 3 | 1 => c ≠ 1 ∧ c ≠ 2 ∧ c ≠ 3 | _ => c ≠ 2 ∧ c ≠ 3
theorem nodeM_cK {what : Nat} {d : Nd} {s : MS} (ha : Away what c) (hf : (nodeM what v d s).2.full = false) : cK c (nodeM what v d s).2.ns = cK c s.ns + oneIf (d.kind = c ∧ specB what d.kind = false) := by
  unfold nodeM at hf ⊢
  split
  · rename_i hB
    have e : oneIf (d.kind = c ∧ specB what d.kind = false) = 0 := by unfold oneIf; rw [if_neg (by rw [hB]; simp)]
    rw [e, Nat.add_zero]
    unfold specM
    match what, ha with
    | 0, ha => exact leastM_cK (fun e => ha.1 e.symm) (fun e => ha.2 e.symm) _ _ _ _
    | 1, ha => exact chainX_cK (fun y r => xor1_cK (fun e => ha.1 e.symm) (fun e => ha.2.1 e.symm) (fun e => ha.2.2 e.symm)) _ _
    | w + 2, ha =>
      have hk : d.kind = 2 ∨ d.kind = 3 := by simpa [specB] using hB
      exact chainX_cK (f := fun y r => addM v ⟨d.kind, 0, [r.1, y]⟩ r.2) (fun y r => addM_cK (by dsimp only; intro e; rw [← e] at ha; rcases hk with h | h; exact ha.1 h; exact ha.2 h)) _ _
  · rename_i hB
    rw [if_neg hB] at hf
    obtain ⟨e1, _, _⟩ := addM_off hf
    rw [e1]
    dsimp only
    rw [cK_snoc]
    congr 1
    unfold oneIf
    have : specB what d.kind = false := by simpa using hB
    rw [this]
    simp
end
theorem mapS_cK {what v : Nat} {c : Int} {nodes : List Nd} (ha : Away what c) : ∀ k, k ≤ nodes.length → (∀ j, k ≤ j → True) → (mapS what v nodes k).2.full = false → (∀ k, k ≤ nodes.length → MS.Gr (mapS what v nodes k).2 (mapS what v nodes nodes.length).2) → (mapS what v nodes nodes.length).2.full = false →
    cK c (mapS what v nodes k).2.ns = (if specB what c = true then 0 else cK c (nodes.take k))
  | 0, _, _, _, _, _ => by simp [mapS, cK]
  | k + 1, hk, _, hf, hgr, hfu => by
    have hkn : k < nodes.length := by omega
    have ih := mapS_cK (what := what) (v := v) ha k (by omega) (fun _ _ => trivial) ((hgr k (by omega)).off hfu) hgr hfu
    have hgd : nodes.getD k ⟨0, 0, []⟩ = nodes[k] := by simp [List.getD_eq_getElem?_getD, hkn]
    rw [mapS] at hf ⊢
    dsimp only at hf ⊢
    rw [nodeM_cK ha hf, ih, hgd, List.take_succ_eq_append_getElem hkn, cK_snoc]
    have : (trD (mapS what v nodes k).1 nodes[k]).kind = nodes[k].kind := rfl
    rw [this]
    unfold oneIf
    cases hs : specB what c with
    | true =>
      have hx : ¬ (nodes[k].kind = c ∧ specB what nodes[k].kind = false) := by
        rintro ⟨rfl, h⟩
        rw [hs] at h
        cases h
      rw [if_neg hx]
      simp
    | false =>
      by_cases hc : nodes[k].kind = c
      · rw [if_pos (show nodes[k].kind = c ∧ specB what nodes[k].kind = false from ⟨hc, by rw [hc]; exact hs⟩)]
        simp [hc]
      · rw [if_neg (show ¬ (nodes[k].kind = c ∧ specB what nodes[k].kind = false) from fun h => hc h.1)]
        simp [hc]
section
variable {F : Fm}
theorem expE_cases (hg : F.Good) (what : Nat) : (F.expE what = none ∧ (F.expS what).2.full = false ∧ (F.expF what).nodes = (F.expS what).2.ns) ∨ (F.expE what = some 4 ∧ F.expF what = Fm.zero) := by
  have he := (Fm.good_iff F).2 hg
  unfold Fm.expE Fm.expF
  rw [he]
  dsimp only
  unfold resE resF
  cases (F.expS what).2.full with
  | true => exact .inr ⟨rfl, rfl⟩
  | false => exact .inl ⟨rfl, rfl, rfl⟩
theorem expF_cK {c : Int} (hg : F.Good) {what : Nat} (h : F.expE what = none) (ha : Away what c) : cK c (F.expF what).nodes = if specB what c = true then 0 else cK c F.nodes := by
  rcases expE_cases hg what with ⟨_, h2, h3⟩ | ⟨h1, _⟩
  · have g0 := hg.v0; have g1 := hg.v1
    obtain ⟨v, hv⟩ := Int.eq_ofNat_of_zero_le g0
    have hvn : F.vars.toNat = v := by omega
    have hn := hg.nodes hv
    rw [h3]
    unfold Fm.expS at h2 ⊢
    rw [hvn] at h2 ⊢
    have := mapS_cK (what := what) (v := v) (c := c) (nodes := F.nodes) ha F.nodes.length (Nat.le_refl _) (fun _ _ => trivial) h2 (fun k hk => by
      have := mapS_gr (what := what) (show v ≤ 24 by omega) hn (k := k) (F.nodes.length - k) (by omega)
      rwa [show k + (F.nodes.length - k) = F.nodes.length by omega] at this) h2
    rw [this, List.take_length]
  · rw [h1] at h; cases h
def Bin2 (ns : List Nd) : Prop := ∀ d ∈ ns, d.kind = 2 ∨ d.kind = 3 → d.args.length = 2
theorem addM_bin {v : Int} {d : Nd} {s : MS} (h : Bin2 s.ns) (hd : d.kind = 2 ∨ d.kind = 3 → d.args.length = 2) : Bin2 (addM v d s).2.ns := by
  unfold addM
  split
  · exact h
  · intro x hx
    rcases List.mem_append.1 hx with hx | hx
    · exact h x hx
    · obtain rfl := List.mem_singleton.1 hx; exact hd
theorem chainX_bin {k v : Int} : ∀ (l : List Int) (r : Int × MS), Bin2 r.2.ns → Bin2 (chainX (fun y r => addM v ⟨k, 0, [r.1, y]⟩ r.2) l r).2.ns
  | [], r, h => h
  | y :: l, r, h => chainX_bin l _ (addM_bin h fun _ => rfl)
theorem mapS_bin {v : Nat} {nodes : List Nd} : ∀ k, Bin2 (mapS 2 v nodes k).2.ns
  | 0 => fun d hd => by simp [mapS] at hd
  | k + 1 => by
    rw [mapS]
    dsimp only
    unfold nodeM
    split
    · exact chainX_bin _ _ (mapS_bin k)
    · rename_i hB
      refine addM_bin (mapS_bin k) fun hk => ?_
      exact absurd (by simpa [specB] using hk) hB
theorem bin_law (hg : F.Good) (h : F.expE 2 = none) : Bin2 (F.expF 2).nodes := by
  rcases expE_cases hg 2 with ⟨_, h2, h3⟩ | ⟨h1, _⟩
  · rw [h3]; exact mapS_bin _
  · rw [h1] at h; cases h
theorem plain_good (h : F.plainE = none) : F.Good ∧ F.expE 0 = none ∧ (F.expF 0).Good ∧ (F.expF 0).expE 1 = none ∧ F.plainF = (F.expF 0).expF 1 ∧ F.plainF.Good := by
  obtain ⟨_, _, h0, h1⟩ := plain_val h 0
  have he : F.err = none := by
    unfold Fm.expE at h0
    cases h2 : F.err with
    | none => rfl
    | some e => rw [h2] at h0; cases h0
  have e : F.plainF = (F.expF 0).expF 1 := by unfold Fm.plainF; rw [h0]
  exact ⟨(Fm.good_iff F).1 he, h0, expF_good h0, h1, e, by rw [e]; exact expF_good h1⟩
theorem plain_kinds (h : F.plainE = none) : cK 4 F.plainF.nodes = 0 ∧ cK 5 F.plainF.nodes = 0 := by
  obtain ⟨hg, h0, hg1, h1, e, hg2⟩ := plain_good h
  have a4 := expF_cK (c := 4) hg h0 (show (4 : Int) ≠ 2 ∧ (4 : Int) ≠ 3 by decide)
  have b4 := expF_cK (c := 4) hg1 h1 (show (4 : Int) ≠ 1 ∧ (4 : Int) ≠ 2 ∧ (4 : Int) ≠ 3 by decide)
  have b5 := expF_cK (c := 5) hg1 h1 (show (5 : Int) ≠ 1 ∧ (5 : Int) ≠ 2 ∧ (5 : Int) ≠ 3 by decide)
  rw [e]
  rw [if_pos (by decide)] at a4 b5
  rw [if_neg (by decide)] at b4
  exact ⟨by rw [b4, a4], b5⟩
theorem plain_again (h : F.plainE = none) : F.plainF.plainF = F.plainF ∧ F.plainF.plainE = none := by
  obtain ⟨k4, k5⟩ := plain_kinds h
  obtain ⟨_, _, _, _, _, hg⟩ := plain_good h
  obtain ⟨e0, f0⟩ := exp_plain (what := 0) (.inl rfl) hg (fun d hd hB => absurd (by simpa [specB] using hB) (cK_zero.1 k4 d hd))
  obtain ⟨e1, f1⟩ := exp_plain (what := 1) (.inr (.inl rfl)) hg (fun d hd hB => absurd (by simpa [specB] using hB) (cK_zero.1 k5 d hd))
  constructor
  · have : ∀ G : Fm, G.expE 0 = none → G.plainF = (G.expF 0).expF 1 := fun G h => by unfold Fm.plainF; rw [h]
    rw [this _ f0, e0, e1]
  · have : ∀ G : Fm, G.expE 0 = none → G.plainE = (G.expF 0).expE 1 := fun G h => by unfold Fm.plainE; rw [h]
    rw [this _ f0, e0, f1]
theorem bin_again (hg : F.Good) (h : F.expE 2 = none) : (F.expF 2).expF 2 = F.expF 2 ∧ (F.expF 2).expE 2 = none :=
  exp_plain (what := 2) (.inr (.inr rfl)) (expF_good h) (fun d hd hB => ⟨Nat.le_refl 2, bin_law hg h d hd (by simpa [specB] using hB)⟩)
theorem plainE_cases (hg : F.Good) : F.plainE = none ∨ (F.plainE = some 4 ∧ F.plainF = Fm.zero) := by
  unfold Fm.plainE Fm.plainF
  rcases expE_cases hg 0 with ⟨h, _, _⟩ | ⟨h, _⟩
  · rw [h]
    dsimp only
    rcases expE_cases (expF_good h) 1 with ⟨h1, _, _⟩ | h1
    · exact .inl h1
    · exact .inr h1
  · rw [h]; exact .inr ⟨rfl, rfl⟩
theorem treeE_full (hg : F.Good) (h : F.treeR.2.full = true) : F.treeE = some 4 ∧ F.treeF = Fm.zero := by
  rcases treeE_cases hg with ⟨_, hf, _⟩ | h1
  · rw [hf] at h; cases h
  · exact h1
theorem treeE_open (hg : F.Good) (h : F.treeR.2.full = false) : F.treeE = none ∧ F.treeF = ⟨F.vars, F.treeR.2.ns, F.treeR.1⟩ := by
  have he := (Fm.good_iff F).2 hg
  unfold Fm.treeE Fm.treeF
  rw [he]
  dsimp only
  unfold resE resF
  rw [h]
  exact ⟨rfl, rfl⟩
end
end Go.GL
namespace Go.GL
set_option linter.unusedVariables false
set_option linter.unusedSimpArgs false
def kL (ns : List Nd) : List Value := [.int .i64 (cK 0 ns), .int .i64 (cK 1 ns), .int .i64 (cK 2 ns), .int .i64 (cK 3 ns), .int .i64 (cK 4 ns), .int .i64 (cK 5 ns)]
theorem six {c : Int} (h0 : 0 ≤ c) (h1 : c < 6) : c = 0 ∨ c = 1 ∨ c = 2 ∨ c = 3 ∨ c = 4 ∨ c = 5 := by omega
theorem kL_get {c : Int} {ns : List Nd} (h0 : 0 ≤ c) (h1 : c < 6) : (kL ns)[c.toNat]? = some (.int .i64 (cK c ns)) := by
  rcases six h0 h1 with rfl | rfl | rfl | rfl | rfl | rfl <;> rfl
theorem kL_hit {ns : List Nd} {d : Nd} (h0 : 0 ≤ d.kind) (h1 : d.kind < 6) : (kL ns).set d.kind.toNat (.int .i64 ((cK d.kind ns : Nat) + 1)) = kL (ns ++ [d]) := by
  rcases six h0 h1 with h | h | h | h | h | h <;> rw [h] <;> simp [kL, cK_snoc, oneIf, h]
theorem kL_miss {ns : List Nd} {d : Nd} (h : ¬ (0 ≤ d.kind ∧ d.kind < 6)) : kL ns = kL (ns ++ [d]) := by
  have e : ∀ c : Int, 0 ≤ c → c < 6 → cK c (ns ++ [d]) = cK c ns := fun c h0 h1 => by
    rw [cK_snoc]; unfold oneIf; rw [if_neg (by intro e; exact h (by omega))]
    rfl
  unfold kL
  rw [e 0 (by decide) (by decide), e 1 (by decide) (by decide), e 2 (by decide) (by decide), e 3 (by decide) (by decide), e 4 (by decide) (by decide), e 5 (by decide) (by decide)]
theorem cK_le (c : Int) (ns : List Nd) : cK c ns ≤ ns.length := List.countP_le_length
theorem expE_four {F : Fm} (hg : F.Good) {what : Nat} (h : F.expE what ≠ none) : F.expE what = some 4 := by
  rcases expE_cases hg what with ⟨h1, _⟩ | ⟨h1, _⟩
  · exact absurd h1 h
  · exact h1
theorem plainE_four {F : Fm} (hg : F.Good) (h : F.plainE ≠ none) : F.plainE = some 4 := by
  rcases plainE_cases hg with h1 | ⟨h1, _⟩
  · exact absurd h1 h
  · exact h1
theorem treeE_four {F : Fm} (hg : F.Good) (h : F.treeE ≠ none) : F.treeE = some 4 := by
  rcases treeE_cases hg with ⟨h1, _⟩ | ⟨h1, _⟩
  · exact absurd h1 h
  · exact h1
theorem votes_kinds {F : Fm} (hg : F.Good) (h : F.expE 0 = none) : cK 4 (F.expF 0).nodes = 0 ∧ cK 5 (F.expF 0).nodes = cK 5 F.nodes ∧ cK 1 (F.expF 0).nodes = cK 1 F.nodes ∧ cK 0 (F.expF 0).nodes = cK 0 F.nodes := by
  have a := expF_cK (c := 4) hg h (show (4 : Int) ≠ 2 ∧ (4 : Int) ≠ 3 by decide)
  have b := expF_cK (c := 5) hg h (show (5 : Int) ≠ 2 ∧ (5 : Int) ≠ 3 by decide)
  have c := expF_cK (c := 1) hg h (show (1 : Int) ≠ 2 ∧ (1 : Int) ≠ 3 by decide)
  have d := expF_cK (c := 0) hg h (show (0 : Int) ≠ 2 ∧ (0 : Int) ≠ 3 by decide)
  rw [if_pos (by decide)] at a
  rw [if_neg (by decide)] at b c d
  exact ⟨a, b, c, d⟩
theorem xors_kinds {F : Fm} (hg : F.Good) (h : F.expE 1 = none) : cK 5 (F.expF 1).nodes = 0 ∧ cK 4 (F.expF 1).nodes = cK 4 F.nodes ∧ cK 0 (F.expF 1).nodes = cK 0 F.nodes := by
  have a := expF_cK (c := 5) hg h (show (5 : Int) ≠ 1 ∧ (5 : Int) ≠ 2 ∧ (5 : Int) ≠ 3 by decide)
  have b := expF_cK (c := 4) hg h (show (4 : Int) ≠ 1 ∧ (4 : Int) ≠ 2 ∧ (4 : Int) ≠ 3 by decide)
  have d := expF_cK (c := 0) hg h (show (0 : Int) ≠ 1 ∧ (0 : Int) ≠ 2 ∧ (0 : Int) ≠ 3 by decide)
  rw [if_pos (by decide)] at a
  rw [if_neg (by decide)] at b d
  exact ⟨a, b, d⟩
end Go.GL
