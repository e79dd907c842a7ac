import Derived.Test.YtffghipagnjggaaGL85
namespace Go.GL
set_option linter.unusedVariables false
set_option linter.unusedSimpArgs false
theorem MS.Gr.len {r s : MS} (h : MS.Gr r s) : r.ns.length ≤ s.ns.length := by
  obtain ⟨l, hl⟩ := h.pre
  rw [hl]
  simp
structure FitR (v : Int) (s : MS) (r : Int × MS) : Prop where
  gr : MS.Gr s r.2
  nf : NF v r.2.ns
  inr : InR (v + r.2.ns.length) r.1
theorem FitR.trans {v : Int} {s : MS} {r q : Int × MS} (h : FitR v s r) (k : FitR v r.2 q) : FitR v s q := ⟨h.gr.trans k.gr, k.nf, k.inr⟩
theorem FitR.up {v : Int} {s : MS} {r : Int × MS} (h : FitR v s r) {a : Int} (ha : InR (v + s.ns.length) a) : InR (v + r.2.ns.length) a := ha.mono (by have := h.gr.len; omega)
theorem MS.Gr.up {v : Int} {s r : MS} (h : MS.Gr s r) {a : Int} (ha : InR (v + s.ns.length) a) : InR (v + r.ns.length) a := ha.mono (by have := h.len; omega)
theorem addM_fit {v : Int} (hv : 0 ≤ v) {d : Nd} {s : MS} (h : NF v s.ns) (hd : d.Fits (v + s.ns.length)) : FitR v s (addM v d s) := by
  refine ⟨addM_gr v d s, ?_, ?_⟩
  · unfold addM
    split
    · exact h
    · exact h.snoc hd
  · unfold addM
    split
    · exact ⟨Int.le_refl 0, by dsimp only; omega⟩
    · exact ⟨by dsimp only; omega, by dsimp only; simp; omega⟩
theorem add2_fit {v : Int} (hv : 0 ≤ v) {k a b : Int} {s : MS} (hk : k = 2 ∨ k = 3) (h : NF v s.ns) (ha : InR (v + s.ns.length) a) (hb : InR (v + s.ns.length) b) : FitR v s (addM v ⟨k, 0, [a, b]⟩ s) :=
  addM_fit hv h (Fits.mk2 hk (by simp) (by simp) (by intro x hx; simp at hx; rcases hx with rfl | rfl <;> assumption))
theorem gateM_fit {v : Int} (hv : 0 ≤ v) {k : Int} {l : List Int} {s : MS} (hk : k = 2 ∨ k = 3) (h : NF v s.ns) (h0 : l ≠ []) (h1 : l.length ≤ 16) (ha : ∀ a ∈ l, InR (v + s.ns.length) a) : FitR v s (gateM v k l s) := by
  unfold gateM
  split
  · refine ⟨MS.Gr.refl s, h, ?_⟩
    match l with
    | [] => exact absurd rfl h0
    | a :: _ => exact ha a (by simp)
  · exact addM_fit hv h (Fits.mk2 hk h0 h1 ha)
def MadeIn (m : Int) (q : Made) : Prop := ∀ p ∈ q, InR m p.2
theorem MadeIn.mono {m m' : Int} {q : Made} (h : MadeIn m q) (hm : m ≤ m') : MadeIn m' q := fun p hp => (h p hp).mono hm
theorem MadeIn.gr {v : Int} {s r : MS} {q : Made} (h : MadeIn (v + s.ns.length) q) (g : MS.Gr s r) : MadeIn (v + r.ns.length) q := h.mono (by have := g.len; omega)
theorem MadeIn.find {m : Int} {q : Made} (h : MadeIn m q) {k i x : Int} (hf : findM k i q = some x) : InR m x := h _ (findM_mem hf)
theorem MadeIn.snoc {m : Int} {q : Made} (h : MadeIn m q) {k i x : Int} (hx : InR m x) : MadeIn m (q ++ [((k, i), x)]) := by
  intro p hp
  rcases List.mem_append.1 hp with hp | hp
  · exact h p hp
  · obtain rfl := List.mem_singleton.1 hp
    exact hx
theorem leastM_fit {v : Int} (hv : 0 ≤ v) {args : List Int} (h16 : args.length ≤ 16) : ∀ (n : Nat), n ≤ args.length → ∀ (k : Int) (m : Made) (s : MS), 1 ≤ k → k ≤ n → (∀ a ∈ args, InR (v + s.ns.length) a) → NF v s.ns → MadeIn (v + s.ns.length) m →
    FitR v s ((leastM v args n k m s).1, (leastM v args n k m s).2.2) ∧ MadeIn (v + (leastM v args n k m s).2.2.ns.length) (leastM v args n k m s).2.1
  | 0, hn, k, m, s, hk, hk2, ha, h, hm => by omega
  | n + 1, hn, k, m, s, hk, hk2, ha, h, hm => by
    have hi : args.length - (n + 1) < args.length := by omega
    have hdn : args.drop (args.length - (n + 1)) ≠ [] := by
      intro e
      have := congrArg List.length e
      rw [List.length_drop] at this
      simp at this
      omega
    have hdl : (args.drop (args.length - (n + 1))).length ≤ 16 := by rw [List.length_drop]; omega
    have hda : ∀ a ∈ args.drop (args.length - (n + 1)), InR (v + s.ns.length) a := fun a h => ha a (List.mem_of_mem_drop h)
    have h0 : s.full = true → InR (v + s.ns.length) 0 ∨ True := fun _ => .inr trivial
    cases hf : findM k ((args.length - (n + 1) : Nat) : Int) m with
    | some x =>
      rw [leastM_early rfl (.inl (by rw [hf]; simp)), hf]
      exact ⟨⟨MS.Gr.refl s, h, hm.find hf⟩, hm⟩
    | none =>
      cases hu : s.full with
      | true =>
        rw [leastM_early rfl (.inr hu), hf]
        refine ⟨⟨MS.Gr.refl s, h, ⟨Int.le_refl 0, ?_⟩⟩, hm⟩
        have := ha args[args.length - (n + 1)] (List.getElem_mem hi)
        show (0 : Int) < v + s.ns.length
        have h1 := this.1; have h2 := this.2
        omega
      | false =>
        by_cases h1 : k = 1
        · rw [leastM_or rfl hf hu h1]
          have g := gateM_fit hv (k := 3) (.inr rfl) h hdn hdl hda
          exact ⟨g, (hm.gr g.gr).snoc g.inr⟩
        · by_cases h2 : k = ((n + 1 : Nat) : Int)
          · rw [leastM_and rfl hf hu h1 h2]
            have g := gateM_fit hv (k := 2) (.inl rfl) h hdn hdl hda
            exact ⟨g, (hm.gr g.gr).snoc g.inr⟩
          · obtain ⟨r1, e1⟩ : ∃ r, leastM v args n (k - 1) m s = r := ⟨_, rfl⟩
            obtain ⟨r2, e2⟩ : ∃ r, addM v ⟨2, 0, [args.getD (args.length - (n + 1)) 0, r1.1]⟩ r1.2.2 = r := ⟨_, rfl⟩
            obtain ⟨r3, e3⟩ : ∃ r, leastM v args n k r1.2.1 r2.2 = r := ⟨_, rfl⟩
            obtain ⟨r4, e4⟩ : ∃ r, addM v ⟨3, 0, [r2.1, r3.1]⟩ r3.2.2 = r := ⟨_, rfl⟩
            rw [leastM_two rfl hf hu h1 h2 e1 e2 e3 e4]
            obtain ⟨f1, m1⟩ := leastM_fit hv h16 n (by omega) (k - 1) m s (by omega) (by omega) ha h hm
            rw [e1] at f1 m1
            have a1 : ∀ a ∈ args, InR (v + r1.2.2.ns.length) a := fun a h => f1.up (ha a h)
            have hg : InR (v + r1.2.2.ns.length) (args.getD (args.length - (n + 1)) 0) := by
              rw [List.getD_eq_getElem?_getD, List.getElem?_eq_getElem hi]
              exact a1 _ (List.getElem_mem hi)
            have f2 := add2_fit hv (.inl rfl) f1.nf hg f1.inr
            dsimp only at f2
            rw [e2] at f2
            obtain ⟨f3, m3⟩ := leastM_fit hv h16 n (by omega) k r1.2.1 r2.2 (by omega) (by omega) (fun a h => f2.up (a1 a h)) f2.nf (m1.gr f2.gr)
            rw [e3] at f3 m3
            have f4 := add2_fit hv (.inr rfl) f3.nf (f3.up f2.inr) f3.inr
            dsimp only at f4
            rw [e4] at f4
            refine ⟨?_, (m3.gr f4.gr).snoc f4.inr⟩
            exact ⟨f1.gr.trans (f2.gr.trans (f3.gr.trans f4.gr)), f4.nf, f4.inr⟩
theorem xor1_fit {v : Int} (hv : 0 ≤ v) {y : Int} {r : Int × MS} (h : NF v r.2.ns) (hx : InR (v + r.2.ns.length) r.1) (hy : InR (v + r.2.ns.length) y) : FitR v r.2 (xor1 v y r) := by
  obtain ⟨x, s⟩ := r
  dsimp only at h hx hy ⊢
  have f1 := addM_fit hv h (Fits.mk1 hy)
  obtain ⟨r1, e1⟩ : ∃ q, addM v ⟨1, 0, [y]⟩ s = q := ⟨_, rfl⟩
  rw [e1] at f1
  have f2 := add2_fit hv (k := 2) (.inl rfl) f1.nf (f1.up hx) f1.inr
  obtain ⟨r2, e2⟩ : ∃ q, addM v ⟨2, 0, [x, r1.1]⟩ r1.2 = q := ⟨_, rfl⟩
  rw [e2] at f2
  have f3 := addM_fit hv f2.nf (Fits.mk1 (f2.up (f1.up hx)))
  obtain ⟨r3, e3⟩ : ∃ q, addM v ⟨1, 0, [x]⟩ r2.2 = q := ⟨_, rfl⟩
  rw [e3] at f3
  have f4 := add2_fit hv (k := 2) (.inl rfl) f3.nf f3.inr (f3.up (f2.up (f1.up hy)))
  obtain ⟨r4, e4⟩ : ∃ q, addM v ⟨2, 0, [r3.1, y]⟩ r3.2 = q := ⟨_, rfl⟩
  rw [e4] at f4
  have f5 := add2_fit hv (k := 3) (.inr rfl) f4.nf (f4.up (f3.up f2.inr)) f4.inr
  have e : xor1 v y (x, s) = addM v ⟨3, 0, [r2.1, r4.1]⟩ r4.2 := by unfold xor1; dsimp only; rw [e1, e2, e3, e4]
  rw [e]
  exact f1.trans (f2.trans (f3.trans (f4.trans f5)))
theorem chainX_fit {v : Int} {f : Int → Int × MS → Int × MS} (hf : ∀ y r, NF v r.2.ns → InR (v + r.2.ns.length) r.1 → InR (v + r.2.ns.length) y → FitR v r.2 (f y r)) : ∀ (l : List Int) (r : Int × MS), NF v r.2.ns → InR (v + r.2.ns.length) r.1 → (∀ a ∈ l, InR (v + r.2.ns.length) a) → FitR v r.2 (chainX f l r)
  | [], r, h, hx, _ => ⟨MS.Gr.refl _, h, hx⟩
  | y :: l, r, h, hx, hl => by
    have h1 := hf y r h hx (hl y (by simp))
    exact h1.trans (chainX_fit hf l (f y r) h1.nf h1.inr (fun a ha => h1.up (hl a (by simp [ha]))))
theorem Nd.Fits.trD {m : Int} {d : Nd} (h : d.Fits m) {P : List Int} {M : Int} (hP : ∀ a ∈ P, InR M a) (hl : ∀ a ∈ d.args, a.toNat < P.length) : (GL.trD P d).Fits M where
  k0 := h.k0
  k1 := h.k1
  ar := by show argsB d.kind ((trI P d.args).length : Nat) = true; rw [trI_length]; exact h.ar
  args := trI_in hP hl
  kk := by
    have := h.kk
    refine ⟨this.1, fun h4 => ?_, this.2.2⟩
    show 1 ≤ d.k ∧ d.k ≤ ((trI P d.args).length : Nat)
    rw [trI_length]
    exact this.2.1 h4
theorem Nd.Fits.ne {m : Int} {d : Nd} (h : d.Fits m) (hk : d.kind ≠ 0) : d.args ≠ [] := by
  have har := h.ar
  intro h1
  rw [h1] at har
  unfold argsB at har
  rw [if_neg hk] at har
  split at har <;> simp at har
theorem nodeM_fit {v : Int} (hv : 0 ≤ v) (what : Nat) {d : Nd} {s : MS} (h : NF v s.ns) (hd : d.Fits (v + s.ns.length)) : FitR v s (nodeM what v d s) := by
  have hlen := hd.len
  unfold nodeM
  split
  · rename_i hB
    have hne : d.args ≠ [] := hd.ne (by
      intro h0
      unfold specB at hB
      rw [h0] at hB
      split at hB <;> simp at hB)
    obtain ⟨x0, xr, hx⟩ := List.exists_cons_of_ne_nil hne
    have hA := hd.args
    have hA' : ∀ a ∈ d.args, InR (v + s.ns.length) a := fun a ha => hA a ha
    unfold specM
    match what, hB with
    | 0, hB =>
      have h4 : d.kind = 4 := by simpa [specB] using hB
      have := hd.kk.2.1 h4
      exact (leastM_fit hv hlen d.args.length (Nat.le_refl _) d.k [] s this.1 this.2 hA' h (fun p hp => by cases hp)).1
    | 1, hB =>
      dsimp only
      unfold xorM
      rw [hx] at hA' ⊢
      exact chainX_fit (f := xor1 v) (fun y r h1 h2 h3 => xor1_fit hv h1 h2 h3) xr (x0, s) h (hA' x0 (by simp)) (fun a ha => hA' a (by simp [ha]))
    | w + 2, hB =>
      dsimp only
      unfold binM
      have hk : d.kind = 2 ∨ d.kind = 3 := by simpa [specB] using hB
      rw [hx] at hA' ⊢
      exact chainX_fit (f := fun y r => addM v ⟨d.kind, 0, [r.1, y]⟩ r.2) (fun y r h1 h2 h3 => add2_fit hv hk h1 h2 h3) xr (x0, s) h (hA' x0 (by simp)) (fun a ha => hA' a (by simp [ha]))
  · exact addM_fit hv h hd
structure MapFit (v : Int) (r : List Int × MS) : Prop where
  nf : NF v r.2.ns
  inr : ∀ a ∈ r.1, InR (v + r.2.ns.length) a
theorem mapS_fit {what v : Nat} {nodes : List Nd} (hn : ∀ i (h : i < nodes.length), nodes[i].Fits ((v : Int) + i)) : ∀ k, k ≤ nodes.length → MapFit v (mapS what v nodes k)
  | 0, _ => ⟨NF.nil, fun a ha => by
      obtain ⟨i, hi, rfl⟩ := List.mem_map.1 ha
      have := List.mem_range.1 hi
      exact ⟨by omega, by show (i : Int) < v + (0 : Nat); omega⟩⟩
  | k + 1, hk => by
    have ih := mapS_fit (what := what) hn k (by omega)
    have hd := hn k (by omega)
    have hl := mapS_len (what := what) (v := v) (nodes := nodes) k
    have hD := hd.trD ih.inr (fun a ha => by have := hd.args a ha; omega)
    have f := nodeM_fit (by omega) what ih.nf hD
    rw [show nodes[k] = nodes.getD k ⟨0, 0, []⟩ from by simp [List.getD_eq_getElem?_getD, show k < nodes.length by omega]] at f
    refine ⟨f.nf, fun a ha => ?_⟩
    rcases List.mem_append.1 ha with ha | ha
    · exact f.up (ih.inr a ha)
    · obtain rfl := List.mem_singleton.1 ha
      exact f.inr
theorem Fm.Good.nodes {F : Fm} (hg : F.Good) {v : Nat} (hv : F.vars = v) : ∀ i (h : i < F.nodes.length), F.nodes[i].Fits ((v : Int) + i) := fun i h => by have := hg.fits i h; rwa [hv] at this
theorem expF_good {F : Fm} {what : Nat} (h : F.expE what = none) : (F.expF what).Good := by
  have he : F.err = none := by
    unfold Fm.expE at h
    cases h0 : F.err with
    | none => rfl
    | some e => rw [h0] at h; cases h
  have hg := (Fm.good_iff F).1 he
  have g0 := hg.v0; have g1 := hg.v1; have gt := hg.topLt
  obtain ⟨v, hv⟩ := Int.eq_ofNat_of_zero_le g0
  have hvn : F.vars.toNat = v := by omega
  have hf := hg.nodes hv
  have M := mapS_fit (what := what) hf F.nodes.length (Nat.le_refl _)
  have O := mapS_ok (what := what) (show v ≤ 24 by omega) hf F.nodes.length (Nat.le_refl _)
  have L := mapS_len (what := what) (v := v) (nodes := F.nodes) F.nodes.length
  unfold Fm.expE at h
  rw [he] at h
  unfold resE at h
  unfold Fm.expF
  rw [he]
  unfold Fm.expS at h ⊢
  rw [hvn] at h ⊢
  have hfu : ¬ (mapS what v F.nodes F.nodes.length).2.full = true := by
    intro e
    dsimp only at h
    rw [if_pos e] at h
    cases h
  unfold resF
  dsimp only
  rw [if_neg hfu]
  refine Fm.Fit.good ⟨g0, g1, ?_, ?_⟩ O.ok
  · rw [hv]; exact M.nf
  · have := getD_in M.inr (i := F.top.toNat) (by omega)
    rw [hv]
    exact this
theorem expF_zero {F : Fm} {what : Nat} {e : Int} (h : F.expE what = some e) : F.expF what = Fm.zero := by
  cases he : F.err with
  | some e' => unfold Fm.expF; rw [he]
  | none =>
    unfold Fm.expE at h; rw [he] at h
    unfold Fm.expF; rw [he]
    unfold resE at h; unfold resF; dsimp only at h ⊢
    by_cases hf : (F.expS what).2.full = true
    · rw [if_pos hf]
    · rw [if_neg hf] at h; cases h
theorem expF_ok (F : Fm) (what : Nat) : (F.expF what).ok := by
  cases h : F.expE what with
  | none => exact (expF_good h).ok
  | some e => rw [expF_zero h]; exact zero_ok
end Go.GL
