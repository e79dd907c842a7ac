import Derived.Test.YtffghipagnjggaaGL81
namespace Go.GL
set_option linter.unusedVariables false
set_option linter.unusedSimpArgs false
theorem MS.Gr.len {r s : MS} (h : MS.Gr r s) : r.ns.length ≤ s.ns.length := by
  obtain ⟨l, hl⟩ := h.pre
  rw [hl]
  simp
structure FitR (v : Int) (s : MS) (r : Int × MS) : Prop where
  gr : MS.Gr s r.2
  nf : NF v r.2.ns
  inr : InR (v + r.2.ns.length) r.1
theorem FitR.trans {v : Int} {s : MS} {r q : Int × MS} (h : FitR v s r) (k : FitR v r.2 q) : FitR v s q := ⟨h.gr.trans k.gr, k.nf, k.inr⟩
theorem FitR.up {v : Int} {s : MS} {r : Int × MS} (h : FitR v s r) {a : Int} (ha : InR (v + s.ns.length) a) : InR (v + r.2.ns.length) a := ha.mono (by have := h.gr.len; omega)
theorem MS.Gr.up {v : Int} {s r : MS} (h : MS.Gr s r) {a : Int} (ha : InR (v + s.ns.length) a) : InR (v + r.ns.length) a := ha.mono (by have := h.len; omega)
theorem addM_fit {v : Int} (hv : 0 ≤ v) {d : Nd} {s : MS} (h : NF v s.ns) (hd : d.Fits (v + s.ns.length)) : FitR v s (addM v d s) := by
  refine ⟨addM_gr v d s, ?_, ?_⟩
  · unfold addM
    split
    · exact h
    · exact h.snoc hd
  · unfold addM
    split
    · exact ⟨Int.le_refl 0, by dsimp only; omega⟩
    · exact ⟨by dsimp only; omega, by dsimp only; simp; omega⟩
theorem add2_fit {v : Int} (hv : 0 ≤ v) {k a b : Int} {s : MS} (hk : k = 2 ∨ k = 3) (h : NF v s.ns) (ha : InR (v + s.ns.length) a) (hb : InR (v + s.ns.length) b) : FitR v s (addM v ⟨k, 0, [a, b]⟩ s) :=
  addM_fit hv h (Fits.mk2 hk (by simp) (by simp) (by intro x hx; simp at hx; rcases hx with rfl | rfl <;> assumption))
theorem gateM_fit {v : Int} (hv : 0 ≤ v) {k : Int} {l : List Int} {s : MS} (hk : k = 2 ∨ k = 3) (h : NF v s.ns) (h0 : l ≠ []) (h1 : l.length ≤ 16) (ha : ∀ a ∈ l, InR (v + s.ns.length) a) : FitR v s (gateM v k l s) := by
  unfold gateM
  split
  · refine ⟨MS.Gr.refl s, h, ?_⟩
    match l with
    | [] => exact absurd rfl h0
    | a :: _ => exact ha a (by simp)
  · exact addM_fit hv h (Fits.mk2 hk h0 h1 ha)
def MadeIn (m : Int) (q : Made) : Prop := ∀ p ∈ q, InR m p.2
theorem MadeIn.mono {m m' : Int} {q : Made} (h : MadeIn m q) (hm : m ≤ m') : MadeIn m' q := fun p hp => (h p hp).mono hm
theorem MadeIn.gr {v : Int} {s r : MS} {q : Made} (h : MadeIn (v + s.ns.length) q) (g : MS.Gr s r) : MadeIn (v + r.ns.length) q := h.mono (by have := g.len; omega)
theorem MadeIn.find {m : Int} {q : Made} (h : MadeIn m q) {k i x : Int} (hf : findM k i q = some x) : InR m x := h _ (findM_mem hf)
theorem MadeIn.snoc {m : Int} {q : Made} (h : MadeIn m q) {k i x : Int} (hx : InR m x) : MadeIn m (q ++ [((k, i), x)]) := by
  intro p hp
  rcases List.mem_append.1 hp with hp | hp
  · exact h p hp
  · obtain rfl := List.mem_singleton.1 hp
    exact hx
theorem leastM_fit {v : Int} (hv : 0 ≤ v) {args : List Int} (h16 : args.length ≤ 16) : ∀ (n : Nat), n ≤ args.length → ∀ (k : Int) (m : Made) (s : MS), 1 ≤ k → k ≤ n → (∀ a ∈ args, InR (v + s.ns.length) a) → NF v s.ns → MadeIn (v + s.ns.length) m →
    FitR v s ((leastM v args n k m s).1, (leastM v args n k m s).2.2) ∧ MadeIn (v + (leastM v args n k m s).2.2.ns.length) (leastM v args n k m s).2.1
  | 0, hn, k, m, s, hk, hk2, ha, h, hm => by omega
  | n + 1, hn, k, m, s, hk, hk2, ha, h, hm => by
    have hi : args.length - (n + 1) < args.length := by omega
    have hdn : args.drop (args.length - (n + 1)) ≠ [] := by
      intro e
      have := congrArg List.length e
      rw [List.length_drop] at this
      simp at this
      omega
    have hdl : (args.drop (args.length - (n + 1))).length ≤ 16 := by rw [List.length_drop]; omega
    have hda : ∀ a ∈ args.drop (args.length - (n + 1)), InR (v + s.ns.length) a := fun a h => ha a (List.mem_of_mem_drop h)
    have h0 : s.full = true → InR (v + s.ns.length) 0 ∨ True := fun _ => .inr trivial
    cases hf : findM k ((args.length - (n + 1) : Nat) : Int) m with
    | some x =>
      rw [leastM_early rfl (.inl (by rw [hf]; simp)), hf]
      exact ⟨⟨MS.Gr.refl s, h, hm.find hf⟩, hm⟩
    | none =>
      cases hu : s.full with
      | true =>
        rw [leastM_early rfl (.inr hu), hf]
        refine ⟨⟨MS.Gr.refl s, h, ⟨Int.le_refl 0, ?_⟩⟩, hm⟩
        have := ha args[args.length - (n + 1)] (List.getElem_mem hi)
        show (0 : Int) < v + s.ns.length
        have h1 := this.1; have h2 := this.2
        omega
      | false =>
        by_cases h1 : k = 1
        · rw [leastM_or rfl hf hu h1]
          have g := gateM_fit hv (k := 3) (.inr rfl) h hdn hdl hda
          exact ⟨g, (hm.gr g.gr).snoc g.inr⟩
        · by_cases h2 : k = ((n + 1 : Nat) : Int)
          · rw [leastM_and rfl hf hu h1 h2]
            have g := gateM_fit hv (k := 2) (.inl rfl) h hdn hdl hda
            exact ⟨g, (hm.gr g.gr).snoc g.inr⟩
          · obtain ⟨r1, e1⟩ : ∃ r, leastM v args n (k - 1) m s = r := ⟨_, rfl⟩
            obtain ⟨r2, e2⟩ : ∃ r, addM v ⟨2, 0, [args.getD (args.length - (n + 1)) 0, r1.1]⟩ r1.2.2 = r := ⟨_, rfl⟩
            obtain ⟨r3, e3⟩ : ∃ r, leastM v args n k r1.2.1 r2.2 = r := ⟨_, rfl⟩
            obtain ⟨r4, e4⟩ : ∃ r, addM v ⟨3, 0, [r2.1, r3.1]⟩ r3.2.2 = r := ⟨_, rfl⟩
            rw [leastM_two rfl hf hu h1 h2 e1 e2 e3 e4]
            obtain ⟨f1, m1⟩ := leastM_fit hv h16 n (by omega) (k - 1) m s (by omega) (by omega) ha h hm
            rw [e1] at f1 m1
            have a1 : ∀ a ∈ args, InR (v + r1.2.2.ns.length) a := fun a h => f1.up (ha a h)
            have hg : InR (v + r1.2.2.ns.length) (args.getD (args.length - (n + 1)) 0) := by
              rw [List.getD_eq_getElem?_getD, List.getElem?_eq_getElem hi]
              exact a1 _ (List.getElem_mem hi)
            have f2 := add2_fit hv (.inl rfl) f1.nf hg f1.inr
            dsimp only at f2
            rw [e2] at f2
            obtain ⟨f3, m3⟩ := leastM_fit hv h16 n (by omega) k r1.2.1 r2.2 (by omega) (by omega) (fun a h => f2.up (a1 a h)) f2.nf (m1.gr f2.gr)
            rw [e3] at f3 m3
            have f4 := add2_fit hv (.inr rfl) f3.nf (f3.up f2.inr) f3.inr
            dsimp only at f4
            rw [e4] at f4
            refine ⟨?_, (m3.gr f4.gr).snoc f4.inr⟩
            exact ⟨f1.gr.trans (f2.gr.trans (f3.gr.trans f4.gr)), f4.nf, f4.inr⟩
theorem xor1_fit {v : Int} (hv : 0 ≤ v) {y : Int} {r : Int × MS} (h : NF v r.2.ns) (hx : InR (v + r.2.ns.length) r.1) (hy : InR (v + r.2.ns.length) y) : FitR v r.2 (xor1 v y r) := by
  obtain ⟨x, s⟩ := r
  dsimp only at h hx hy ⊢
  have f1 := addM_fit hv h (Fits.mk1 hy)
  obtain ⟨r1, e1⟩ : ∃ q, addM v ⟨1, 0, [y]⟩ s = q := ⟨_, rfl⟩
  rw [e1] at f1
  have f2 := add2_fit hv (k := 2) (.inl rfl) f1.nf (f1.up hx) f1.inr
  obtain ⟨r2, e2⟩ : ∃ q, addM v ⟨2, 0, [x, r1.1]⟩ r1.2 = q := ⟨_, rfl⟩
  rw [e2] at f2
  have f3 := addM_fit hv f2.nf (Fits.mk1 (f2.up (f1.up hx)))
  obtain ⟨r3, e3⟩ : ∃ q, addM v ⟨1, 0, [x]⟩ r2.2 = q := ⟨_, rfl⟩
  rw [e3] at f3
  have f4 := add2_fit hv (k := 2) (.inl rfl) f3.nf f3.inr (f3.up (f2.up (f1.up hy)))
  obtain ⟨r4, e4⟩ : ∃ q, addM v ⟨2, 0, [r3.1, y]⟩ r3.2 = q := ⟨_, rfl⟩
  rw [e4] at f4
  have f5 := add2_fit hv (k := 3) (.inr rfl) f4.nf (f4.up (f3.up f2.inr)) f4.inr
  have e : xor1 v y (x, s) = addM v ⟨3, 0, [r2.1, r4.1]⟩ r4.2 := by unfold xor1; dsimp only; rw [e1, e2, e3, e4]
  rw [e]
  exact f1.trans (f2.trans (f3.trans (f4.trans f5)))
theorem chainX_fit {v : Int} {f : Int → Int × MS → Int × MS} (hf : ∀ y r, NF v r.2.ns → InR (v + r.2.ns.length) r.1 → InR (v + r.2.ns.length) y → FitR v r.2 (f y r)) : ∀ (l : List Int) (r : Int × MS), NF v r.2.ns → InR (v + r.2.ns.length) r.1 → (∀ a ∈ l, InR (v + r.2.ns.length) a) → FitR v r.2 (chainX f l r)
  | [], r, h, hx, _ => ⟨MS.Gr.refl _, h, hx⟩
  | y :: l, r, h, hx, hl => by
    have h1 := hf y r h hx (hl y (by simp))
    exact h1.trans (chainX_fit hf l (f y r) h1.nf h1.inr (fun a ha => h1.up (hl a (by simp [ha]))))
theorem Nd.Fits.trD {m : Int} {d : Nd} (h : d.Fits m) {P : List Int} {M : Int} (hP : ∀ a ∈ P, InR M a) (hl : ∀ a ∈ d.args, a.toNat < P.length) : (GL.trD P d).Fits M where
  k0 := h.k0
  k1 := h.k1
  ar := by show argsB d.kind ((trI P d.args).length : Nat) = true; rw [trI_length]; exact h.ar
  args := trI_in hP hl
  kk := by
    have := h.kk
    refine ⟨this.1, fun h4 => ?_, this.2.2⟩
    show 1 ≤ d.k ∧ d.k ≤ ((trI P d.args).length : Nat)
    rw [trI_length]
    exact this.2.1 h4
theorem Nd.Fits.ne {m : Int} {d : Nd} (h : d.Fits m) (hk : d.kind ≠ 0) : d.args ≠ [] := by
  have har := h.ar
  intro h1
  rw [h1] at har
  unfold argsB at har
  rw [if_neg hk] at har
  split at har <;> simp at har
theorem nodeM_fit {v : Int} (hv : 0 ≤ v) (what : Nat) {d : Nd} {s : MS} (h : NF v s.ns) (hd : d.Fits (v + s.ns.length)) : FitR v s (nodeM what v d s) := by
  have hlen := hd.len
  unfold nodeM
  split
  · rename_i hB
    have hne : d.args ≠ [] := hd.ne (by
      intro h0
      unfold specB at hB
      rw [h0] at hB
      split at hB <;> simp at hB)
    obtain ⟨x0, xr, hx⟩ := List.exists_cons_of_ne_nil hne
    have hA := hd.args
    have hA' : ∀ a ∈ d.args, InR (v + s.ns.length) a := fun a ha => hA a ha
    unfold specM
    match what, hB with
    | 0, hB =>
      have h4 : d.kind = 4 := by simpa [specB] using hB
      have := hd.kk.2.1 h4
      exact (leastM_fit hv hlen d.args.length (Nat.le_refl _) d.k [] s this.1 this.2 hA' h (fun p hp => by cases hp)).1
    | 1, hB =>
      dsimp only
      unfold xorM
      rw [hx] at hA' ⊢
      exact chainX_fit (f := xor1 v) (fun y r h1 h2 h3 => xor1_fit hv h1 h2 h3) xr (x0, s) h (hA' x0 (by simp)) (fun a ha => hA' a (by simp [ha]))
    | w + 2, hB =>
      dsimp only
      unfold binM
      have hk : d.kind = 2 ∨ d.kind = 3 := by simpa [specB] using hB
      rw [hx] at hA' ⊢
      exact chainX_fit (f := fun y r => addM v ⟨d.kind, 0, [r.1, y]⟩ r.2) (fun y r h1 h2 h3 => add2_fit hv hk h1 h2 h3) xr (x0, s) h (hA' x0 (by simp)) (fun a ha => hA' a (by simp [ha]))
  · exact addM_fit hv h hd
structure MapFit (v : Int) (r : List Int × MS) : Prop where
  nf : NF v r.2.ns
  inr : ∀ a ∈ r.1, InR (v + r.2.ns.length) a
theorem mapS_fit {what v : Nat} {nodes : List Nd} (hn : ∀ i (h : i < nodes.length), nodes[i].Fits ((v : Int) + i)) : ∀ k, k ≤ nodes.length → MapFit v (mapS what v nodes k)
  | 0, _ => ⟨NF.nil, fun a ha => by
      obtain ⟨i, hi, rfl⟩ := List.mem_map.1 ha
      have := List.mem_range.1 hi
      exact ⟨by omega, by show (i : Int) < v + (0 : Nat); omega⟩⟩
  | k + 1, hk => by
    have ih := mapS_fit (what := what) hn k (by omega)
    have hd := hn k (by omega)
    have hl := mapS_len (what := what) (v := v) (nodes := nodes) k
    have hD := hd.trD ih.inr (fun a ha => by have := hd.args a ha; omega)
    have f := nodeM_fit (by omega) what ih.nf hD
    rw [show nodes[k] = nodes.getD k ⟨0, 0, []⟩ from by simp [List.getD_eq_getElem?_getD, show k < nodes.length by omega]] at f
    refine ⟨f.nf, fun a ha => ?_⟩
    rcases List.mem_append.1 ha with ha | ha
    · exact f.up (ih.inr a ha)
    · obtain rfl := List.mem_singleton.1 ha
      exact f.inr
theorem Fm.Good.nodes {F : Fm} (hg : F.Good) {v : Nat} (hv : F.vars = v) : ∀ i (h : i < F.nodes.length), F.nodes[i].Fits ((v : Int) + i) := fun i h => by have := hg.fits i h; rwa [hv] at this
theorem expF_good {F : Fm} {what : Nat} (h : F.expE what = none) : (F.expF what).Good := by
  have he : F.err = none := by
    unfold Fm.expE at h
    cases h0 : F.err with
    | none => rfl
    | some e => rw [h0] at h; cases h
  have hg := (Fm.good_iff F).1 he
  have g0 := hg.v0; have g1 := hg.v1; have gt := hg.topLt
  obtain ⟨v, hv⟩ := Int.eq_ofNat_of_zero_le g0
  have hvn : F.vars.toNat = v := by omega
  have hf := hg.nodes hv
  have M := mapS_fit (what := what) hf F.nodes.length (Nat.le_refl _)
  have O := mapS_ok (what := what) (show v ≤ 24 by omega) hf F.nodes.length (Nat.le_refl _)
  have L := mapS_len (what := what) (v := v) (nodes := F.nodes) F.nodes.length
  unfold Fm.expE at h
  rw [he] at h
  unfold resE at h
  unfold Fm.expF
  rw [he]
  unfold Fm.expS at h ⊢
  rw [hvn] at h ⊢
  have hfu : ¬ (mapS what v F.nodes F.nodes.length).2.full = true := by
    intro e
    dsimp only at h
    rw [if_pos e] at h
    cases h
  unfold resF
  dsimp only
  rw [if_neg hfu]
  refine Fm.Fit.good ⟨g0, g1, ?_, ?_⟩ O.ok
  · rw [hv]; exact M.nf
  · have := getD_in M.inr (i := F.top.toNat) (by omega)
    rw [hv]
    exact this
theorem expF_zero {F : Fm} {what : Nat} {e : Int} (h : F.expE what = some e) : F.expF what = Fm.zero := by
  cases he : F.err with
  | some e' => unfold Fm.expF; rw [he]
  | none =>
    unfold Fm.expE at h; rw [he] at h
    unfold Fm.expF; rw [he]
    unfold resE at h; unfold resF; dsimp only at h ⊢
    by_cases hf : (F.expS what).2.full = true
    · rw [if_pos hf]
    · rw [if_neg hf] at h; cases h
theorem expF_ok (F : Fm) (what : Nat) : (F.expF what).ok := by
  cases h : F.expE what with
  | none => exact (expF_good h).ok
  | some e => rw [expF_zero h]; exact zero_ok
end Go.GL
namespace Go.GL
set_option linter.unusedVariables false
set_option linter.unusedSimpArgs false
def Fm.heavy27 (F : Fm) : Bool := decide ((300 : Int) < F.nodes.length) || decide (4000 < argSumI F.nodes)
def exV27 : Fm := ⟨3, [⟨4, 2, [0, 1, 2]⟩], 3⟩
def exX27 : Fm := ⟨2, [⟨5, 0, [0, 1]⟩], 2⟩
def exW27 : Fm := ⟨3, [⟨3, 0, [1, 2]⟩, ⟨2, 0, [0, 3]⟩, ⟨2, 0, [1, 2]⟩, ⟨3, 0, [4, 5]⟩], 6⟩
def exY27 : Fm := ⟨2, [⟨1, 0, [1]⟩, ⟨2, 0, [0, 2]⟩, ⟨1, 0, [0]⟩, ⟨2, 0, [4, 1]⟩, ⟨3, 0, [3, 5]⟩], 6⟩
theorem exV27_good : exV27.Good := (Fm.good_iff _).1 (by decide)
theorem exX27_good : exX27.Good := (Fm.good_iff _).1 (by decide)
theorem exV27_f : exV27.expF 0 = exW27 := by decide +kernel
theorem exV27_e : exV27.expE 0 = none := by decide +kernel
theorem exX27_f : exX27.expF 1 = exY27 := by decide +kernel
theorem exX27_e : exX27.expE 1 = none := by decide +kernel
theorem plainF_ok (F : Fm) : F.plainF.ok := by
  unfold Fm.plainF
  cases F.expE 0 with
  | some e => exact zero_ok
  | none => exact expF_ok _ _
def NewNum (F : Fm) (e : Option Int) (H : List Ent) : Value → List Ent → Prop := fun u H' =>
  ∃ a c N, u = .tuple (List.toArray [.agg (List.toArray [.int .i64 F.vars, slV a 0 F.nodes.length c, .int .i64 F.top]), .int .i64 (e.getD 0)]) ∧ RNodes N a 0 F.nodes ∧ N ++ H = H'
theorem sub_app2 {H H' N M : List Ent} (s : H.Sublist H') : Le (M ++ (N ++ H')) ((M ++ N) ++ H) := by
  rw [List.append_assoc]
  exact Le.sub ((List.Sublist.refl M).append ((List.Sublist.refl N).append s))
end Go.GL
namespace Go.GL
set_option linter.unusedVariables false
set_option linter.unusedSimpArgs false
theorem nodup_lt : ∀ (N : Nat) (l : List Nat), l.Nodup → (∀ x ∈ l, x < N) → l.length ≤ N
  | 0, l, _, h => by
    cases l with
    | nil => simp
    | cons a r => have := h a (by simp); omega
  | N + 1, l, hn, h => by
    by_cases hm : N ∈ l
    · have h1 := nodup_lt N (l.erase N) (hn.erase N) (fun x hx => by
        have h2 := (hn.mem_erase_iff).1 hx
        have := h x h2.2
        have := h2.1
        omega)
      rw [List.length_erase_of_mem hm] at h1
      omega
    · have := nodup_lt N l hn (fun x hx => by
        have := h x hx
        have : x ≠ N := fun e => hm (e ▸ hx)
        omega)
      omega
def MadeB (m : Made) : Prop := ∀ q ∈ m, 0 ≤ q.1.1 ∧ q.1.1 ≤ 31 ∧ 0 ≤ q.1.2 ∧ q.1.2 ≤ 31
theorem MadeB.snoc {m : Made} (h : MadeB m) {k i x : Int} (hk : 0 ≤ k ∧ k ≤ 31) (hi : 0 ≤ i ∧ i ≤ 31) : MadeB (m ++ [((k, i), x)]) := by
  intro q hq
  rcases List.mem_append.1 hq with hq | hq
  · exact h q hq
  · obtain rfl := List.mem_singleton.1 hq
    exact ⟨hk.1, hk.2, hi.1, hi.2⟩
theorem MadeB.len {m : Made} (h : MadeB m) (hu : MadeU m) : m.length ≤ 1024 := by
  have := nodup_lt 1024 (m.map fun q => q.1.1.toNat * 32 + q.1.2.toNat) ?_ ?_
  · simpa using this
  · unfold List.Nodup
    rw [List.pairwise_map]
    refine List.Pairwise.imp_of_mem ?_ hu
    intro p q hp hq hne e
    have h1 := h p hp
    have h2 := h q hq
    refine hne (Prod.ext ?_ ?_) <;> omega
  · intro x hx
    obtain ⟨q, hq, rfl⟩ := List.mem_map.1 hx
    have := h q hq
    omega
theorem leastM_b {v : Int} {args : List Int} (hl : args.length ≤ 16) : ∀ (n : Nat), n ≤ args.length → ∀ (k : Int) (m : Made) (s : MS), 1 ≤ k → k ≤ n → MadeB m → MadeB (leastM v args n k m s).2.1
  | 0, hn, k, m, s, hk, hk2, hm => hm
  | n + 1, hn, k, m, s, hk, hk2, hm => by
    have hkB : 0 ≤ k ∧ k ≤ 31 := by omega
    have hiB : (0 : Int) ≤ ((args.length - (n + 1) : Nat) : Int) ∧ ((args.length - (n + 1) : Nat) : Int) ≤ 31 := by omega
    cases hf : findM k ((args.length - (n + 1) : Nat) : Int) m with
    | some x => rw [leastM_early rfl (.inl (by rw [hf]; simp))]; exact hm
    | none =>
      cases hu : s.full with
      | true => rw [leastM_early rfl (.inr hu)]; exact hm
      | false =>
        by_cases h1 : k = 1
        · rw [leastM_or rfl hf hu h1]; exact hm.snoc hkB hiB
        · by_cases h2 : k = ((n + 1 : Nat) : Int)
          · rw [leastM_and rfl hf hu h1 h2]; exact hm.snoc hkB hiB
          · rw [leastM_two rfl hf hu h1 h2 rfl rfl rfl rfl]
            exact (leastM_b hl n (by omega) k _ _ (by omega) (by omega) (leastM_b hl n (by omega) (k - 1) m s (by omega) (by omega) hm)).snoc hkB hiB
def plC (q : (Int × Int) × Int) : List Value := [.int .i64 q.1.1, .int .i64 q.1.2, .int .i64 q.2]
def places (m : Made) : List Value := m.flatMap plC
theorem places_length (m : Made) : (places m).length = m.length * 3 := by
  induction m with
  | nil => rfl
  | cons q r ih => unfold places at ih ⊢; rw [List.flatMap_cons, List.length_append, ih]; simp [plC]; omega
theorem places_snoc (m : Made) (q : (Int × Int) × Int) : places (m ++ [q]) = places m ++ plC q := by simp [places]
theorem places_get : ∀ (m : Made) (i : Nat) (q : (Int × Int) × Int), m[i]? = some q → ∀ j v, (plC q)[j]? = some v → (places m)[i * 3 + j]? = some v
  | [], i, q, h, j, v, _ => by simp at h
  | p :: r, 0, q, h, j, v, hj => by
    simp at h
    subst h
    have hjl : j < (plC p).length := (List.getElem?_eq_some_iff.1 hj).1
    show (plC p ++ places r)[0 * 3 + j]? = some v
    rw [Nat.zero_mul, Nat.zero_add, List.getElem?_append_left hjl]
    exact hj
  | p :: r, i + 1, q, h, j, v, hj => by
    have ih := places_get r i q (by simpa using h) j v hj
    show (plC p ++ places r)[(i + 1) * 3 + j]? = some v
    rw [List.getElem?_append_right (by simp [plC]; omega), show (i + 1) * 3 + j - (plC p).length = i * 3 + j by simp [plC]; omega]
    exact ih
theorem findM_at {k i : Int} : ∀ (m : Made) (j : Nat) (hj : j < m.length), (∀ q ∈ m.take j, ¬ (q.1.1 = k ∧ q.1.2 = i)) → m[j].1.1 = k ∧ m[j].1.2 = i → findM k i m = some m[j].2
  | q :: r, 0, _, _, h => by have h' : q.1.1 = k ∧ q.1.2 = i := h; unfold findM; rw [if_pos h']; rfl
  | q :: r, j + 1, hj, h0, h => by
    unfold findM
    rw [if_neg (h0 q (by simp))]
    exact findM_at r j (by simpa using hj) (fun p hp => h0 p (by simp [hp])) h
def RVoteR (T TN PT PS : TypeId) (b : Nat) (v : Int) (pb : Nat) (r : Int × Made × MS) (HB : List Ent) : Value → List Ent → Prop := fun u H' =>
  ∃ (s' : BS) (qa : Option Nat) (qc : Nat), u = .int .i64 r.1 ∧ s'.ok r.2.2.ns ∧ (r.2.1 ≠ [] → ∃ b, qa = some b) ∧ mkE T TN b v r.2.2 s' (row (some pb) PS 1 1 [slV qa 0 r.2.1.length qc] :: row qa PT 3 qc (places r.2.1) :: HB) = H'
def RMid (v : Int) (args : List Int) (n : Nat) (k : Int) (i : Nat) (m : Made) (ms : MS) (y : (BS × Option Nat × Nat) × Int × Made × MS) : Prop :=
  y.1.1.ok y.2.2.2.ns ∧ (y.2.2.1 ≠ [] → ∃ b, y.1.2.1 = some b) ∧ MadeB y.2.2.1 ∧ MadeU y.2.2.1 ∧ leastM v args (n + 1) k m ms = (y.2.1, y.2.2.1 ++ [((k, (i : Int)), y.2.1)], y.2.2.2)
theorem take_none {k i : Int} {m : Made} (h : ∀ q ∈ m, ¬ (q.1.1 = k ∧ q.1.2 = i)) : findM k i m = none := findM_none m h
theorem take_hit {k i : Int} {m : Made} {j : Nat} (hj : j < m.length) (h : ∀ q ∈ m.take j, ¬ (q.1.1 = k ∧ q.1.2 = i)) (h1 : ¬ (m[j].1.1 = k ∧ m[j].1.2 = i)) : ∀ q ∈ m.take (j + 1), ¬ (q.1.1 = k ∧ q.1.2 = i) :=
  ball_take_succ hj h h1
end Go.GL
namespace Go.GL
set_option linter.unusedVariables false
set_option linter.unusedSimpArgs false
section
variable {what v : Nat} {nodes : List Nd}
theorem mapS_ev {j : Nat} (hj : j < v) : ∀ k, (mapS what v nodes k).1.getD j 0 = (j : Int)
  | 0 => evI_getD hj
  | k + 1 => by
    have ih := mapS_ev hj k
    have hl := mapS_len (what := what) (v := v) (nodes := nodes) k
    show ((mapS what v nodes k).1 ++ _).getD j 0 = _
    rw [List.getD_eq_getElem?_getD, List.getElem?_append_left (by omega), ← List.getD_eq_getElem?_getD]
    exact ih
theorem mapS_img {k : Nat} {a : Int} (h0 : 0 ≤ a) : (if a < v then a else ((mapS what v nodes k).1.drop v).getD (a.toNat - v) 0) = (mapS what v nodes k).1.getD a.toNat 0 := by
  split
  · rw [mapS_ev (by omega)]; omega
  · rw [List.getD_eq_getElem?_getD, List.getElem?_drop, List.getD_eq_getElem?_getD]
    congr 3
    omega
theorem mapS_imgs {k : Nat} : ((mapS what v nodes k).1.drop v).length = k := by
  rw [List.length_drop, mapS_len]
  omega
end
theorem drop_snoc {P : List Int} {v : Nat} (h : v ≤ P.length) (x : Int) : (P ++ [x]).drop v = P.drop v ++ [x] := by
  rw [List.drop_append_of_le_length h]
abbrev snocI (l : List Int) (x : Int) : List Int := l ++ [x]
def whatE (what : Nat) : Prop := what = 0 ∨ what = 1 ∨ what = 2
theorem padI_reset {l : List Int} {L : Nat} (h : l.length < L) (a b : Int) : (ints (padI (l ++ [a]) L)).set l.length (.int .i64 b) = ints (padI (l ++ [b]) L) := by
  rw [← ints_set]
  congr 1
  unfold padI
  rw [List.append_assoc, List.set_append_right _ _ (Nat.le_refl _), Nat.sub_self, List.append_assoc]
  simp
theorem expE_pos {F : Fm} {what : Nat} {e : Int} (h : F.expE what = some e) : e ≠ 0 := by
  unfold Fm.expE at h
  cases he : F.err with
  | some e' =>
    rw [he] at h
    cases h
    rintro rfl
    rw [err_getD (by rw [he]; rfl)] at he
    cases he
  | none =>
    rw [he] at h
    unfold resE at h
    dsimp only at h
    split at h
    · cases h; decide
    · cases h
theorem expE_getD {F : Fm} {what : Nat} (h : (F.expE what).getD 0 = 0) : F.expE what = none := by
  cases he : F.expE what with
  | none => rfl
  | some e => rw [he] at h; exact absurd h (expE_pos he)
end Go.GL
