import Derived.Test.YtffghipagnjggaaGL75
namespace Go.GL
set_option linter.unusedVariables false
set_option linter.unusedSimpArgs false
def cst (b : Bool) : Int := if b then -1 else -2
def foldG (v : Int) (d : Nd) (rest : List Int) (t : Nat) (ns : List Nd) : List Nd × Int :=
  if rest.length = 1 then (ns, rest.getD 0 0)
  else if d.kind = 4 then (ns ++ [⟨4, d.k - t, rest⟩], v + ns.length)
  else (ns ++ [⟨d.kind, 0, rest⟩], v + ns.length)
def foldX (v : Int) (rest : List Int) (t : Nat) (ns : List Nd) : List Nd × Int :=
  let s : List Nd × Int := if 1 < rest.length then (ns ++ [⟨5, 0, rest⟩], v + ns.length) else (ns, rest.getD 0 0)
  if t % 2 = 1 then (s.1 ++ [⟨1, 0, [s.2]⟩], v + s.1.length) else s
def fold1 (v : Int) (d : Nd) (rest : List Int) (t f : Nat) (ns : List Nd) : List Nd × Int :=
  if d.kind = 0 then (ns, cst (decide (d.k = 1)))
  else if d.kind = 1 then (if rest.length = 0 then (ns, cst (decide (t = 0))) else (ns ++ [⟨1, 0, rest⟩], v + ns.length))
  else if d.kind = 2 then (if 0 < f ∨ rest.length = 0 then (ns, cst (decide (f = 0))) else foldG v d rest t ns)
  else if d.kind = 3 then (if 0 < t ∨ rest.length = 0 then (ns, cst (decide (0 < t))) else foldG v d rest t ns)
  else if d.kind = 4 then (if d.k - t ≤ 0 ∨ (rest.length : Int) < d.k - t then (ns, cst (decide (d.k - t ≤ 0))) else foldG v d rest t ns)
  else (if rest.length = 0 then (ns, cst (decide (t % 2 = 1))) else foldX v rest t ns)
def restOf (A : List Int) : List Int := A.filter (fun a => decide (a ≠ -1) && decide (a ≠ -2))
def cntC (c : Int) (A : List Int) : Nat := A.countP (fun a => decide (a = c))
def foldS (v : Nat) (nodes : List Nd) : Nat → List Int × List Nd
  | 0 => (evI v, [])
  | k + 1 =>
    let s := foldS v nodes k
    let d := nodes.getD k ⟨0, 0, []⟩
    let r := fold1 v d (restOf (trI s.1 d.args)) (cntC (-1) (trI s.1 d.args)) (cntC (-2) (trI s.1 d.args)) s.2
    (s.1 ++ [r.2], r.1)
theorem fold1_len (v : Int) (d : Nd) (rest : List Int) (t f : Nat) (ns : List Nd) : ns.length ≤ (fold1 v d rest t f ns).1.length ∧ (fold1 v d rest t f ns).1.length ≤ ns.length + 2 := by
  unfold fold1 foldG foldX
  (repeat' split) <;> simp
theorem foldS_len {v : Nat} {nodes : List Nd} : ∀ k, (foldS v nodes k).1.length = v + k ∧ (foldS v nodes k).2.length ≤ 2 * k
  | 0 => by simp [foldS, evI_length]
  | k + 1 => by
    obtain ⟨h1, h2⟩ := foldS_len (v := v) (nodes := nodes) k
    have := fold1_len v (nodes.getD k ⟨0, 0, []⟩) (restOf (trI (foldS v nodes k).1 (nodes.getD k ⟨0, 0, []⟩).args)) (cntC (-1) (trI (foldS v nodes k).1 (nodes.getD k ⟨0, 0, []⟩).args)) (cntC (-2) (trI (foldS v nodes k).1 (nodes.getD k ⟨0, 0, []⟩).args)) (foldS v nodes k).2
    simp only [foldS, List.length_append, List.length_singleton]
    omega
theorem count3 (A : List Int) : cntC (-1) A + cntC (-2) A + (restOf A).length = A.length := by
  unfold cntC restOf
  induction A with
  | nil => rfl
  | cons a r ih =>
    by_cases h1 : a = -1
    · subst h1; simp [List.countP_cons] at ih ⊢; omega
    · by_cases h2 : a = -2
      · subst h2; simp [List.countP_cons] at ih ⊢; omega
      · simp [List.countP_cons, h1, h2] at ih ⊢; omega
theorem restOf_le (A : List Int) : (restOf A).length ≤ A.length := List.length_filter_le _ _
theorem restOf_mem {A : List Int} {a : Int} (h : a ∈ restOf A) : a ∈ A ∧ a ≠ -1 ∧ a ≠ -2 := by
  have := List.mem_filter.1 h
  simpa using this
def Fm.foldT (F : Fm) : Int := (foldS F.vars.toNat F.nodes F.nodes.length).1.getD F.top.toNat 0
def Fm.foldB (F : Fm) : Fm := ⟨F.vars, (foldS F.vars.toNat F.nodes F.nodes.length).2, F.foldT⟩
def Fm.foldC (F : Fm) : Fm := ⟨F.vars, [⟨0, F.foldT + 2, []⟩], F.vars⟩
def Fm.foldF (F : Fm) : Fm := match F.err with
  | some _ => Fm.zero
  | none => if F.foldT = -1 ∨ F.foldT = -2 then F.foldC else sizedF F.foldB.trim
def Fm.foldE (F : Fm) : Option Int := match F.err with
  | some e => some e
  | none => if F.foldT = -1 ∨ F.foldT = -2 then none else sizedE F.foldB.trim
def TV (es : List Bool) (ns : List Nd) (a : Int) : Bool := if a = -1 then true else if a = -2 then false else VB es ns a
def InC (m a : Int) : Prop := a = -1 ∨ a = -2 ∨ InR m a
theorem InC.mono {m m' a : Int} (h : InC m a) (hm : m ≤ m') : InC m' a := h.imp id (Or.imp id (fun x => x.mono hm))
theorem TV_old {es : List Bool} {ns r : List Nd} {v : Nat} (he : es.length = v) {a : Int} (ha : InC (v + ns.length) a) : TV es (ns ++ r) a = TV es ns a := by
  unfold TV
  rcases ha with h | h | h
  · rw [if_pos h, if_pos h]
  · rw [h]; rfl
  · rw [VB_old he h]
theorem TV_cst (es : List Bool) (ns : List Nd) (b : Bool) : TV es ns (cst b) = b := by cases b <;> rfl
theorem TV_in {es : List Bool} {ns : List Nd} {m a : Int} (h : InR m a) : TV es ns a = VB es ns a := by
  unfold TV
  have := h.1
  rw [if_neg (by omega), if_neg (by omega)]
theorem cnt_split {es : List Bool} {ns : List Nd} {m : Int} {f : Nat → Bool} {T : List Int} : ∀ (xs : List Int), (∀ a ∈ xs, TV es ns (T.getD a.toNat 0) = f a.toNat) → (∀ a ∈ xs, InC m (T.getD a.toNat 0)) →
    cntOf f xs = cntC (-1) (trI T xs) + cnt (valsFrom es ns) (restOf (trI T xs))
  | [], _, _ => rfl
  | a :: r, h, hc => by
    have ih := cnt_split (f := f) (m := m) r (fun x hx => h x (List.mem_cons_of_mem _ hx)) (fun x hx => hc x (List.mem_cons_of_mem _ hx))
    have h0 := h a List.mem_cons_self
    have c0 := hc a List.mem_cons_self
    unfold cntOf cntC cnt restOf trI at ih ⊢
    simp only [List.map_cons, List.countP_cons]
    rw [ih, ← h0]
    generalize T.getD a.toNat 0 = b at *
    unfold TV
    by_cases h1 : b = -1
    · subst h1; simp; omega
    · by_cases h2 : b = -2
      · subst h2; simp
      · simp only [List.filter_cons, h1, h2, ne_eq, not_false_eq_true, decide_true, Bool.and_true, if_true, List.countP_cons, decide_false, Bool.false_eq_true, if_false]
        unfold VB
        omega
theorem cnt_lel (es : List Bool) (l : List Int) : cnt es l ≤ l.length := List.countP_le_length
theorem cnt_head {es : List Bool} {ns : List Nd} {l : List Int} (h : l.length = 1) : cnt (valsFrom es ns) l = if VB es ns (l.getD 0 0) then 1 else 0 := by
  obtain ⟨a, rfl⟩ := List.length_eq_one_iff.1 h
  exact cnt_one
theorem fold1_law {v : Nat} {d : Nd} {rest : List Int} {t f : Nat} {ns : List Nd} {m : Int} (h : NF v ns) (hd : d.Fits m) (hr : ∀ a ∈ rest, InR (v + ns.length) a) (hlen : t + f + rest.length = d.args.length) :
    NF v (fold1 v d rest t f ns).1 ∧ InC (v + (fold1 v d rest t f ns).1.length) (fold1 v d rest t f ns).2 ∧ (∃ r, (fold1 v d rest t f ns).1 = ns ++ r ∧ ∀ x ∈ r, x.kind ≠ 0) ∧
    ∀ (es : List Bool) (c : Nat), es.length = v → c = t + cnt (valsFrom es ns) rest → TV es (fold1 v d rest t f ns).1 (fold1 v d rest t f ns).2 = nodeVal d c := by
  have hl16 := hd.len
  have har := hd.ar
  have hk0 := hd.k0; have hk1 := hd.k1; have hkk := hd.kk
  have hcst : ∀ b : Bool, InC (v + ns.length) (cst b) := fun b => by cases b; exact .inr (.inl rfl); exact .inl rfl
  have hnew : InR (v + ((ns.length + 1 : Nat) : Int)) ((v : Int) + ns.length) := ⟨by omega, by omega⟩
  have hnew' : ∀ d' : Nd, InC (v + (ns ++ [d']).length) ((v : Int) + ns.length) := fun d' => .inr (.inr (by rw [List.length_append, List.length_singleton]; exact hnew))
  have hdone : ∀ (b : Bool), (∀ (es : List Bool) (c : Nat), es.length = v → c = t + cnt (valsFrom es ns) rest → b = nodeVal d c) →
      NF v ns ∧ InC (v + ns.length) (cst b) ∧ (∃ r, ns = ns ++ r ∧ ∀ x ∈ r, x.kind ≠ 0) ∧ ∀ (es : List Bool) (c : Nat), es.length = v → c = t + cnt (valsFrom es ns) rest → TV es ns (cst b) = nodeVal d c :=
    fun b hb => ⟨h, hcst b, ⟨[], by simp, by simp⟩, fun es c he hc => by rw [TV_cst]; exact hb es c he hc⟩
  have hadd : ∀ (d' : Nd), d'.args = rest → d'.kind ≠ 0 → d'.Fits (v + ns.length) → (∀ (es : List Bool) (c : Nat), es.length = v → c = t + cnt (valsFrom es ns) rest → nodeVal d' (cnt (valsFrom es ns) rest) = nodeVal d c) →
      NF v (ns ++ [d']) ∧ InC (v + (ns ++ [d']).length) ((v : Int) + ns.length) ∧ (∃ r, ns ++ [d'] = ns ++ r ∧ ∀ x ∈ r, x.kind ≠ 0) ∧ ∀ (es : List Bool) (c : Nat), es.length = v → c = t + cnt (valsFrom es ns) rest → TV es (ns ++ [d']) ((v : Int) + ns.length) = nodeVal d c :=
    fun d' ha hk hf hb => ⟨h.snoc hf, hnew' d', ⟨[d'], rfl, by simpa using hk⟩, fun es c he hc => by rw [TV_in hnew, VB_new he, ha]; exact hb es c he hc⟩
  have hone : rest.length = 1 → (∀ (es : List Bool) (c : Nat), es.length = v → c = t + cnt (valsFrom es ns) rest → VB es ns (rest.getD 0 0) = nodeVal d c) →
      NF v ns ∧ InC (v + ns.length) (rest.getD 0 0) ∧ (∃ r, ns = ns ++ r ∧ ∀ x ∈ r, x.kind ≠ 0) ∧ ∀ (es : List Bool) (c : Nat), es.length = v → c = t + cnt (valsFrom es ns) rest → TV es ns (rest.getD 0 0) = nodeVal d c :=
    fun hl hb => by
      have hin := getD_in hr (i := 0) (by omega)
      exact ⟨h, .inr (.inr hin), ⟨[], by simp, by simp⟩, fun es c he hc => by rw [TV_in hin]; exact hb es c he hc⟩
  have r16 : rest.length ≤ 16 := by omega
  have bb : ∀ (P Q : Prop) [Decidable P] [Decidable Q], (P ↔ Q) → decide P = decide Q := fun P Q _ _ h => decide_eq_decide.2 h
  unfold fold1
  split
  · rename_i e
    exact hdone _ fun es c he hc => by rw [nv0 e]
  · split
    · rename_i e0 e1
      have hl1 : d.args.length = 1 := by rw [e1] at har; unfold argsB at har; simp at har; omega
      split
      · rename_i hr0
        exact hdone _ fun es c he hc => by
          have := cnt_lel (valsFrom es ns) rest
          rw [nv1 e1]; exact bb _ _ (by omega)
      · rename_i hr0
        obtain ⟨a, ha⟩ := List.length_eq_one_iff.1 (show rest.length = 1 by omega)
        refine hadd _ rfl (show (1 : Int) ≠ 0 by decide) ?_ fun es c he hc => ?_
        · have := hr a (by rw [ha]; exact List.mem_cons_self)
          rw [ha]; exact Fits.mk1 this
        · rw [nv1 rfl, nv1 e1]; exact bb _ _ (by omega)
    · split
      · rename_i e0 e1 e2
        split
        · rename_i hr0
          exact hdone _ fun es c he hc => by
            have := cnt_lel (valsFrom es ns) rest
            rw [nv2 e2]; exact bb _ _ (by omega)
        · rename_i hr0
          unfold foldG
          split
          · rename_i hr1
            refine hone hr1 fun es c he hc => ?_
            have := cnt_head (es := es) (ns := ns) hr1
            rw [nv2 e2]
            cases hb : VB es ns (rest.getD 0 0) <;> rw [hb] at this <;> simp at this <;> symm <;> simp <;> omega
          · rw [if_neg (by omega)]
            refine hadd _ rfl (by show d.kind ≠ 0; omega) ?_ fun es c he hc => ?_
            · rw [e2]; exact Fits.mk2 (.inl rfl) (fun h0 => by rw [h0] at hr0; simp at hr0) r16 hr
            · have := cnt_lel (valsFrom es ns) rest
              rw [nv2 (d := ⟨d.kind, 0, rest⟩) e2, nv2 e2]; exact bb _ _ (by show _ = (rest.length : Int) ↔ _; omega)
      · split
        · rename_i e0 e1 e2 e3
          split
          · rename_i hr0
            exact hdone _ fun es c he hc => by
              have := cnt_lel (valsFrom es ns) rest
              rw [nv3 e3]; exact bb _ _ (by omega)
          · rename_i hr0
            unfold foldG
            split
            · rename_i hr1
              refine hone hr1 fun es c he hc => ?_
              have := cnt_head (es := es) (ns := ns) hr1
              rw [nv3 e3]
              cases hb : VB es ns (rest.getD 0 0) <;> rw [hb] at this <;> simp at this <;> symm <;> simp <;> omega
            · rw [if_neg (by omega)]
              refine hadd _ rfl (by show d.kind ≠ 0; omega) ?_ fun es c he hc => ?_
              · rw [e3]; exact Fits.mk2 (.inr rfl) (fun h0 => by rw [h0] at hr0; simp at hr0) r16 hr
              · rw [nv3 (d := ⟨d.kind, 0, rest⟩) e3, nv3 e3]; exact bb _ _ (by omega)
        · split
          · rename_i e0 e1 e2 e3 e4
            have hk4 := hkk.2.1 e4
            split
            · rename_i hr0
              exact hdone _ fun es c he hc => by
                have := cnt_lel (valsFrom es ns) rest
                rw [nv4 e4]; exact bb _ _ (by omega)
            · rename_i hr0
              unfold foldG
              split
              · rename_i hr1
                refine hone hr1 fun es c he hc => ?_
                have := cnt_head (es := es) (ns := ns) hr1
                rw [nv4 e4]
                cases hb : VB es ns (rest.getD 0 0) <;> rw [hb] at this <;> simp at this <;> symm <;> simp <;> omega
              · refine hadd _ rfl (show (4 : Int) ≠ 0 by decide) (Fits.mk4 (by omega) (by omega) r16 hr) fun es c he hc => ?_
                rw [nv4 rfl, nv4 e4]; exact bb _ _ (by show d.k - t ≤ _ ↔ _; omega)
          · rename_i e0 e1 e2 e3 e4
            have e5 : d.kind = 5 := by omega
            split
            · rename_i hr0
              exact hdone _ fun es c he hc => by
                have := cnt_lel (valsFrom es ns) rest
                rw [nv5 e5]; exact bb _ _ (by omega)
            · rename_i hr0
              have hs : ∃ s : List Nd × Int, s = (if 1 < rest.length then (ns ++ [⟨5, 0, rest⟩], (v : Int) + ns.length) else (ns, rest.getD 0 0)) ∧ NF v s.1 ∧ InR (v + s.1.length) s.2 ∧ (∃ r, s.1 = ns ++ r ∧ ∀ x ∈ r, x.kind ≠ 0) ∧ ∀ (es : List Bool), es.length = v → VB es s.1 s.2 = decide (cnt (valsFrom es ns) rest % 2 = 1) := by
                by_cases h1 : 1 < rest.length
                · refine ⟨_, (if_pos h1).symm, h.snoc (Fits.mk5 (fun h0 => by rw [h0] at hr0; simp at hr0) r16 hr), by rw [List.length_append, List.length_singleton]; exact hnew, ⟨_, rfl, by simp⟩, fun es he => ?_⟩
                  rw [VB_new he, nv5 rfl]
                · have hr1 : rest.length = 1 := by omega
                  refine ⟨_, (if_neg h1).symm, h, getD_in hr (by omega), ⟨[], by simp, by simp⟩, fun es he => ?_⟩
                  rw [cnt_head hr1]
                  cases VB es ns (rest.getD 0 0) <;> rfl
              obtain ⟨s, hse, hs1, hs2, ⟨r, hs3, hs3'⟩, hs4⟩ := hs
              unfold foldX
              rw [← hse]
              dsimp only
              split
              · rename_i ht
                have hnw : InR (v + (s.1 ++ ([⟨1, 0, [s.2]⟩] : List Nd)).length) ((v : Int) + s.1.length) := ⟨by omega, by rw [List.length_append, List.length_singleton]; omega⟩
                refine ⟨hs1.snoc (Fits.mk1 hs2), .inr (.inr hnw), ⟨r ++ [⟨1, 0, [s.2]⟩], by rw [hs3, List.append_assoc], fun x hx => ?_⟩, fun es c he hc => ?_⟩
                · rcases List.mem_append.1 hx with hx | hx
                  · exact hs3' x hx
                  · obtain rfl := List.mem_singleton.1 hx; exact (show (1 : Int) ≠ 0 by decide)
                · rw [TV_in hnw, VB_new he, nv1 rfl, cnt_one, hs4 es he, nv5 e5]
                  by_cases hq : cnt (valsFrom es ns) rest % 2 = 1
                  · simp [hq]; omega
                  · simp [hq]; omega
              · rename_i ht
                refine ⟨hs1, .inr (.inr hs2), ⟨r, hs3, hs3'⟩, fun es c he hc => ?_⟩
                rw [TV_in hs2, hs4 es he, nv5 e5]
                exact bb _ _ (by omega)
end Go.GL
namespace Go.GL
set_option linter.unusedVariables false
set_option linter.unusedSimpArgs false
theorem foldS_law {F : Fm} (hg : F.Good) {v : Nat} (hv : F.vars = v) : ∀ k, k ≤ F.nodes.length → NF v (foldS v F.nodes k).2 ∧ (∀ a ∈ (foldS v F.nodes k).1, InC (v + (foldS v F.nodes k).2.length) a) ∧ (∀ x ∈ (foldS v F.nodes k).2, x.kind ≠ 0) ∧
    ∀ (x : Int), ∀ j, j < v + k → TV (events v x) (foldS v F.nodes k).2 ((foldS v F.nodes k).1.getD j 0) = F.val x j
  | 0, _ => by
    have hvn : F.vars.toNat = v := by omega
    have hin : ∀ a ∈ evI v, InR ((v : Int) + ((0 : Nat) : Int)) a := fun a ha => by
      obtain ⟨i, hi, rfl⟩ := List.mem_map.1 ha
      have := List.mem_range.1 hi
      exact ⟨by omega, by omega⟩
    refine ⟨NF.nil, fun a ha => .inr (.inr (hin a ha)), fun x hx => by simp [foldS] at hx, fun x j hj => ?_⟩
    show TV (events v x) [] ((evI v).getD j 0) = _
    rw [TV_in (m := v) ⟨by rw [evI_getD (by omega)]; omega, by rw [evI_getD (by omega)]; omega⟩, evI_getD (by omega), VB_event (by omega), F.val_event x (by omega)]
  | k + 1, hk => by
    have hvn : F.vars.toNat = v := by omega
    obtain ⟨h1, h2, h3, h4⟩ := foldS_law hg hv k (by omega)
    have hkn : k < F.nodes.length := by omega
    have hfit := hg.fits k hkn
    have hl := foldS_len (v := v) (nodes := F.nodes) k
    have hd : F.nodes.getD k ⟨0, 0, []⟩ = F.nodes[k] := by simp [hkn]
    have hal := fun a ha => hg.argLt hkn a ha
    have hc : ∀ a ∈ F.nodes[k].args, InC (v + (foldS v F.nodes k).2.length) ((foldS v F.nodes k).1.getD a.toNat 0) := fun a ha => by
      have hlt : a.toNat < (foldS v F.nodes k).1.length := by have := hal a ha; omega
      rw [List.getD_eq_getElem?_getD, List.getElem?_eq_getElem hlt]
      exact h2 _ (List.getElem_mem _)
    have hr : ∀ a ∈ restOf (trI (foldS v F.nodes k).1 F.nodes[k].args), InR (v + (foldS v F.nodes k).2.length) a := fun a ha => by
      obtain ⟨hm, n1, n2⟩ := restOf_mem ha
      obtain ⟨b, hb, rfl⟩ := List.mem_map.1 hm
      rcases hc b hb with h | h | h
      · exact absurd h n1
      · exact absurd h n2
      · exact h
    have hlen : cntC (-1) (trI (foldS v F.nodes k).1 F.nodes[k].args) + cntC (-2) (trI (foldS v F.nodes k).1 F.nodes[k].args) + (restOf (trI (foldS v F.nodes k).1 F.nodes[k].args)).length = F.nodes[k].args.length := by rw [count3, trI_length]
    obtain ⟨b0, b1, ⟨r, hr1, hr2⟩, b3⟩ := fold1_law h1 hfit hr hlen
    have hf1 := (fold1_len v F.nodes[k] (restOf (trI (foldS v F.nodes k).1 F.nodes[k].args)) (cntC (-1) (trI (foldS v F.nodes k).1 F.nodes[k].args)) (cntC (-2) (trI (foldS v F.nodes k).1 F.nodes[k].args)) (foldS v F.nodes k).2).1
    simp only [foldS]
    rw [hd]
    refine ⟨b0, fun a ha => ?_, fun x hx => ?_, fun x j hj => ?_⟩
    · rcases List.mem_append.1 ha with ha | ha
      · exact (h2 a ha).mono (by omega)
      · obtain rfl := List.mem_singleton.1 ha; exact b1
    · rw [hr1] at hx
      rcases List.mem_append.1 hx with hx | hx
      · exact h3 x hx
      · exact hr2 x hx
    · have hes : (events v x).length = v := events_length v x
      by_cases hjk : j < v + k
      · have hlt : j < (foldS v F.nodes k).1.length := by omega
        rw [List.getD_eq_getElem?_getD, List.getElem?_append_left hlt, ← List.getD_eq_getElem?_getD, hr1, TV_old hes, h4 x j hjk]
        rw [List.getD_eq_getElem?_getD, List.getElem?_eq_getElem hlt]
        exact h2 _ (List.getElem_mem _)
      · obtain rfl : j = v + k := by omega
        rw [List.getD_eq_getElem?_getD, List.getElem?_append_right (by omega), hl.1, Nat.sub_self]
        have hn := Fm.val_node hg x hkn
        rw [hvn] at hn
        rw [hn]
        exact b3 (events v x) (cntOf (F.val x) F.nodes[k].args) hes (cnt_split (m := v + (foldS v F.nodes k).2.length) _ (fun a ha => h4 x a.toNat (by have := hal a ha; omega)) hc)
section
variable {F : Fm}
theorem foldT_in (hg : F.Good) : InC (F.vars + F.foldB.nodes.length) F.foldT := by
  have g0 := hg.v0; have gt := hg.topLt
  obtain ⟨v, hv⟩ := Int.eq_ofNat_of_zero_le g0
  have hvn : F.vars.toNat = v := by omega
  obtain ⟨_, h2, _, _⟩ := foldS_law hg hv F.nodes.length (Nat.le_refl _)
  have hl := foldS_len (v := v) (nodes := F.nodes) F.nodes.length
  unfold Fm.foldB Fm.foldT
  rw [hvn, hv]
  have hlt : F.top.toNat < (foldS v F.nodes F.nodes.length).1.length := by omega
  rw [List.getD_eq_getElem?_getD, List.getElem?_eq_getElem hlt]
  exact h2 _ (List.getElem_mem _)
theorem foldB_fit (hg : F.Good) (h : ¬(F.foldT = -1 ∨ F.foldT = -2)) : F.foldB.Fit := by
  have g0 := hg.v0
  obtain ⟨v, hv⟩ := Int.eq_ofNat_of_zero_le g0
  have hvn : F.vars.toNat = v := by omega
  obtain ⟨h1, _, _, _⟩ := foldS_law hg hv F.nodes.length (Nat.le_refl _)
  refine ⟨hg.v0, hg.v1, ?_, ?_⟩
  · unfold Fm.foldB
    rw [hvn]
    simp only
    rw [hv]
    exact h1
  · rcases foldT_in hg with e | e | e
    · exact absurd (.inl e) h
    · exact absurd (.inr e) h
    · exact e
theorem foldC_good (hg : F.Good) (h : F.foldT = -1 ∨ F.foldT = -2) : F.foldC.Good := by
  have g0 := hg.v0
  refine Fm.Fit.good ⟨hg.v0, hg.v1, fun i hi => ?_, ⟨g0, ?_⟩⟩ (by simp [Fm.foldC])
  · unfold Fm.foldC at hi ⊢
    obtain rfl : i = 0 := by simpa using hi
    exact Fits.mk0 (by omega)
  · unfold Fm.foldC
    simp only [List.length_singleton]
    omega
theorem fold_value (hg : F.Good) (x : Int) : (F.foldT = -1 ∨ F.foldT = -2 → F.foldC.value x = F.value x) ∧ (¬(F.foldT = -1 ∨ F.foldT = -2) → F.foldB.trim.value x = F.value x) := by
  have g0 := hg.v0; have gt := hg.topLt
  obtain ⟨v, hv⟩ := Int.eq_ofNat_of_zero_le g0
  have hvn : F.vars.toNat = v := by omega
  have h := (foldS_law hg hv F.nodes.length (Nat.le_refl _)).2.2.2 x F.top.toNat (by omega)
  have hT : (foldS v F.nodes F.nodes.length).1.getD F.top.toNat 0 = F.foldT := by unfold Fm.foldT; rw [hvn]
  rw [hT] at h
  constructor
  · intro hc
    have hgc := foldC_good hg hc
    have hcv : F.foldC.vars.toNat = v := hvn
    rw [Fm.value_eq, Fm.value_eq, ← h]
    have hn := Fm.val_node hgc x (i := 0) (by simp [Fm.foldC])
    rw [hcv] at hn
    rw [show F.foldC.top.toNat = v + 0 from hvn, hn]
    rw [nv0 (d := F.foldC.nodes[0]'(by simp [Fm.foldC])) rfl]
    rcases hc with e | e
    · have : (F.foldC.nodes[0]'(by simp [Fm.foldC])).k = 1 := by show F.foldT + 2 = 1; omega
      rw [this, e]; rfl
    · have : (F.foldC.nodes[0]'(by simp [Fm.foldC])).k = 0 := by show F.foldT + 2 = 0; omega
      rw [this, e]; rfl
  · intro hc
    have hfit := foldB_fit hg hc
    rw [Fm.value_eq, F.foldB.trim_top, Int.toNat_natCast, Fit.Fm.trim_val hfit x _ (Fit.Fm.below_top hfit), Fm.value_eq, ← h]
    have hin : InR (v + (foldS v F.nodes F.nodes.length).2.length) F.foldT := by
      have := foldT_in hg
      unfold Fm.foldB at this
      rw [hvn, hv] at this
      rcases this with e | e | e
      · exact absurd (.inl e) hc
      · exact absurd (.inr e) hc
      · exact e
    rw [TV_in hin]
    unfold Fm.foldB Fm.val Fm.values VB
    rw [hvn]
theorem fold_noconst (hg : F.Good) (h : ¬(F.foldT = -1 ∨ F.foldT = -2)) : ∀ d ∈ F.foldB.trim.nodes, d.kind ≠ 0 := by
  have g0 := hg.v0
  obtain ⟨v, hv⟩ := Int.eq_ofNat_of_zero_le g0
  have hvn : F.vars.toNat = v := by omega
  obtain ⟨_, _, h3, _⟩ := foldS_law hg hv F.nodes.length (Nat.le_refl _)
  have hfit := foldB_fit hg h
  intro d hd
  obtain ⟨i, hi, rfl⟩ := List.getElem_of_mem hd
  obtain ⟨k, hk, _, _, he⟩ := Fit.Fm.trim_fits hfit hi
  rw [he]
  refine h3 (F.foldB.nodes[k]) ?_
  have : F.foldB.nodes = (foldS v F.nodes F.nodes.length).2 := by unfold Fm.foldB; rw [hvn]
  rw [← this]
  exact List.getElem_mem _
end
theorem foldF_ok (F : Fm) : F.foldF.ok := by
  unfold Fm.foldF
  cases h : F.err with
  | some e => exact zero_ok
  | none =>
    have hg := (Fm.good_iff F).1 h
    dsimp only
    split
    · rename_i hc; exact (foldC_good hg hc).ok
    · rename_i hc; exact sizedF_ok (Fit.Fm.trim_good (foldB_fit hg hc))
theorem bld_in3 {T TN : TypeId} {b : Nat} {v t : Int} {ns : List Nd} {s : BS} {HB : List Ent} {e f : Ent} : Le (e :: f :: bld T TN b v ns t s HB) (f :: bld T TN b v ns t s (e :: HB)) := by
  refine Le.perm ((List.Perm.swap _ _ _).trans (List.Perm.cons _ ?_))
  unfold bld
  exact (List.Perm.swap _ _ _).trans (List.Perm.cons _ ((List.Perm.swap _ _ _).trans (List.Perm.cons _ List.perm_middle.symm)))
end Go.GL
