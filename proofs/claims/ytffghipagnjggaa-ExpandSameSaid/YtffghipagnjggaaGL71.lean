import Derived.Test.YtffghipagnjggaaGL70
namespace Go.GL
set_option linter.unusedVariables false
set_option linter.unusedSimpArgs false
def sizedF (F : Fm) : Fm := if 128 < F.nodes.length then Fm.zero else F
def sizedE (F : Fm) : Option Int := if 128 < F.nodes.length then some 4 else none
def NewN (T : TypeId) (F : Fm) (e : Option Int) (H : List Ent) : Value → List Ent → Prop := fun u H' =>
  ∃ a c N, u = .tuple (List.toArray [.agg (List.toArray [.int .i64 F.vars, slV a 0 F.nodes.length c, .int .i64 F.top]), errV T e]) ∧ RNodes N a 0 F.nodes ∧ N ++ H = H'
def NewV (F : Fm) (ev : Value) (H : List Ent) : Value → List Ent → Prop := fun u H' =>
  ∃ a c N, u = .tuple (List.toArray [.agg (List.toArray [.int .i64 F.vars, slV a 0 F.nodes.length c, .int .i64 F.top]), ev]) ∧ RNodes N a 0 F.nodes ∧ N ++ H = H'
def NewA (F : Fm) (H : List Ent) : Value → List Ent → Prop := fun u H' =>
  ∃ a c N, u = .agg (List.toArray [.int .i64 F.vars, slV a 0 F.nodes.length c, .int .i64 F.top]) ∧ RNodes N a 0 F.nodes ∧ N ++ H = H'
theorem sub_app {H H' N : List Ent} (s : H.Sublist H') : Le (N ++ H') (N ++ H) := Le.sub ((List.Sublist.refl N).append s)
abbrev P3 := List Nd × Int × Int
def p2 (d : Nd) (P N : List Int) : Nd × Nd :=
  if d.kind = 0 then (⟨0, d.k, []⟩, ⟨0, 1 - d.k, []⟩)
  else if d.kind = 1 then (⟨3, 0, trI N d.args⟩, ⟨3, 0, trI P d.args⟩)
  else if d.kind = 2 then (⟨2, 0, trI P d.args⟩, ⟨3, 0, trI N d.args⟩)
  else if d.kind = 3 then (⟨3, 0, trI P d.args⟩, ⟨2, 0, trI N d.args⟩)
  else (⟨4, d.k, trI P d.args⟩, ⟨4, d.args.length - d.k + 1, trI N d.args⟩)
def xor6 (v p n : Int) (s : P3) : P3 :=
  (s.1 ++ [⟨2, 0, [s.2.1, n]⟩] ++ [⟨2, 0, [s.2.2, p]⟩] ++ [⟨3, 0, [v + s.1.length, v + (s.1.length + 1 : Nat)]⟩] ++ [⟨2, 0, [s.2.1, p]⟩] ++ [⟨2, 0, [s.2.2, n]⟩] ++ [⟨3, 0, [v + (s.1.length + 3 : Nat), v + (s.1.length + 4 : Nat)]⟩], v + (s.1.length + 2 : Nat), v + (s.1.length + 5 : Nat))
def xorR (v : Int) (P N : List Int) : List Int → P3 → P3
  | [], s => s
  | a :: r, s => xorR v P N r (xor6 v (P.getD a.toNat 0) (N.getD a.toNat 0) s)
def xorI (v : Int) (p n : Int) (ns : List Nd) : P3 := (ns ++ [⟨3, 0, [p]⟩] ++ [⟨3, 0, [n]⟩], v + ns.length, v + (ns.length + 1 : Nat))
def xor0 (v : Int) (P N : List Int) (args : List Int) (ns : List Nd) : P3 := xorR v P N args.tail (xorI v (P.getD (args.headD 0).toNat 0) (N.getD (args.headD 0).toNat 0) ns)
def pushN (v : Int) (P N : List Int) (d : Nd) (ns : List Nd) : P3 :=
  if d.kind = 5 then xor0 v P N d.args ns else (ns ++ [(p2 d P N).1] ++ [(p2 d P N).2], v + ns.length, v + (ns.length + 1 : Nat))
def evI (k : Nat) : List Int := (List.range k).map (fun i : Nat => (i : Int))
def ngI (v : Int) (k : Nat) : List Int := (List.range k).map (fun i : Nat => v + i)
def ngN (k : Nat) : List Nd := (List.range k).map (fun i : Nat => ⟨1, 0, [(i : Int)]⟩)
theorem evI_succ (k : Nat) : evI (k + 1) = evI k ++ [(k : Int)] := by simp [evI, List.range_succ]
theorem ngI_succ (v : Int) (k : Nat) : ngI v (k + 1) = ngI v k ++ [v + k] := by simp [ngI, List.range_succ]
theorem ngN_succ (k : Nat) : ngN (k + 1) = ngN k ++ [⟨1, 0, [(k : Int)]⟩] := by simp [ngN, List.range_succ]
theorem evI_length (k : Nat) : (evI k).length = k := by simp [evI]
theorem ngI_length (v : Int) (k : Nat) : (ngI v k).length = k := by simp [ngI]
theorem ngN_length (k : Nat) : (ngN k).length = k := by simp [ngN]
def pushS (v : Nat) (nodes : List Nd) : Nat → List Int × List Int × List Nd
  | 0 => (evI v, ngI v v, ngN v)
  | k + 1 =>
    let s := pushS v nodes k
    let r := pushN v s.1 s.2.1 (nodes.getD k ⟨0, 0, []⟩) s.2.2
    (s.1 ++ [r.2.1], s.2.1 ++ [r.2.2], r.1)
theorem xor6_len (v p n : Int) (s : P3) : (xor6 v p n s).1.length = s.1.length + 6 := by simp [xor6]
theorem xorR_snoc (v : Int) (P N : List Int) (a : Int) : ∀ (l : List Int) (s : P3), xorR v P N (l ++ [a]) s = xor6 v (P.getD a.toNat 0) (N.getD a.toNat 0) (xorR v P N l s)
  | [], s => rfl
  | b :: r, s => by rw [List.cons_append, xorR, xorR]; exact xorR_snoc v P N a r _
theorem xorR_len (v : Int) (P N : List Int) : ∀ (l : List Int) (s : P3), (xorR v P N l s).1.length = s.1.length + 6 * l.length
  | [], s => by simp [xorR]
  | b :: r, s => by rw [xorR, xorR_len v P N r, xor6_len]; simp; omega
theorem pushN_len (v : Int) (P N : List Int) (d : Nd) (ns : List Nd) (h : d.args.length ≤ 16) : ns.length ≤ (pushN v P N d ns).1.length ∧ (pushN v P N d ns).1.length ≤ ns.length + 92 := by
  unfold pushN
  split
  · unfold xor0
    rw [xorR_len]
    simp [xorI]
    omega
  · simp
theorem pushS_len {v : Nat} {nodes : List Nd} (h : ∀ i (hi : i < nodes.length), nodes[i].args.length ≤ 16) : ∀ k, k ≤ nodes.length → (pushS v nodes k).1.length = v + k ∧ (pushS v nodes k).2.1.length = v + k ∧ (pushS v nodes k).2.2.length ≤ v + 92 * k
  | 0, _ => by simp [pushS, evI_length, ngI_length, ngN_length]
  | k + 1, hk => by
    obtain ⟨h1, h2, h3⟩ := pushS_len (v := v) h k (by omega)
    have hk' : k < nodes.length := by omega
    have h4 := (pushN_len v (pushS v nodes k).1 (pushS v nodes k).2.1 (nodes.getD k ⟨0, 0, []⟩) (pushS v nodes k).2.2 (by
      have := h k (by omega)
      rwa [show nodes.getD k ⟨0, 0, []⟩ = nodes[k] from by simp [hk']])).2
    simp only [pushS, List.length_append, List.length_cons, List.length_nil]
    omega
def Fm.pushB (F : Fm) : Fm := ⟨F.vars, (pushS F.vars.toNat F.nodes F.nodes.length).2.2, (pushS F.vars.toNat F.nodes F.nodes.length).1.getD F.top.toNat 0⟩
def NF (v : Int) (ns : List Nd) : Prop := ∀ i (h : i < ns.length), ns[i].Fits (v + i)
theorem NF.nil {v : Int} : NF v [] := fun i h => by simp at h
theorem NF.snoc {v : Int} {ns : List Nd} {d : Nd} (h : NF v ns) (hd : d.Fits (v + ns.length)) : NF v (ns ++ [d]) := by
  intro i hi
  rcases Nat.lt_or_ge i ns.length with h1 | h1
  · rw [List.getElem_append_left h1]; exact h i h1
  · have e : i = ns.length := by simp at hi; omega
    subst e
    simpa using hd
def InR (m : Int) (a : Int) : Prop := 0 ≤ a ∧ a < m
theorem InR.mono {m m' a : Int} (h : InR m a) (hm : m ≤ m') : InR m' a := ⟨h.1, by have := h.2; omega⟩
theorem trI_in {m : Int} {P xs : List Int} (hP : ∀ a ∈ P, InR m a) (hx : ∀ a ∈ xs, a.toNat < P.length) : ∀ a ∈ trI P xs, InR m a := by
  intro a ha
  obtain ⟨b, hb, rfl⟩ := List.mem_map.1 ha
  have := hx b hb
  rw [List.getD_eq_getElem?_getD, List.getElem?_eq_getElem this]
  exact hP _ (List.getElem_mem _)
theorem getD_in {m : Int} {P : List Int} (hP : ∀ a ∈ P, InR m a) {i : Nat} (hi : i < P.length) : InR m (P.getD i 0) := by
  rw [List.getD_eq_getElem?_getD, List.getElem?_eq_getElem hi]
  exact hP _ (List.getElem_mem _)
theorem Fits.mk2 {m : Int} {k : Int} {l : List Int} (hk : k = 2 ∨ k = 3) (h0 : l ≠ []) (h1 : l.length ≤ 16) (h : ∀ a ∈ l, InR m a) : (⟨k, 0, l⟩ : Nd).Fits m := by
  have hl : 1 ≤ l.length := List.length_pos_iff.2 h0
  refine ⟨?_, ?_, ?_, h, ?_, ?_, ?_⟩
  · show 0 ≤ k; omega
  · show k ≤ 5; omega
  · show argsB k l.length = true
    unfold argsB
    rw [if_neg (by omega), if_neg (by omega)]
    simp
    omega
  · intro (e : k = 0); omega
  · intro (e : k = 4); omega
  · intro _ _; rfl
theorem Fits.mk0 {m k : Int} (hk : k = 0 ∨ k = 1) : (⟨0, k, []⟩ : Nd).Fits m where
  k0 := Int.le_refl 0
  k1 := show (0 : Int) ≤ 5 by decide
  ar := show argsB 0 0 = true by decide
  args := fun a ha => by cases ha
  kk := ⟨fun _ => hk, fun h => absurd h (show ¬ (0 : Int) = 4 by decide), fun h => absurd rfl h⟩
theorem Fits.mk1 {m a : Int} (ha : InR m a) : (⟨1, 0, [a]⟩ : Nd).Fits m where
  k0 := show (0 : Int) ≤ 1 by decide
  k1 := show (1 : Int) ≤ 5 by decide
  ar := show argsB 1 1 = true by decide
  args := fun b hb => by obtain rfl := List.mem_singleton.1 hb; exact ha
  kk := ⟨fun h => absurd h (show ¬ (1 : Int) = 0 by decide), fun h => absurd h (show ¬ (1 : Int) = 4 by decide), fun _ _ => rfl⟩
theorem Fits.mk4 {m k : Int} {l : List Int} (h0 : 1 ≤ k) (h1 : k ≤ l.length) (h16 : l.length ≤ 16) (h : ∀ a ∈ l, InR m a) : (⟨4, k, l⟩ : Nd).Fits m where
  k0 := show (0 : Int) ≤ 4 by decide
  k1 := show (4 : Int) ≤ 5 by decide
  ar := by
    show argsB 4 l.length = true
    unfold argsB
    rw [if_neg (by decide), if_neg (by decide)]
    simp
    omega
  args := h
  kk := ⟨fun h => absurd h (show ¬ (4 : Int) = 0 by decide), fun _ => ⟨h0, h1⟩, fun _ h => absurd rfl h⟩
end Go.GL
namespace Go.GL
set_option linter.unusedVariables false
def Fm.pushF (F : Fm) : Fm := match F.err with | some _ => Fm.zero | none => sizedF F.pushB.trim
def Fm.pushE (F : Fm) : Option Int := match F.err with | some e => some e | none => sizedE F.pushB.trim
theorem xorI_in {v p n m : Int} {ns : List Nd} (h : NF v ns) (hv : 0 ≤ v) (hm : m = v + ns.length) (hp : InR m p) (hn : InR m n) :
    NF v (xorI v p n ns).1 ∧ InR (v + (xorI v p n ns).1.length) (xorI v p n ns).2.1 ∧ InR (v + (xorI v p n ns).1.length) (xorI v p n ns).2.2 := by
  subst hm
  have h1 : NF v (ns ++ [⟨3, 0, [p]⟩]) := h.snoc (Fits.mk2 (.inr rfl) (by simp) (by simp) (by simpa using hp))
  have h2 : NF v (ns ++ [⟨3, 0, [p]⟩] ++ [⟨3, 0, [n]⟩]) := h1.snoc (Fits.mk2 (.inr rfl) (by simp) (by simp) (by simpa using hn.mono (by omega)))
  unfold xorI InR
  refine ⟨h2, ?_, ?_⟩ <;> simp <;> omega
theorem xor6_in {v p n : Int} {s : P3} (hv : 0 ≤ v) (h : NF v s.1) (h1 : InR (v + s.1.length) s.2.1) (h2 : InR (v + s.1.length) s.2.2) (hp : InR (v + s.1.length) p) (hn : InR (v + s.1.length) n) :
    NF v (xor6 v p n s).1 ∧ InR (v + (xor6 v p n s).1.length) (xor6 v p n s).2.1 ∧ InR (v + (xor6 v p n s).1.length) (xor6 v p n s).2.2 := by
  obtain ⟨ns, y, m⟩ := s
  simp only at h h1 h2 hp hn
  have two : ∀ (k a b : Int) (l : List Nd), (k = 2 ∨ k = 3) → NF v l → InR (v + l.length) a → InR (v + l.length) b → NF v (l ++ [⟨k, 0, [a, b]⟩]) := fun k a b l hk hl ha hb =>
    hl.snoc (Fits.mk2 hk (by simp) (by simp) (by intro x hx; simp at hx; rcases hx with rfl | rfl <;> assumption))
  have a1 := two 2 y n ns (.inl rfl) h h1 hn
  have a2 := two 2 m p _ (.inl rfl) a1 (h2.mono (by simp; omega)) (hp.mono (by simp; omega))
  have a3 := two 3 (v + ns.length) (v + (ns.length + 1 : Nat)) _ (.inr rfl) a2 ⟨by omega, by simp; omega⟩ ⟨by omega, by simp⟩
  have a4 := two 2 y p _ (.inl rfl) a3 (h1.mono (by simp; omega)) (hp.mono (by simp; omega))
  have a5 := two 2 m n _ (.inl rfl) a4 (h2.mono (by simp; omega)) (hn.mono (by simp; omega))
  have a6 := two 3 (v + (ns.length + 3 : Nat)) (v + (ns.length + 4 : Nat)) _ (.inr rfl) a5 ⟨by omega, by simp⟩ ⟨by omega, by simp⟩
  refine ⟨a6, ?_, ?_⟩ <;> unfold xor6 InR <;> simp <;> omega
theorem xorR_in {v : Int} {P N : List Int} {m : Int} (hv : 0 ≤ v) (hP : ∀ a ∈ P, InR m a) (hN : ∀ a ∈ N, InR m a) : ∀ (l : List Int) (s : P3), (∀ a ∈ l, a.toNat < P.length ∧ a.toNat < N.length) → m ≤ v + s.1.length → NF v s.1 → InR (v + s.1.length) s.2.1 → InR (v + s.1.length) s.2.2 →
    NF v (xorR v P N l s).1 ∧ InR (v + (xorR v P N l s).1.length) (xorR v P N l s).2.1 ∧ InR (v + (xorR v P N l s).1.length) (xorR v P N l s).2.2
  | [], s, _, _, h, h1, h2 => ⟨h, h1, h2⟩
  | a :: r, s, hl, hm, h, h1, h2 => by
    rw [xorR]
    have ha := hl a List.mem_cons_self
    obtain ⟨b0, b1, b2⟩ := xor6_in hv h h1 h2 ((getD_in hP ha.1).mono hm) ((getD_in hN ha.2).mono hm)
    exact xorR_in hv hP hN r _ (fun x hx => hl x (List.mem_cons_of_mem _ hx)) (by rw [xor6_len]; omega) b0 b1 b2
theorem pushN_in {v : Int} {P N : List Int} {d : Nd} {ns : List Nd} {m : Nat} (hv : 0 ≤ v) (h : NF v ns) (hP : ∀ a ∈ P, InR (v + ns.length) a) (hN : ∀ a ∈ N, InR (v + ns.length) a) (hd : d.Fits m) (hPl : P.length = m) (hNl : N.length = m) :
    NF v (pushN v P N d ns).1 ∧ InR (v + (pushN v P N d ns).1.length) (pushN v P N d ns).2.1 ∧ InR (v + (pushN v P N d ns).1.length) (pushN v P N d ns).2.2 := by
  have hlen := hd.len
  have hlt : ∀ a ∈ d.args, a.toNat < P.length ∧ a.toNat < N.length := fun a ha => by have := hd.args a ha; omega
  have har := hd.ar
  have hk0 := hd.k0; have hk1 := hd.k1; have hkk := hd.kk
  have hne : d.kind ≠ 0 → d.args ≠ [] := by
    intro h0 h1
    rw [h1] at har
    unfold argsB at har
    rw [if_neg h0] at har
    split at har <;> simp at har
  unfold pushN
  split
  · rename_i h5
    unfold xor0
    obtain ⟨a, r, har'⟩ := List.exists_cons_of_ne_nil (hne (by omega))
    have ha := hlt a (by rw [har']; exact List.mem_cons_self)
    rw [har']
    obtain ⟨b0, b1, b2⟩ := xorI_in (p := P.getD a.toNat 0) (n := N.getD a.toNat 0) h hv rfl (getD_in hP ha.1) (getD_in hN ha.2)
    have hxl : (xorI v (P.getD a.toNat 0) (N.getD a.toNat 0) ns).1.length = ns.length + 2 := by simp [xorI]
    exact xorR_in hv hP hN r _ (fun x hx => hlt x (by rw [har']; exact List.mem_cons_of_mem _ hx)) (by show v + (ns.length : Int) ≤ v + ((xorI v (P.getD a.toNat 0) (N.getD a.toNat 0) ns).1.length : Int); rw [hxl]; omega) b0 b1 b2
  · rename_i h5
    have hP1 := fun (x : Int) (hx : x ∈ trI P d.args) => trI_in hP (fun a ha => (hlt a ha).1) x hx
    have hN1 := fun (x : Int) (hx : x ∈ trI N d.args) => trI_in hN (fun a ha => (hlt a ha).2) x hx
    have key : (p2 d P N).1.Fits (v + ns.length) ∧ (p2 d P N).2.Fits (v + (ns.length + 1 : Nat)) := by
      have trne : ∀ Q : List Int, d.kind ≠ 0 → trI Q d.args ≠ [] := fun Q h0 h1 => hne h0 (by simpa [trI] using h1)
      have mk : ∀ (k : Int) (Q : List Int) (M : Int), (k = 2 ∨ k = 3) → d.kind ≠ 0 → (∀ x ∈ trI Q d.args, InR M x) → (⟨k, 0, trI Q d.args⟩ : Nd).Fits M := fun k Q M hk h0 hq => Fits.mk2 hk (trne Q h0) (by rw [trI_length]; exact hlen) hq
      have mono : ∀ (Q : List Int), (∀ x ∈ trI Q d.args, InR (v + ns.length) x) → ∀ x ∈ trI Q d.args, InR (v + (ns.length + 1 : Nat)) x := fun Q hq x hx => (hq x hx).mono (by omega)
      unfold p2
      split
      · rename_i h0
        have := hkk.1 h0
        exact ⟨Fits.mk0 this, Fits.mk0 (by omega)⟩
      · split
        · rename_i h0 h1; exact ⟨mk 3 N _ (.inr rfl) h0 hN1, mk 3 P _ (.inr rfl) h0 (mono P hP1)⟩
        · split
          · rename_i h0 h1 h2; exact ⟨mk 2 P _ (.inl rfl) h0 hP1, mk 3 N _ (.inr rfl) h0 (mono N hN1)⟩
          · split
            · rename_i h0 h1 h2 h3; exact ⟨mk 3 P _ (.inr rfl) h0 hP1, mk 2 N _ (.inl rfl) h0 (mono N hN1)⟩
            · rename_i h0 h1 h2 h3
              have h4 : d.kind = 4 := by omega
              have hk4 := hkk.2.1 h4
              exact ⟨Fits.mk4 hk4.1 (by rw [trI_length]; exact hk4.2) (by rw [trI_length]; exact hlen) hP1, Fits.mk4 (by omega) (by rw [trI_length]; omega) (by rw [trI_length]; exact hlen) (mono N hN1)⟩
    refine ⟨(h.snoc key.1).snoc (by simpa using key.2), ?_, ?_⟩ <;> unfold InR <;> simp <;> omega
theorem pushS_in {F : Fm} (hg : F.Good) {v : Nat} (hv : F.vars = v) : ∀ k, k ≤ F.nodes.length → NF v (pushS v F.nodes k).2.2 ∧ (∀ a ∈ (pushS v F.nodes k).1, InR (v + (pushS v F.nodes k).2.2.length) a) ∧ (∀ a ∈ (pushS v F.nodes k).2.1, InR (v + (pushS v F.nodes k).2.2.length) a)
  | 0, _ => by
    simp only [pushS]
    have hnf : ∀ k, k ≤ v → NF v (ngN k) := by
      intro k
      induction k with
      | zero => intro _; exact NF.nil
      | succ k ih =>
        intro hk
        rw [ngN_succ]
        exact (ih (by omega)).snoc (Fits.mk1 ⟨by omega, by rw [ngN_length]; omega⟩)
    refine ⟨hnf v (Nat.le_refl _), fun a ha => ?_, fun a ha => ?_⟩
    · obtain ⟨i, hi, rfl⟩ := List.mem_map.1 ha
      have := List.mem_range.1 hi
      exact ⟨by omega, by rw [ngN_length]; omega⟩
    · obtain ⟨i, hi, rfl⟩ := List.mem_map.1 ha
      have := List.mem_range.1 hi
      exact ⟨by omega, by rw [ngN_length]; omega⟩
  | k + 1, hk => by
    obtain ⟨h1, h2, h3⟩ := pushS_in hg hv k (by omega)
    have hkn : k < F.nodes.length := by omega
    have hfit := hg.fits k hkn
    rw [hv] at hfit
    have hl := pushS_len (v := v) (fun i hi => (hg.fits i hi).len) k (by omega)
    have hd : F.nodes.getD k ⟨0, 0, []⟩ = F.nodes[k] := by simp [hkn]
    obtain ⟨b0, b1, b2⟩ := pushN_in (m := v + k) (by omega) h1 h2 h3 (by rw [Int.natCast_add]; exact hfit) hl.1 hl.2.1
    have hlen := (pushN_len v (pushS v F.nodes k).1 (pushS v F.nodes k).2.1 F.nodes[k] (pushS v F.nodes k).2.2 hfit.len).1
    simp only [pushS]
    rw [hd]
    refine ⟨b0, fun a ha => ?_, fun a ha => ?_⟩
    · rcases List.mem_append.1 ha with ha | ha
      · exact (h2 a ha).mono (by omega)
      · obtain rfl := List.mem_singleton.1 ha; exact b1
    · rcases List.mem_append.1 ha with ha | ha
      · exact (h3 a ha).mono (by omega)
      · obtain rfl := List.mem_singleton.1 ha; exact b2
theorem pushB_fit {F : Fm} (hg : F.Good) : F.pushB.Fit := by
  have g0 := hg.v0; have gt := hg.topLt
  obtain ⟨v, hv⟩ := Int.eq_ofNat_of_zero_le g0
  have hvn : F.vars.toNat = v := by omega
  obtain ⟨h1, h2, h3⟩ := pushS_in hg hv F.nodes.length (Nat.le_refl _)
  have hl := pushS_len (v := v) (fun i hi => (hg.fits i hi).len) F.nodes.length (Nat.le_refl _)
  unfold Fm.pushB
  rw [hvn]
  exact ⟨g0, hg.v1, by simp only; rw [hv]; exact h1, by simp only; have := getD_in h2 (i := F.top.toNat) (by omega); rw [hv]; exact this⟩
end Go.GL
