import Derived.Test.YtlgjmebebhpolaaGL22
namespace Go.GL
set_option linter.unusedVariables false
theorem Fm.Good.ok {F : Fm} (hg : F.Good) : F.ok := by
  have g0 := hg.v0; have g1 := hg.v1; have g2 := hg.n1; have gt := hg.topLt
  refine ⟨⟨by omega, by omega⟩, ⟨by omega, by omega⟩, fun d hd => ?_, by omega⟩
  obtain ⟨i, hi, rfl⟩ := List.getElem_of_mem hd
  have f := hg.fits i hi
  have k0 := f.k0; have k1 := f.k1; have hl := f.len
  obtain ⟨a, b, c⟩ := f.kk
  refine ⟨⟨by omega, by omega⟩, ?_, fun a ha => ?_, by omega⟩
  · by_cases h0 : F.nodes[i].kind = 0
    · have := a h0; exact ⟨by omega, by omega⟩
    · by_cases h4 : F.nodes[i].kind = 4
      · have := b h4; exact ⟨by omega, by omega⟩
      · have := c h0 h4; exact ⟨by omega, by omega⟩
  · have := f.args a ha; exact ⟨by omega, by omega⟩
section
variable {F : Fm}
theorem Fm.trS_len (F : Fm) (k : Nat) : (F.trS k).1.length = F.vars.toNat + F.nodes.length := trS_length k
theorem Fm.trS_succ (F : Fm) {k : Nat} (hk : k < F.nodes.length) : F.trS (k + 1) = (bif F.below.getD (F.vars.toNat + k) false then ((F.trS k).1.set (F.vars.toNat + k) (F.vars.toNat + (F.trS k).2.length), (F.trS k).2 ++ [trN (F.trS k).1 F.nodes[k]]) else F.trS k) := by
  unfold Fm.trS
  rw [GL.trS, show F.nodes.getD k ⟨0, 0, []⟩ = F.nodes[k] from by simp [hk]]
theorem Fm.trS_succ1 (F : Fm) {k : Nat} (hk : k < F.nodes.length) (h : F.below.getD (F.vars.toNat + k) false = true) : F.trS (k + 1) = ((F.trS k).1.set (F.vars.toNat + k) (F.vars.toNat + (F.trS k).2.length), (F.trS k).2 ++ [trN (F.trS k).1 F.nodes[k]]) := by
  rw [F.trS_succ hk, h]; rfl
theorem Fm.trS_succ0 (F : Fm) {k : Nat} (hk : k < F.nodes.length) (h : F.below.getD (F.vars.toNat + k) false = false) : F.trS (k + 1) = F.trS k := by
  rw [F.trS_succ hk, h]; rfl
theorem Fm.trS_stab (F : Fm) {k K : Nat} (hkK : k ≤ K) (hK : K ≤ F.nodes.length) {j : Nat} (hj : j < F.vars.toNat + k) : (F.trS K).1.getD j 0 = (F.trS k).1.getD j 0 := by
  induction K with
  | zero => obtain rfl : k = 0 := by omega
            rfl
  | succ K ih =>
    rcases Nat.lt_or_ge K k with h | h
    · obtain rfl : k = K + 1 := by omega
      rfl
    · rw [← ih h (by omega), F.trS_succ (by omega)]
      cases F.below.getD (F.vars.toNat + K) false with
      | false => rfl
      | true =>
        simp only [cond_true, List.getD_eq_getElem?_getD]
        rw [List.getElem?_set_ne (by omega)]
def Fm.ro (F : Fm) (j : Nat) : Nat := (F.trS F.nodes.length).1.getD j 0
def Fm.ix (F : Fm) (k : Nat) : Nat := (F.trS k).2.length
theorem Fm.ro_event (F : Fm) {j : Nat} (hj : j < F.vars.toNat) : F.ro j = j := by
  unfold Fm.ro
  rw [F.trS_stab (Nat.zero_le _) (Nat.le_refl _) (by omega)]
  unfold Fm.trS GL.trS
  rw [List.getD_eq_getElem?_getD, List.getElem?_append_left (by simpa using hj)]
  simp [hj]
theorem Fm.ro_node (F : Fm) {k : Nat} (hk : k < F.nodes.length) (h : F.below.getD (F.vars.toNat + k) false = true) : F.ro (F.vars.toNat + k) = F.vars.toNat + F.ix k := by
  unfold Fm.ro
  rw [F.trS_stab (k := k + 1) (by omega) (Nat.le_refl _) (by omega), F.trS_succ1 hk h]
  simp only [List.getD_eq_getElem?_getD]
  rw [List.getElem?_set_self (by rw [F.trS_len]; omega)]
  rfl
theorem Fm.ix_mono (F : Fm) {k K : Nat} (hkK : k ≤ K) (hK : K ≤ F.nodes.length) : F.ix k ≤ F.ix K := by
  induction K with
  | zero => obtain rfl : k = 0 := by omega
            exact Nat.le_refl _
  | succ K ih =>
    rcases Nat.lt_or_ge K k with h | h
    · obtain rfl : k = K + 1 := by omega
      exact Nat.le_refl _
    · refine Nat.le_trans (ih h (by omega)) ?_
      unfold Fm.ix
      rw [F.trS_succ (by omega)]
      cases F.below.getD (F.vars.toNat + K) false <;> simp
theorem Fm.ix_lt (F : Fm) {k K : Nat} (hkK : k < K) (hK : K ≤ F.nodes.length) (h : F.below.getD (F.vars.toNat + k) false = true) : F.ix k < F.ix K := by
  refine Nat.lt_of_lt_of_le ?_ (F.ix_mono (show k + 1 ≤ K by omega) hK)
  unfold Fm.ix
  rw [F.trS_succ1 (by omega) h]
  simp
theorem Fm.trS_pre (F : Fm) {k K : Nat} (hkK : k ≤ K) (hK : K ≤ F.nodes.length) : ∃ r, (F.trS K).2 = (F.trS k).2 ++ r := by
  induction K with
  | zero => obtain rfl : k = 0 := by omega
            exact ⟨[], by simp⟩
  | succ K ih =>
    rcases Nat.lt_or_ge K k with h | h
    · obtain rfl : k = K + 1 := by omega
      exact ⟨[], by simp⟩
    · obtain ⟨r, hr⟩ := ih h (by omega)
      rw [F.trS_succ (by omega)]
      cases F.below.getD (F.vars.toNat + K) false with
      | false => exact ⟨r, hr⟩
      | true => exact ⟨r ++ [trN (F.trS K).1 F.nodes[K]], by simp [hr]⟩
def Fm.ren (F : Fm) (d : Nd) : Nd := ⟨d.kind, d.k, d.args.map (fun a => ((F.ro a.toNat : Nat) : Int))⟩
theorem Fm.trS_node (hg : F.Good) {k : Nat} (hk : k < F.nodes.length) : trN (F.trS k).1 F.nodes[k] = F.ren F.nodes[k] := by
  unfold trN Fm.ren trA
  congr 1
  refine List.map_congr_left fun a ha => ?_
  rw [← F.trS_stab (k := k) (by omega) (Nat.le_refl _) (hg.argLt hk a ha)]
  rfl
theorem Fm.trim_nodes (F : Fm) : F.trim.nodes = (F.trS F.nodes.length).2 := rfl
theorem Fm.trim_len (F : Fm) : F.trim.nodes.length = F.ix F.nodes.length := rfl
theorem Fm.trim_top (F : Fm) : F.trim.top = ((F.ro F.top.toNat : Nat) : Int) := rfl
theorem Fm.trim_vars (F : Fm) : F.trim.vars = F.vars := rfl
theorem Fm.trim_at (hg : F.Good) {k : Nat} (hk : k < F.nodes.length) (h : F.below.getD (F.vars.toNat + k) false = true) : F.trim.nodes[F.ix k]? = some (F.ren F.nodes[k]) := by
  obtain ⟨r, hr⟩ := F.trS_pre (show k + 1 ≤ F.nodes.length by omega) (Nat.le_refl _)
  rw [F.trim_nodes, hr, F.trS_succ1 hk h, Fm.trS_node hg hk]
  unfold Fm.ix
  rw [List.getElem?_append_left (by simp), List.getElem?_append_right (Nat.le_refl _)]
  simp
theorem Fm.ix_surj (F : Fm) {K : Nat} (hK : K ≤ F.nodes.length) : ∀ i, i < F.ix K → ∃ k, k < K ∧ F.below.getD (F.vars.toNat + k) false = true ∧ F.ix k = i := by
  induction K with
  | zero => intro i hi; simp [Fm.ix, Fm.trS, GL.trS] at hi
  | succ K ih =>
    intro i hi
    cases hb : F.below.getD (F.vars.toNat + K) false with
    | false =>
      unfold Fm.ix at hi
      rw [F.trS_succ0 (by omega) hb] at hi
      obtain ⟨k, h1, h2, h3⟩ := ih (by omega) i hi
      exact ⟨k, by omega, h2, h3⟩
    | true =>
      unfold Fm.ix at hi
      rw [F.trS_succ1 (by omega) hb] at hi
      simp only [List.length_append, List.length_singleton] at hi
      rcases Nat.lt_or_ge i (F.ix K) with h | h
      · obtain ⟨k, h1, h2, h3⟩ := ih (by omega) i h
        exact ⟨k, by omega, h2, h3⟩
      · exact ⟨K, by omega, hb, by unfold Fm.ix at *; omega⟩
theorem Fm.ro_lt (hg : F.Good) {k j : Nat} (hk : k ≤ F.nodes.length) (hj : j < F.vars.toNat + k) (h : F.below.getD j false = true) : F.ro j < F.vars.toNat + F.ix k := by
  rcases Nat.lt_or_ge j F.vars.toNat with hv | hv
  · rw [F.ro_event hv]; omega
  · obtain ⟨i, rfl⟩ : ∃ i, j = F.vars.toNat + i := ⟨j - F.vars.toNat, by omega⟩
    rw [F.ro_node (by omega) h]
    have := F.ix_lt (show i < k by omega) hk h
    omega
theorem Fm.trim_fits (hg : F.Good) {i : Nat} (hi : i < F.trim.nodes.length) : ∃ k, ∃ hk : k < F.nodes.length, F.below.getD (F.vars.toNat + k) false = true ∧ F.ix k = i ∧ F.trim.nodes[i] = F.ren F.nodes[k] := by
  obtain ⟨k, h1, h2, h3⟩ := F.ix_surj (Nat.le_refl _) i (by rw [← F.trim_len]; exact hi)
  refine ⟨k, h1, h2, h3, ?_⟩
  have := Fm.trim_at hg h1 h2
  rw [h3] at this
  exact (List.getElem?_eq_some_iff.1 this).2
theorem Fm.trim_good (hg : F.Good) : F.trim.Good := by
  have g0 := hg.v0; have g1 := hg.v1; have g2 := hg.n1; have gt := hg.topLt
  have hix : F.ix F.nodes.length ≤ F.nodes.length := trS_le _
  refine ⟨g0, g1, by rw [F.trim_len]; omega, fun i hi => ?_, ?_⟩
  · obtain ⟨k, hk, h2, h3, h4⟩ := Fm.trim_fits hg hi
    rw [h4, F.trim_vars]
    have f := hg.fits k hk
    refine nodeErr_none.2 ⟨f.k0, f.k1, by simpa [Fm.ren] using f.ar, ?_, by simpa [Fm.ren] using f.kk⟩
    intro a ha
    simp only [Fm.ren, List.mem_map] at ha
    obtain ⟨b, hb, rfl⟩ := ha
    have := Fm.ro_lt hg (k := k) (by omega) (hg.argLt hk b hb) (Fm.below_closed hg hk h2 b hb)
    rw [h3] at this
    omega
  · have := Fm.ro_lt hg (k := F.nodes.length) (Nat.le_refl _) (show F.top.toNat < _ by omega) (Fm.below_top hg)
    unfold Fm.valid
    rw [F.trim_top, F.trim_vars, F.trim_len]
    simp
    omega
theorem Fm.trim_val (hg : F.Good) (z : Int) : ∀ j, F.below.getD j false = true → F.trim.val z (F.ro j) = F.val z j := by
  have hg' := Fm.trim_good hg
  intro j
  induction j using Nat.strongRecOn with
  | _ j ih =>
    intro hj
    have hlt := Fm.below_lt hj
    rcases Nat.lt_or_ge j F.vars.toNat with hv | hv
    · rw [F.ro_event hv, F.val_event z hv, F.trim.val_event z (by rw [F.trim_vars]; exact hv)]
    · obtain ⟨k, rfl⟩ : ∃ k, j = F.vars.toNat + k := ⟨j - F.vars.toNat, by omega⟩
      have hk : k < F.nodes.length := by omega
      rw [F.ro_node hk hj, Fm.val_node hg z hk]
      have hat := Fm.trim_at hg hk hj
      obtain ⟨hi, he⟩ := List.getElem?_eq_some_iff.1 hat
      have := Fm.val_node hg' z hi
      rw [F.trim_vars] at this
      rw [this, he]
      have hc : cntOf (F.trim.val z) (F.ren F.nodes[k]).args = cntOf (F.val z) F.nodes[k].args := by
        unfold cntOf Fm.ren
        simp only [List.countP_map]
        refine List.countP_congr fun a ha => ?_
        simp only [Function.comp, Int.toNat_natCast]
        rw [ih a.toNat (hg.argLt hk a ha) (Fm.below_closed hg hk hj a ha)]
      rw [hc]
      unfold nodeVal Fm.ren
      simp
theorem Fm.trim_value (hg : F.Good) (z : Int) : F.trim.value z = F.value z := by
  rw [Fm.value_eq, Fm.value_eq, F.trim_top, Int.toNat_natCast]
  exact Fm.trim_val hg z _ (Fm.below_top hg)
end
theorem belowL_inv (v : Nat) (nodes : List Nd) (ha : ∀ (i : Nat) (h : i < nodes.length), ∀ a ∈ nodes[i].args, a.toNat < v + i) : ∀ (i : Nat), i ≤ nodes.length → ∀ (m : List Bool) (j : Nat), m.length = v + nodes.length → (belowL v nodes i m).getD j false = true →
    m.getD j false = true ∨ ∃ k, ∃ hk : k < nodes.length, (belowL v nodes i m).getD (v + k) false = true ∧ ∃ a ∈ nodes[k].args, a.toNat = j := by
  intro i
  induction i with
  | zero => intro _ m j _ h; exact .inl h
  | succ i ih =>
    intro hi m j hm h
    unfold belowL at h ⊢
    have hlen : (bif m.getD (v + i) false then markArgs m (nodes.getD i ⟨0, 0, []⟩).args else m).length = v + nodes.length := by
      cases m.getD (v + i) false <;> simp [markArgs_length, hm]
    rcases ih (by omega) _ j hlen h with h1 | h1
    · cases hc : m.getD (v + i) false with
      | false => rw [hc] at h1; exact .inl h1
      | true =>
        rw [hc] at h1
        simp only [cond_true, markArgs_getD, Bool.or_eq_true, Bool.and_eq_true] at h1
        rcases h1 with h1 | ⟨_, h1⟩
        · exact .inl h1
        · rw [List.any_eq_true] at h1
          obtain ⟨a, haa, hae⟩ := h1
          have hn : nodes.getD i ⟨0, 0, []⟩ = nodes[i] := by simp [show i < nodes.length by omega]
          rw [hn] at haa
          refine .inr ⟨i, by omega, ?_, a, haa, by simpa using hae⟩
          refine belowL_mono v nodes i _ _ ?_
          simp only [cond_true, markArgs_getD, hc, Bool.true_or]
    · exact .inr h1
section
variable {F : Fm}
theorem Fm.below_inv (hg : F.Good) {j : Nat} (h : F.below.getD j false = true) : j = F.top.toNat ∨ ∃ k, ∃ hk : k < F.nodes.length, F.below.getD (F.vars.toNat + k) false = true ∧ ∃ a ∈ F.nodes[k].args, a.toNat = j := by
  rcases belowL_inv F.vars.toNat F.nodes (fun i h => hg.argLt h) F.nodes.length (Nat.le_refl _) _ j (by simp) h with h1 | h1
  · left
    rw [List.getD_eq_getElem?_getD, List.getElem?_set] at h1
    split at h1
    · rename_i e; exact e.symm
    · rw [List.getElem?_replicate] at h1
      split at h1 <;> simp at h1
  · exact .inr h1
theorem Fm.trim_below (hg : F.Good) : ∀ (c j : Nat), j + c = F.vars.toNat + F.nodes.length → F.below.getD j false = true → F.trim.below.getD (F.ro j) false = true := by
  have hg' := Fm.trim_good hg
  intro c
  induction c using Nat.strongRecOn with
  | _ c ih =>
    intro j hjc hj
    rcases Fm.below_inv hg hj with rfl | ⟨k, hk, hm, a, ha, rfl⟩
    · have := Fm.below_top hg'
      rwa [F.trim_top, Int.toNat_natCast] at this
    · have hlt := hg.argLt hk a ha
      have h1 := ih (F.nodes.length - k) (by omega) (F.vars.toNat + k) (by omega) hm
      rw [F.ro_node hk hm] at h1
      have hat := Fm.trim_at hg hk hm
      obtain ⟨hi, he⟩ := List.getElem?_eq_some_iff.1 hat
      have h2 := Fm.below_closed hg' hi (by rw [F.trim_vars]; exact h1) ((F.ro a.toNat : Nat) : Int) (by
        rw [he]; exact List.mem_map.2 ⟨a, ha, rfl⟩)
      rwa [Int.toNat_natCast] at h2
theorem Fm.trim_marked (hg : F.Good) {i : Nat} (hi : i < F.trim.nodes.length) : F.trim.below.getD (F.vars.toNat + i) false = true := by
  obtain ⟨k, hk, h2, h3, h4⟩ := Fm.trim_fits hg hi
  have := Fm.trim_below hg (F.nodes.length - k) (F.vars.toNat + k) (by omega) h2
  rwa [F.ro_node hk h2, h3] at this
theorem Fm.trim_event (hg : F.Good) {j : Nat} (hj : j < F.vars.toNat) : F.trim.below.getD j false = F.below.getD j false := by
  have hg' := Fm.trim_good hg
  cases hb : F.below.getD j false with
  | true =>
    have := Fm.trim_below hg (F.vars.toNat + F.nodes.length - j) j (by omega) hb
    rwa [F.ro_event hj] at this
  | false =>
    cases hc : F.trim.below.getD j false with
    | false => rfl
    | true =>
      exfalso
      have key : ∀ q, F.below.getD q false = true → F.ro q = j → False := by
        intro q hq he
        rcases Nat.lt_or_ge q F.vars.toNat with hv | hv
        · rw [F.ro_event hv] at he
          subst he
          rw [hb] at hq; cases hq
        · obtain ⟨k, rfl⟩ : ∃ k, q = F.vars.toNat + k := ⟨q - F.vars.toNat, by omega⟩
          have := Fm.below_lt hq
          rw [F.ro_node (by omega) hq] at he
          omega
      rcases Fm.below_inv hg' hc with h1 | ⟨i, hi, hm, a, ha, h1⟩
      · rw [F.trim_top, Int.toNat_natCast] at h1
        exact key _ (Fm.below_top hg) h1.symm
      · obtain ⟨k, hk, h2, h3, h4⟩ := Fm.trim_fits hg hi
        rw [h4] at ha
        simp only [Fm.ren, List.mem_map] at ha
        obtain ⟨b, hb2, rfl⟩ := ha
        rw [Int.toNat_natCast] at h1
        exact key b.toNat (Fm.below_closed hg hk h2 b hb2) h1
end
theorem setOf_congr {m m' : List Bool} : ∀ (v : Nat), (∀ i, i < v → m.getD i false = m'.getD i false) → setOf m v = setOf m' v
  | 0, _ => rfl
  | v + 1, h => by
    unfold setOf
    rw [setOf_congr v (fun i hi => h i (by omega)), h v (by omega)]
theorem Fm.trim_support {F : Fm} (hg : F.Good) : F.trim.support = F.support := by
  unfold Fm.support
  exact setOf_congr _ (fun i hi => Fm.trim_event hg hi)
theorem szN_ix (F : Fm) {k : Nat} (hk : k ≤ F.nodes.length) : szN F.below F.vars.toNat k = F.ix k := by
  induction k with
  | zero => rfl
  | succ k ih =>
    unfold szN Fm.ix
    rw [ih (by omega), F.trS_succ (by omega)]
    cases F.below.getD (F.vars.toNat + k) false <;> simp [Fm.ix]
theorem szN_all {m : List Bool} {v n : Nat} (h : ∀ i, i < n → m.getD (v + i) false = true) : ∀ k, k ≤ n → szN m v k = k
  | 0, _ => rfl
  | k + 1, hk => by unfold szN; rw [h k (by omega), szN_all h k (by omega)]; rfl
def argSum (ns : List Nd) : Nat := (ns.map (fun d => d.args.length)).sum
theorem argSum_snoc (ns : List Nd) (d : Nd) : argSum (ns ++ [d]) = argSum ns + d.args.length := by simp [argSum]
theorem szA_ix (F : Fm) {k : Nat} (hk : k ≤ F.nodes.length) : szA F.below F.vars.toNat F.nodes k = argSum (F.trS k).2 := by
  induction k with
  | zero => rfl
  | succ k ih =>
    unfold szA
    rw [ih (by omega), F.trS_succ (by omega)]
    have hn : F.nodes.getD k ⟨0, 0, []⟩ = F.nodes[k] := by simp [show k < F.nodes.length by omega]
    rw [hn]
    cases F.below.getD (F.vars.toNat + k) false with
    | false => rfl
    | true => simp only [cond_true, argSum_snoc, trN, trA_length]
theorem szA_all {m : List Bool} {v : Nat} {nodes : List Nd} (h : ∀ i, i < nodes.length → m.getD (v + i) false = true) : ∀ k, k ≤ nodes.length → szA m v nodes k = argSum (nodes.take k)
  | 0, _ => by simp [szA, argSum]
  | k + 1, hk => by
    unfold szA
    have hn : nodes.getD k ⟨0, 0, []⟩ = nodes[k] := by simp [show k < nodes.length by omega]
    rw [h k (by omega), szA_all h k (by omega), hn, List.take_succ_eq_append_getElem (by omega), argSum_snoc]
    rfl
theorem Fm.trim_sizeN {F : Fm} (hg : F.Good) : F.trim.sizeN = F.sizeN ∧ F.trim.sizeN = F.trim.nodes.length := by
  have h1 : F.trim.sizeN = F.trim.nodes.length := szN_all (n := F.trim.nodes.length) (fun i hi => by rw [F.trim_vars]; exact Fm.trim_marked hg hi) _ (Nat.le_refl _)
  refine ⟨?_, h1⟩
  rw [h1, F.trim_len]
  exact (szN_ix F (Nat.le_refl _)).symm
theorem Fm.trim_sizeA {F : Fm} (hg : F.Good) : F.trim.sizeA = F.sizeA := by
  unfold Fm.sizeA
  rw [szA_all (fun i hi => by rw [F.trim_vars]; exact Fm.trim_marked hg hi) _ (Nat.le_refl _), List.take_length, szA_ix F (Nat.le_refl _)]
  rfl
theorem trS_all {F : Fm} (hg : F.Good) (h : ∀ i, i < F.nodes.length → F.below.getD (F.vars.toNat + i) false = true) : ∀ k, k ≤ F.nodes.length → F.trS k = (List.range (F.vars.toNat + k) ++ List.replicate (F.nodes.length - k) 0, F.nodes.take k) := by
  intro k
  induction k with
  | zero => intro _; simp [Fm.trS, GL.trS]
  | succ k ih =>
    intro hk
    have ih := ih (by omega)
    have hx : F.ix k = k := by unfold Fm.ix; rw [ih]; simp; omega
    rw [F.trS_succ1 (by omega) (h k (by omega))]
    have hset : (F.trS k).1.set (F.vars.toNat + k) (F.vars.toNat + (F.trS k).2.length) = List.range (F.vars.toNat + (k + 1)) ++ List.replicate (F.nodes.length - (k + 1)) 0 := by
      have h2 : (F.trS k).2.length = k := hx
      rw [h2, ih]
      simp only
      rw [List.set_append_right _ _ (by simp), List.length_range, Nat.sub_self, show F.nodes.length - k = (F.nodes.length - (k + 1)) + 1 by omega, List.replicate_succ, show F.vars.toNat + (k + 1) = F.vars.toNat + k + 1 by omega, List.range_succ]
      simp
    have hnode : trN (F.trS k).1 F.nodes[k] = F.nodes[k] := by
      refine Nd.ext' rfl rfl ?_
      unfold trN trA
      simp only
      have : ∀ a ∈ F.nodes[k].args, (((F.trS k).1.getD a.toNat 0 : Nat) : Int) = a := by
        intro a ha
        have h3 := hg.argLt (by omega) a ha
        have h4 := (hg.fits k (by omega)).args a ha
        rw [ih, List.getD_eq_getElem?_getD, List.getElem?_append_left (by simpa using h3)]
        simp [h3]
        omega
      calc _ = F.nodes[k].args.map id := List.map_congr_left this
        _ = _ := List.map_id _
    rw [hset, hnode, ih, List.take_succ_eq_append_getElem (by omega)]
theorem Fm.trim_trim {F : Fm} (hg : F.Good) : F.trim.trim = F.trim := by
  have hg' := Fm.trim_good hg
  have h := trS_all hg' (fun i hi => by rw [F.trim_vars]; exact Fm.trim_marked hg hi) F.trim.nodes.length (Nat.le_refl _)
  have gt := hg'.topLt; have g0 := hg'.v0
  refine Fm.ext' rfl ?_ ?_
  · show (F.trim.trS F.trim.nodes.length).2 = _
    rw [h]; simp
  · show (((F.trim.trS F.trim.nodes.length).1.getD F.trim.top.toNat 0 : Nat) : Int) = _
    rw [h, List.getD_eq_getElem?_getD, List.getElem?_append_left (by simp; omega)]
    simp [show F.trim.top.toNat < F.trim.vars.toNat + F.trim.nodes.length by omega]
    omega
theorem depFrom_node (l : List Nd) (v0 : List Nat) (i : Nat) (hi : i < l.length) (ha : ∀ a ∈ l[i].args, a.toNat < v0.length + i) :
    (depFrom v0 l).getD (v0.length + i) 0 = maxD (depFrom v0 l) l[i].args + 1 := by
  have hsplit : l = l.take i ++ l[i] :: l.drop (i + 1) := by
    rw [List.getElem_cons_drop]
    simp
  have hlen : (depFrom v0 (l.take i)).length = v0.length + i := by
    rw [depFrom_length, List.length_take]
    omega
  have h1 : depFrom v0 l = depFrom (depFrom v0 (l.take i) ++ [maxD (depFrom v0 (l.take i)) l[i].args + 1]) (l.drop (i + 1)) := by
    conv => lhs; rw [hsplit]
    rw [depFrom_append]
    rfl
  have hm : ∀ (args : List Int) (ds es : List Nat), (∀ a ∈ args, ds.getD a.toNat 0 = es.getD a.toNat 0) → maxD ds args = maxD es args := by
    intro args ds es h
    unfold maxD
    suffices ∀ m, args.foldl (fun m a => max m (ds.getD a.toNat 0)) m = args.foldl (fun m a => max m (es.getD a.toNat 0)) m from this 0
    induction args with
    | nil => intro m; rfl
    | cons a r ih =>
      intro m
      simp only [List.foldl_cons]
      rw [h a (by simp), ih (fun b hb => h b (List.mem_cons_of_mem _ hb))]
  have h2 : maxD (depFrom v0 (l.take i)) l[i].args = maxD (depFrom v0 l) l[i].args := by
    refine hm _ _ _ fun a haa => ?_
    have hlt := ha a haa
    rw [h1, depFrom_getD_lt (l.drop (i + 1)) _ a.toNat (by rw [List.length_append, hlen, List.length_singleton]; omega)]
    rw [List.getD_eq_getElem?_getD, List.getD_eq_getElem?_getD, List.getElem?_append_left (show a.toNat < (depFrom v0 (l.take i)).length by omega)]
  rw [← h2, h1, depFrom_getD_lt (l.drop (i + 1)) _ (v0.length + i) (by rw [List.length_append, hlen, List.length_singleton]; omega), ← hlen]
  simp [List.getD_eq_getElem?_getD]
theorem Fm.dep_event (F : Fm) {j : Nat} (hj : j < F.vars.toNat) : F.depths.getD j 0 = 0 := by
  unfold Fm.depths
  rw [depFrom_getD_lt _ _ _ (by simpa using hj)]
  simp [List.getD_eq_getElem?_getD, List.getElem?_replicate, hj]
theorem Fm.dep_node {F : Fm} (hg : F.Good) {i : Nat} (hi : i < F.nodes.length) : F.depths.getD (F.vars.toNat + i) 0 = maxD F.depths F.nodes[i].args + 1 := by
  have := depFrom_node F.nodes (List.replicate F.vars.toNat 0) i hi (by rw [List.length_replicate]; exact hg.argLt hi)
  rw [List.length_replicate] at this
  exact this
theorem Fm.trim_dep {F : Fm} (hg : F.Good) : ∀ j, F.below.getD j false = true → F.trim.depths.getD (F.ro j) 0 = F.depths.getD j 0 := by
  have hg' := Fm.trim_good hg
  intro j
  induction j using Nat.strongRecOn with
  | _ j ih =>
    intro hj
    have hlt := Fm.below_lt hj
    rcases Nat.lt_or_ge j F.vars.toNat with hv | hv
    · rw [F.ro_event hv, F.dep_event hv, F.trim.dep_event (by rw [F.trim_vars]; exact hv)]
    · obtain ⟨k, rfl⟩ : ∃ k, j = F.vars.toNat + k := ⟨j - F.vars.toNat, by omega⟩
      have hk : k < F.nodes.length := by omega
      rw [F.ro_node hk hj, Fm.dep_node hg hk]
      obtain ⟨hi, he⟩ := List.getElem?_eq_some_iff.1 (Fm.trim_at hg hk hj)
      have := Fm.dep_node hg' hi
      rw [F.trim_vars] at this
      rw [this, he]
      congr 1
      unfold maxD Fm.ren
      simp only [List.foldl_map, Int.toNat_natCast]
      suffices ∀ (l : List Int) (m : Nat), (∀ a ∈ l, a ∈ F.nodes[k].args) → l.foldl (fun m a => max m (F.trim.depths.getD (F.ro a.toNat) 0)) m = l.foldl (fun m a => max m (F.depths.getD a.toNat 0)) m from this _ 0 (fun a h => h)
      intro l
      induction l with
      | nil => intro m _; rfl
      | cons a r ihl =>
        intro m hs
        simp only [List.foldl_cons]
        have ha := hs a (by simp)
        rw [ih a.toNat (hg.argLt hk a ha) (Fm.below_closed hg hk hj a ha), ihl _ (fun b hb => hs b (List.mem_cons_of_mem _ hb))]
theorem Fm.trim_depth {F : Fm} (hg : F.Good) : F.trim.depth = F.depth := by
  unfold Fm.depth
  rw [F.trim_top, Int.toNat_natCast]
  exact Fm.trim_dep hg _ (Fm.below_top hg)
end Go.GL
