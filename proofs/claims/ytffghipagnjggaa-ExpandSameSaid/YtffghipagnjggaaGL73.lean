import Derived.Test.YtffghipagnjggaaGL72
namespace Go.GL
set_option linter.unusedVariables false
set_option linter.unusedSimpArgs false
def mapN (T : List Int) (d : Nd) : Nd := ⟨d.kind, d.k, trI T d.args⟩
def fullT (v : Int) (ev : List Int) (l : Nat) (n : Nat) : List Int := ev ++ (List.range n).map (fun i : Nat => v + (l + i : Nat))
theorem fullT_length (v : Int) (ev : List Int) (l n : Nat) : (fullT v ev l n).length = ev.length + n := by simp [fullT]
theorem fullT_succ (v : Int) (ev : List Int) (l n : Nat) : fullT v ev l (n + 1) = fullT v ev l n ++ [v + (l + n : Nat)] := by simp [fullT, List.range_succ]
theorem fullT_ev {v : Int} {ev : List Int} {l n j : Nat} (h : j < ev.length) : (fullT v ev l n).getD j 0 = ev.getD j 0 := by
  unfold fullT
  rw [List.getD_eq_getElem?_getD, List.getElem?_append_left h, ← List.getD_eq_getElem?_getD]
theorem fullT_node {v : Int} {ev : List Int} {l n j : Nat} (h : j < n) : (fullT v ev l n).getD (ev.length + j) 0 = v + (l + j : Nat) := by
  unfold fullT
  rw [List.getD_eq_getElem?_getD, List.getElem?_append_right (by omega), Nat.add_sub_cancel_left]
  simp [h]
theorem fullT_stab {v : Int} {ev : List Int} {l n m j : Nat} (hm : m ≤ n) (h : j < ev.length + m) : (fullT v ev l n).getD j 0 = (fullT v ev l m).getD j 0 := by
  rcases Nat.lt_or_ge j ev.length with h1 | h1
  · rw [fullT_ev h1, fullT_ev h1]
  · obtain ⟨i, rfl⟩ : ∃ i, j = ev.length + i := ⟨j - ev.length, by omega⟩
    rw [fullT_node (by omega), fullT_node (by omega)]
theorem trI_congr {T T' : List Int} {l : List Int} (h : ∀ a ∈ l, T.getD a.toNat 0 = T'.getD a.toNat 0) : trI T l = trI T' l := by
  unfold trI
  exact List.map_congr_left fun a ha => h a ha
def followS (v : Int) (nodes : List Nd) (T0 : List Int) (ns0 : List Nd) : Nat → List Int × List Nd
  | 0 => (T0, ns0)
  | k + 1 =>
    let s := followS v nodes T0 ns0 k
    (s.1 ++ [v + s.2.length], s.2 ++ [mapN s.1 (nodes.getD k ⟨0, 0, []⟩)])
theorem followS_len (v : Int) (nodes : List Nd) (T0 : List Int) (ns0 : List Nd) : ∀ k, (followS v nodes T0 ns0 k).1.length = T0.length + k ∧ (followS v nodes T0 ns0 k).2.length = ns0.length + k
  | 0 => ⟨rfl, rfl⟩
  | k + 1 => by
    obtain ⟨h1, h2⟩ := followS_len v nodes T0 ns0 k
    simp only [followS, List.length_append, List.length_singleton]
    omega
theorem followS_eq {v : Int} {nodes : List Nd} {T0 : List Int} {ns0 : List Nd} (ha : ∀ i (hi : i < nodes.length), ∀ a ∈ nodes[i].args, a.toNat < T0.length + i) : ∀ k, k ≤ nodes.length →
    followS v nodes T0 ns0 k = (fullT v T0 ns0.length k, ns0 ++ (nodes.take k).map (mapN (fullT v T0 ns0.length nodes.length)))
  | 0, _ => by simp [followS, fullT]
  | k + 1, hk => by
    have hkn : k < nodes.length := by omega
    have hl := (followS_len v nodes T0 ns0 k).2
    have ih := followS_eq (v := v) (ns0 := ns0) ha k (by omega)
    rw [followS, hl, ih, fullT_succ, List.take_succ_eq_append_getElem hkn, List.map_append, show nodes.getD k ⟨0, 0, []⟩ = nodes[k] from by simp [hkn]]
    simp only [List.map_cons, List.map_nil, List.append_assoc]
    have e : mapN (fullT v T0 ns0.length k) nodes[k] = mapN (fullT v T0 ns0.length nodes.length) nodes[k] := by
      unfold mapN
      rw [trI_congr (T' := fullT v T0 ns0.length nodes.length) fun a h => (fullT_stab (m := k) (n := nodes.length) (by omega) (ha k hkn a h)).symm]
    rw [e]
def Fm.join (F : Fm) (first : List Nd) (ev : List Int) : Fm :=
  ⟨F.vars, first ++ F.nodes.map (mapN (fullT F.vars ev first.length F.nodes.length)), (fullT F.vars ev first.length F.nodes.length).getD F.top.toNat 0⟩
section
variable {F : Fm} {first : List Nd} {ev : List Int}
theorem fullT_in {v : Nat} {l n k : Nat} (hev : ∀ a ∈ ev, InR (v + l) a) {j : Nat} (hj : j < ev.length + k) (hk : k ≤ n) : InR (v + l + k) ((fullT v ev l n).getD j 0) := by
  rcases Nat.lt_or_ge j ev.length with h1 | h1
  · rw [fullT_ev h1]; exact (getD_in hev h1).mono (by omega)
  · obtain ⟨i, rfl⟩ : ∃ i, j = ev.length + i := ⟨j - ev.length, by omega⟩
    rw [fullT_node (by omega)]
    exact ⟨by omega, by omega⟩
theorem join_fit {v : Nat} (hg : F.Good) (hv : F.vars = v) (hf : NF v first) (hl : ev.length = v) (hev : ∀ a ∈ ev, InR (v + first.length) a) : (F.join first ev).Fit := by
  have g0 := hg.v0; have g1 := hg.v1; have gt := hg.topLt
  unfold Fm.join
  rw [hv]
  refine ⟨by simp only; omega, by simp only; omega, fun i hi => ?_, ?_⟩
  · simp only [List.length_append, List.length_map] at hi ⊢
    rcases Nat.lt_or_ge i first.length with h1 | h1
    · rw [List.getElem_append_left h1]; exact hf i h1
    · obtain ⟨k, rfl⟩ : ∃ k, i = first.length + k := ⟨i - first.length, by omega⟩
      have hk : k < F.nodes.length := by omega
      rw [List.getElem_append_right (by omega)]
      simp only [Nat.add_sub_cancel_left, List.getElem_map]
      have f := hg.fits k hk
      have e : (mapN (fullT v ev first.length F.nodes.length) F.nodes[k]).args = trI (fullT v ev first.length F.nodes.length) F.nodes[k].args := rfl
      refine ⟨f.k0, f.k1, by rw [e, trI_length]; exact f.ar, ?_, by rw [e, trI_length]; exact f.kk⟩
      intro a ha
      obtain ⟨b, hb, rfl⟩ := List.mem_map.1 ha
      have hb' := hg.argLt hk b hb
      have := fullT_in (n := F.nodes.length) (k := k) hev (j := b.toNat) (by omega) (by omega)
      exact ⟨this.1, by have := this.2; omega⟩
  · have := fullT_in (n := F.nodes.length) (k := F.nodes.length) hev (j := F.top.toNat) (by omega) (Nat.le_refl _)
    simp only [List.length_append, List.length_map]
    exact ⟨this.1, by have := this.2; omega⟩
theorem join_val {v : Nat} (hg : F.Good) (hv : F.vars = v) (hf : NF v first) (hl : ev.length = v) (hev : ∀ a ∈ ev, InR (v + first.length) a) {x y : Int}
    (hy : ∀ e, e < v → bitB y e = (valsFrom (events v x) first).getD (ev.getD e 0).toNat false) :
    ∀ j, j < v + F.nodes.length → (F.join first ev).val x ((fullT v ev first.length F.nodes.length).getD j 0).toNat = F.val y j := by
  have hvn : F.vars.toNat = v := by omega
  have hfit := join_fit hg hv hf hl hev
  have hjv : (F.join first ev).vars.toNat = v := hvn
  have hjn : (F.join first ev).nodes = first ++ F.nodes.map (mapN (fullT v ev first.length F.nodes.length)) := by unfold Fm.join; rw [hv]
  intro j
  induction j using Nat.strongRecOn with
  | _ j ih =>
    intro hj
    rcases Nat.lt_or_ge j v with h1 | h1
    · rw [fullT_ev (by omega), F.val_event y (by omega), hy j h1]
      have hr := getD_in hev (i := j) (by omega)
      unfold Fm.val Fm.values
      rw [hjv, hjn, valsFrom_append, valsFrom_getD_lt]
      rw [valsFrom_length, events_length]
      have := hr.2; have := hr.1
      omega
    · obtain ⟨k, rfl⟩ : ∃ k, j = v + k := ⟨j - v, by omega⟩
      have hk : k < F.nodes.length := by omega
      have hT := fullT_node (v := (v : Int)) (ev := ev) (l := first.length) (n := F.nodes.length) hk
      rw [hl] at hT
      rw [hT, show ((v : Int) + (first.length + k : Nat)).toNat = (F.join first ev).vars.toNat + (first.length + k) by omega]
      have hi : first.length + k < (F.join first ev).nodes.length := by rw [hjn]; simp; omega
      rw [Fit.Fm.val_node hfit x hi]
      have hget : (F.join first ev).nodes[first.length + k] = mapN (fullT v ev first.length F.nodes.length) F.nodes[k] := by
        simp only [hjn]
        rw [List.getElem_append_right (by omega)]
        simp
      have hn := Fm.val_node hg y hk
      rw [hvn] at hn
      rw [hget, hn]
      have hc : cntOf ((F.join first ev).val x) (mapN (fullT v ev first.length F.nodes.length) F.nodes[k]).args = cntOf (F.val y) F.nodes[k].args := by
        unfold cntOf mapN trI
        simp only [List.countP_map]
        refine List.countP_congr fun a ha => ?_
        have hat := hg.argLt hk a ha
        simp only [Function.comp]
        rw [ih a.toNat (by omega) (by omega)]
      rw [hc]
      unfold nodeVal mapN
      simp only [trI_length]
theorem join_value {v : Nat} (hg : F.Good) (hv : F.vars = v) (hf : NF v first) (hl : ev.length = v) (hev : ∀ a ∈ ev, InR (v + first.length) a) {x y : Int}
    (hy : ∀ e, e < v → bitB y e = (valsFrom (events v x) first).getD (ev.getD e 0).toNat false) : (F.join first ev).value x = F.value y := by
  have gt := hg.topLt
  have h := join_val hg hv hf hl hev hy F.top.toNat (by omega)
  rw [Fm.value_eq, Fm.value_eq, ← h]
  unfold Fm.join
  rw [hv]
end
theorem Fm.Good.nf {F : Fm} (hg : F.Good) {v : Nat} (hv : F.vars = v) : NF v F.nodes := fun i hi => by have := hg.fits i hi; rwa [hv] at this
theorem evI_getD {v j : Nat} (h : j < v) : (evI v).getD j 0 = (j : Int) := by simp [evI, h]
theorem fullT_evI {v n j : Nat} (h : j < v + n) : (fullT v (evI v) 0 n).getD j 0 = (j : Int) := by
  rcases Nat.lt_or_ge j v with h1 | h1
  · rw [fullT_ev (by rw [evI_length]; exact h1), evI_getD h1]
  · obtain ⟨i, rfl⟩ : ∃ i, j = v + i := ⟨j - v, by omega⟩
    have := fullT_node (v := (v : Int)) (ev := evI v) (l := 0) (n := n) (j := i) (by omega)
    rw [evI_length] at this
    rw [this]; omega
theorem follow_id {G : Fm} (hg : G.Good) {v : Nat} (hv : G.vars = v) : followS v G.nodes (evI v) [] G.nodes.length = (fullT v (evI v) 0 G.nodes.length, G.nodes) := by
  have hvn : G.vars.toNat = v := by omega
  have ha : ∀ i (hi : i < G.nodes.length), ∀ a ∈ G.nodes[i].args, a.toNat < (evI v).length + i := fun i hi a h => by have := hg.argLt hi a h; rw [evI_length]; omega
  rw [followS_eq ha _ (Nat.le_refl _), List.take_length, List.nil_append, List.length_nil]
  refine congrArg (fun z => (_, z)) ?_
  refine List.ext_getElem (by simp) fun i h1 h2 => ?_
  simp only [List.getElem_map]
  have f := hg.fits i h2
  have : trI (fullT v (evI v) 0 G.nodes.length) G.nodes[i].args = G.nodes[i].args := by
    unfold trI
    conv => rhs; rw [← List.map_id G.nodes[i].args]
    refine List.map_congr_left fun a h => ?_
    have hb := f.args a h
    rw [fullT_evI (by omega)]
    show ((a.toNat : Nat) : Int) = a
    omega
  unfold mapN
  rw [this]
def replT (v e : Nat) (t : Int) : List Int := (evI v).set e t
def Fm.replB (F : Fm) (e : Nat) (G : Fm) : Fm := F.join G.nodes (replT F.vars.toNat e G.top)
theorem replT_in {G : Fm} (hg : G.Good) {v e : Nat} (hv : G.vars = v) : ∀ a ∈ replT v e G.top, InR (v + G.nodes.length) a := by
  have gt := hg.topLt
  intro a ha
  rcases List.mem_or_eq_of_mem_set ha with h | rfl
  · obtain ⟨i, hi, rfl⟩ := List.mem_map.1 h
    have := List.mem_range.1 hi
    exact ⟨by omega, by omega⟩
  · exact ⟨gt.1, by omega⟩
theorem replT_length (v e : Nat) (t : Int) : (replT v e t).length = v := by simp [replT, evI_length]
def Fm.replE (F : Fm) (e : Int) (G : Fm) : Option Int := match F.err with
  | some x => some x
  | none => match G.err with
    | some x => some x
    | none => if F.vars ≠ G.vars then some 11 else if e < 0 ∨ F.vars ≤ e then some 10 else sizedE (F.replB e.toNat G)
def Fm.replF (F : Fm) (e : Int) (G : Fm) : Fm := match F.err with
  | some x => Fm.zero
  | none => match G.err with
    | some x => Fm.zero
    | none => if F.vars ≠ G.vars then Fm.zero else if e < 0 ∨ F.vars ≤ e then Fm.zero else sizedF (F.replB e.toNat G)
end Go.GL
