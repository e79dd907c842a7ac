import Derived.Test.YtffghipagnjggaaGL84
namespace Go.GL
set_option linter.unusedVariables false
set_option linter.unusedSimpArgs false
structure SpOk (d : Nd) : Prop where
  k0 : 0 ≤ d.kind ∧ d.kind ≤ 5
  kk : I64 d.k
  len : d.args.length ≤ 16
  ne : 2 ≤ d.kind → d.args ≠ []
  vote : d.kind = 4 → 1 ≤ d.k ∧ d.k ≤ d.args.length
  sm : ∀ a ∈ d.args, Small a
def specV (what : Nat) (v : Int) (d : Nd) (s : MS) : Int × MS := if specB what d.kind = true then specM what v d s else (0, s)
def SpecR (T TN : TypeId) (b : Nat) (v : Int) (what : Nat) (d : Nd) (ms : MS) (HB : List Ent) : Value → List Ent → Prop := fun u H' =>
  ∃ s' : BS, u = .tuple (List.toArray [.int .i64 (specV what v d ms).1, .bool (specB what d.kind)]) ∧ s'.ok (specV what v d ms).2.ns ∧ mkE T TN b v (specV what v d ms).2 s' HB = H'
def SpecGives (P : Program) (T TN : TypeId) (f : FuncId) (what : Nat) : Prop := ∀ (HB : List Ent) (bb : Nat) (v : Int) (ms : MS) (s : BS) (d : Nd) (aa : Option Nat) (ac m : Nat), d.args.length = m → s.ok ms.ns → ms.Ok → 0 ≤ v ∧ v ≤ 24 → SpOk d → RInts HB aa 0 d.args none → m ≤ ac → ac ≤ 9223372036854775807 →
  Gives P f [.pointer (some ⟨bb, 0, none⟩), .agg (List.toArray [.int .i64 d.kind, .int .i64 d.k, slV aa 0 m ac])] (mkE T TN bb v ms s HB) (SpecR T TN bb v what d ms HB)
theorem TOps.rowCapO {P : Program} {n : Nat} {S : List (Nat × Value)} {H : List Ent} {A : Array Oper} {Q : Exit → Act → World → Prop} {l : List Oper} {a : Option Nat} {E sz cap : Nat} {xs : List Value} (hm : row a E sz cap xs ∈ H) (h : xs.length ≤ cap * sz → cap ≤ 9223372036854775807 → TOps P n S H l A Q) : TOps P n S H l A Q := by
  intro ac w hS hM
  have := hM.ok _ hm
  cases a with
  | none =>
    obtain ⟨rfl, rfl⟩ := this
    exact h (by simp) (by omega) ac w hS hM
  | some b =>
    obtain ⟨sp, _, h2, h3⟩ := this
    exact h (by omega) h3 ac w hS hM
def padI (l : List Int) (L : Nat) : List Int := l ++ List.replicate (L - l.length) 0
theorem padI_length {l : List Int} {L : Nat} (h : l.length ≤ L) : (padI l L).length = L := by unfold padI; simp; omega
theorem padI_nil (L : Nat) : ints (padI [] L) = List.replicate L (.int .i64 0) := by unfold padI ints; simp
theorem padI_set {l : List Int} {L : Nat} (h : l.length < L) (a : Int) : (ints (padI l L)).set l.length (.int .i64 a) = ints (padI (l ++ [a]) L) := by
  rw [← ints_set]
  congr 1
  unfold padI
  rw [List.set_append_right _ _ (Nat.le_refl _), Nat.sub_self, List.length_append, List.append_assoc]
  obtain ⟨r, hr⟩ : ∃ r, L - l.length = r + 1 := ⟨L - l.length - 1, by omega⟩
  rw [hr, show L - (l.length + [a].length) = r by simp; omega, List.replicate_succ]
  rfl
theorem padI_get {l : List Int} {L i : Nat} (h : i < l.length) : (padI l L).getD i 0 = l.getD i 0 := by
  unfold padI
  simp [List.getD_eq_getElem?_getD, List.getElem?_append_left h]
section
variable {what v : Nat} {nodes : List Nd}
theorem mapS_len : ∀ k, (mapS what v nodes k).1.length = v + k
  | 0 => by simp [mapS, evI_length]
  | k + 1 => by simp [mapS, mapS_len k]; omega
theorem trD_sm {P : List Int} {d : Nd} (hP : ∀ a ∈ P, Small a) : ∀ a ∈ (trD P d).args, Small a := by
  intro a ha
  obtain ⟨b, hb, rfl⟩ := List.mem_map.1 ha
  rw [List.getD_eq_getElem?_getD]
  rcases Nat.lt_or_ge b.toNat P.length with h | h
  · rw [List.getElem?_eq_getElem h]; exact hP _ (List.getElem_mem _)
  · rw [List.getElem?_eq_none h]; exact ⟨Int.le_refl 0, by show (0 : Int) ≤ 1000000; decide⟩
structure MapOk (r : List Int × MS) : Prop where
  ok : r.2.Ok
  sm : ∀ a ∈ r.1, Small a
theorem evI_small {k : Nat} (hk : k ≤ 1000) : ∀ a ∈ evI k, Small a := by
  intro a ha
  simp only [evI, List.mem_map, List.mem_range] at ha
  obtain ⟨i, hi, rfl⟩ := ha
  exact ⟨by omega, by omega⟩
theorem Fits.sp {m : Int} {d : Nd} (h : d.Fits m) (P : List Int) (hP : ∀ a ∈ P, Small a) : SpOk (trD P d) := by
  have hl := h.len
  have har := h.ar
  refine ⟨⟨h.k0, h.k1⟩, ?_, by simpa [trD, trI] using hl, fun h2 => ?_, fun h4 => ?_, trD_sm hP⟩
  · have kk := h.kk
    show I64 d.k
    unfold I64
    by_cases h0 : d.kind = 0
    · have := kk.1 h0; omega
    · by_cases h4 : d.kind = 4
      · have := kk.2.1 h4; omega
      · have := kk.2.2 h0 h4; omega
  · have h2' : 2 ≤ d.kind := h2
    unfold argsB at har
    rw [if_neg (by omega), if_neg (by omega)] at har
    simp at har
    intro e
    have e' : (trI P d.args) = [] := e
    have := congrArg List.length e'
    rw [trI_length] at this
    simp at this
    rw [this] at har
    simp at har
  · have := h.kk.2.1 h4
    show 1 ≤ d.k ∧ d.k ≤ ((trI P d.args).length : Int)
    rw [trI_length]
    exact this
theorem specV_ok {v : Int} (hv : 0 ≤ v ∧ v ≤ 24) (what : Nat) {d : Nd} (hd : SpOk d) {s : MS} (hs : s.Ok) : MS.Gr s (specV what v d s).2 ∧ Small (specV what v d s).1 := by
  unfold specV
  split
  · rename_i hB
    refine specM_ok hv what hd.sm (by have := hd.len; omega) (fun h0 => ?_) hs
    subst h0
    have := hd.vote (by simpa [specB] using hB)
    have := hd.len
    omega
  · exact ⟨MS.Gr.refl s, ⟨Int.le_refl 0, by show (0 : Int) ≤ 1000000; decide⟩⟩
theorem nodeM_spec {v : Int} {d : Nd} {s : MS} (h : specB what d.kind = true) : nodeM what v d s = specV what v d s := by unfold nodeM specV; rw [if_pos h, if_pos h]
theorem nodeM_copy {v : Int} {d : Nd} {s : MS} (h : specB what d.kind = false) : nodeM what v d s = addM v d s := by unfold nodeM; rw [if_neg (by rw [h]; decide)]
theorem nodeM_ok' {v : Int} (hv : 0 ≤ v ∧ v ≤ 24) (what : Nat) {d : Nd} (hd : SpOk d) {s : MS} (hs : s.Ok) : MS.Gr s (nodeM what v d s).2 ∧ Small (nodeM what v d s).1 := by
  cases h : specB what d.kind with
  | true => rw [nodeM_spec h]; exact specV_ok hv what hd hs
  | false => rw [nodeM_copy h]; exact ⟨addM_gr _ _ _, addM_small hv _ hs⟩
theorem mapS_ok (hv : v ≤ 24) (hn : ∀ i (h : i < nodes.length), nodes[i].Fits ((v : Int) + i)) : ∀ k, k ≤ nodes.length → MapOk (mapS what v nodes k)
  | 0, _ => ⟨by show (0 : Nat) ≤ 128; decide, evI_small (by omega)⟩
  | k + 1, hk => by
    have ih := mapS_ok hv hn k (by omega)
    have hd := Fits.sp (hn k (by omega)) _ ih.sm
    have h := nodeM_ok' (v := (v : Int)) ⟨by omega, by omega⟩ what hd ih.ok
    rw [show nodes[k] = nodes.getD k ⟨0, 0, []⟩ from by simp [List.getD_eq_getElem?_getD, show k < nodes.length by omega]] at h
    refine ⟨h.1.ok ih.ok, fun a ha => ?_⟩
    rcases List.mem_append.1 ha with ha | ha
    · exact ih.sm a ha
    · obtain rfl := List.mem_singleton.1 ha
      exact h.2
theorem mapS_gr (hv : v ≤ 24) (hn : ∀ i (h : i < nodes.length), nodes[i].Fits ((v : Int) + i)) {k : Nat} : ∀ j, k + j ≤ nodes.length → MS.Gr (mapS what v nodes k).2 (mapS what v nodes (k + j)).2
  | 0, _ => MS.Gr.refl _
  | j + 1, hk => by
    refine (mapS_gr hv hn j (by omega)).trans ?_
    have ih := mapS_ok (what := what) hv hn (k + j) (by omega)
    have hd := Fits.sp (hn (k + j) (by omega)) _ ih.sm
    have h := nodeM_ok' (v := (v : Int)) ⟨by omega, by omega⟩ what hd ih.ok
    rw [show nodes[k + j] = nodes.getD (k + j) ⟨0, 0, []⟩ from by simp [List.getD_eq_getElem?_getD, show k + j < nodes.length by omega]] at h
    exact h.1
theorem mapS_full (hv : v ≤ 24) (hn : ∀ i (h : i < nodes.length), nodes[i].Fits ((v : Int) + i)) {k : Nat} (hk : k ≤ nodes.length) (hf : (mapS what v nodes k).2.full = true) : (mapS what v nodes nodes.length).2.full = true := by
  have := (mapS_gr (what := what) hv hn (k := k) (nodes.length - k) (by omega)).full hf
  rwa [show k + (nodes.length - k) = nodes.length by omega] at this
end
end Go.GL
