import Derived.Test.YtnbcabcfadmoiaaGreatWB
namespace Go.GL
set_option linter.unusedVariables false
set_option linter.unusedSimpArgs false
def VB (es : List Bool) (ns : List Nd) (a : Int) : Bool := (valsFrom es ns).getD a.toNat false
theorem VB_old {es : List Bool} {ns r : List Nd} {v : Nat} (he : es.length = v) {a : Int} (ha : InR (v + ns.length) a) : VB es (ns ++ r) a = VB es ns a := by
  unfold VB
  rw [valsFrom_append, valsFrom_getD_lt]
  rw [valsFrom_length]
  have := ha.1; have := ha.2
  omega
theorem VB_new {es : List Bool} {ns : List Nd} {v : Nat} (he : es.length = v) {d : Nd} : VB es (ns ++ [d]) ((v : Int) + ns.length) = nodeVal d (cnt (valsFrom es ns) d.args) := by
  unfold VB
  rw [valsFrom_append]
  have hl := valsFrom_length ns es
  rw [he] at hl
  rw [valsFrom, valsFrom, show ((v : Int) + ns.length).toNat = (valsFrom es ns).length by omega, List.getD_eq_getElem?_getD]
  simp
theorem VB_event {v : Nat} {x : Int} {ns : List Nd} {i : Nat} (hi : i < v) : VB (events v x) ns (i : Int) = bitB x i := by
  unfold VB
  rw [Int.toNat_natCast, valsFrom_getD_lt _ _ _ (by rw [events_length]; exact hi)]
  simp [events, hi]
theorem cnt_tr {es : List Bool} {ns : List Nd} {T xs : List Int} {f : Nat → Bool} (h : ∀ a ∈ xs, VB es ns (T.getD a.toNat 0) = f a.toNat) : cnt (valsFrom es ns) (trI T xs) = cntOf f xs := by
  unfold cnt cntOf trI
  rw [List.countP_map]
  exact List.countP_congr fun a ha => by simp only [Function.comp]; rw [show (valsFrom es ns).getD (T.getD a.toNat 0).toNat false = VB es ns (T.getD a.toNat 0) from rfl, h a ha]
theorem cntOf_not (f : Nat → Bool) (xs : List Int) : cntOf (fun j => !f j) xs + cntOf f xs = xs.length := by
  unfold cntOf
  induction xs with
  | nil => rfl
  | cons a r ih =>
    have ih' : r.countP (fun a => !f a.toNat) + r.countP (fun a => f a.toNat) = r.length := ih
    simp only [List.countP_cons, List.length_cons]
    cases f a.toNat <;> simp only [Bool.not_false, Bool.not_true, if_true, Bool.false_eq_true, if_false] <;> omega
theorem cnt_one {es : List Bool} {ns : List Nd} {a : Int} : cnt (valsFrom es ns) [a] = if VB es ns a then 1 else 0 := by
  unfold cnt VB
  simp [List.countP_cons]
theorem nv0 {d : Nd} {c : Int} (h : d.kind = 0) : nodeVal d c = decide (d.k = 1) := by unfold nodeVal; rw [h]; rfl
theorem nv1 {d : Nd} {c : Int} (h : d.kind = 1) : nodeVal d c = decide (c = 0) := by unfold nodeVal; rw [h]; rfl
theorem nv2 {d : Nd} {c : Int} (h : d.kind = 2) : nodeVal d c = decide (c = d.args.length) := by unfold nodeVal; rw [h]; rfl
theorem nv3 {d : Nd} {c : Int} (h : d.kind = 3) : nodeVal d c = decide (0 < c) := by unfold nodeVal; rw [h]; rfl
theorem nv4 {d : Nd} {c : Int} (h : d.kind = 4) : nodeVal d c = decide (d.k ≤ c) := by unfold nodeVal; rw [h]; rfl
theorem nv5 {d : Nd} {c : Nat} (h : d.kind = 5) : nodeVal d (c : Int) = decide (c % 2 = 1) := by
  unfold nodeVal
  rw [h]
  show decide (((c % 2 : Nat) : Int) = 1) = _
  exact decide_eq_decide.2 (by omega)
def dualN (v : Int) (T : List Int) (d : Nd) (ns : List Nd) : List Nd × Int :=
  if d.kind = 0 then (ns ++ [⟨0, 1 - d.k, []⟩], v + ns.length)
  else if d.kind = 2 then (ns ++ [⟨3, 0, trI T d.args⟩], v + ns.length)
  else if d.kind = 3 then (ns ++ [⟨2, 0, trI T d.args⟩], v + ns.length)
  else if d.kind = 4 then (ns ++ [⟨4, d.args.length - d.k + 1, trI T d.args⟩], v + ns.length)
  else if d.kind = 5 ∧ d.args.length % 2 = 0 then (ns ++ [⟨5, 0, trI T d.args⟩] ++ [⟨1, 0, [v + ns.length]⟩], v + (ns.length + 1 : Nat))
  else (ns ++ [⟨d.kind, 0, trI T d.args⟩], v + ns.length)
def dualS (v : Nat) (nodes : List Nd) : Nat → List Int × List Nd
  | 0 => (evI v, [])
  | k + 1 => ((dualS v nodes k).1 ++ [(dualN v (dualS v nodes k).1 (nodes.getD k ⟨0, 0, []⟩) (dualS v nodes k).2).2], (dualN v (dualS v nodes k).1 (nodes.getD k ⟨0, 0, []⟩) (dualS v nodes k).2).1)
theorem dualN_len (v : Int) (T : List Int) (d : Nd) (ns : List Nd) : ns.length ≤ (dualN v T d ns).1.length ∧ (dualN v T d ns).1.length ≤ ns.length + 2 := by
  unfold dualN
  (repeat' split) <;> simp
theorem dualS_len {v : Nat} {nodes : List Nd} : ∀ k, (dualS v nodes k).1.length = v + k ∧ (dualS v nodes k).2.length ≤ 2 * k
  | 0 => by simp [dualS, evI_length]
  | k + 1 => by
    obtain ⟨h1, h2⟩ := dualS_len (v := v) (nodes := nodes) k
    have := dualN_len v (dualS v nodes k).1 (nodes.getD k ⟨0, 0, []⟩) (dualS v nodes k).2
    simp only [dualS, List.length_append, List.length_singleton]
    omega
def Fm.dualB (F : Fm) : Fm := ⟨F.vars, (dualS F.vars.toNat F.nodes F.nodes.length).2, (dualS F.vars.toNat F.nodes F.nodes.length).1.getD F.top.toNat 0⟩
def Fm.dualF (F : Fm) : Fm := match F.err with | some _ => Fm.zero | none => sizedF F.dualB
def Fm.dualE (F : Fm) : Option Int := match F.err with | some e => some e | none => sizedE F.dualB
theorem Fits.mk5 {m : Int} {l : List Int} (h0 : l ≠ []) (h1 : l.length ≤ 16) (h : ∀ a ∈ l, InR m a) : (⟨5, 0, l⟩ : Nd).Fits m := by
  have hl : 1 ≤ l.length := List.length_pos_iff.2 h0
  refine ⟨show (0 : Int) ≤ 5 by decide, show (5 : Int) ≤ 5 by decide, ?_, h, fun e => absurd e (show ¬ (5 : Int) = 0 by decide), fun e => absurd e (show ¬ (5 : Int) = 4 by decide), fun _ _ => rfl⟩
  show argsB 5 l.length = true
  unfold argsB
  rw [if_neg (by decide), if_neg (by decide)]
  simp
  omega
theorem dualN_law {v : Nat} {T : List Int} {d : Nd} {ns : List Nd} {m : Nat} (h : NF v ns) (hT : ∀ a ∈ T, InR (v + ns.length) a) (hd : d.Fits m) (hTl : T.length = m) :
    NF v (dualN v T d ns).1 ∧ InR (v + (dualN v T d ns).1.length) (dualN v T d ns).2 ∧ (∃ r, (dualN v T d ns).1 = ns ++ r) ∧
    ∀ (es : List Bool) (f : Nat → Bool), es.length = v → (∀ a ∈ d.args, VB es ns (T.getD a.toNat 0) = !f a.toNat) → VB es (dualN v T d ns).1 (dualN v T d ns).2 = !nodeVal d (cntOf f d.args) := by
  have hlen := hd.len
  have hlt : ∀ a ∈ d.args, a.toNat < T.length := fun a ha => by have := hd.args a ha; omega
  have har := hd.ar
  have hk0 := hd.k0; have hk1 := hd.k1; have hkk := hd.kk
  have hne : d.kind ≠ 0 → d.args ≠ [] := by
    intro h0 h1
    rw [h1] at har
    unfold argsB at har
    rw [if_neg h0] at har
    split at har <;> simp at har
  have hT1 := fun (x : Int) (hx : x ∈ trI T d.args) => trI_in hT hlt x hx
  have trne : d.kind ≠ 0 → trI T d.args ≠ [] := fun h0 h1 => hne h0 (by simpa [trI] using h1)
  have trl : (trI T d.args).length ≤ 16 := by rw [trI_length]; exact hlen
  have hin : InR (v + ((ns.length + 1 : Nat) : Int)) ((v : Int) + ns.length) := ⟨by omega, by omega⟩
  have hcnt : ∀ (es : List Bool) (f : Nat → Bool), (∀ a ∈ d.args, VB es ns (T.getD a.toNat 0) = !f a.toNat) → cnt (valsFrom es ns) (trI T d.args) + cntOf f d.args = d.args.length := fun es f hf => by
    rw [cnt_tr (f := fun j => !f j) hf]; exact cntOf_not f d.args
  have hle : ∀ f : Nat → Bool, cntOf f d.args ≤ d.args.length := fun f => cntOf_le f d.args
  unfold dualN
  split
  · rename_i h0
    have hk := hkk.1 h0
    refine ⟨h.snoc (Fits.mk0 (by omega)), by simpa using hin, ⟨_, rfl⟩, fun es f he hf => ?_⟩
    rw [VB_new he, nv0 rfl, nv0 h0]
    rw [Bool.eq_iff_iff]; simp only [decide_eq_true_eq, Bool.not_eq_true', decide_eq_false_iff_not, trI_length]; omega
  · split
    · rename_i h0 h2
      refine ⟨h.snoc (Fits.mk2 (.inr rfl) (trne h0) trl hT1), by simpa using hin, ⟨_, rfl⟩, fun es f he hf => ?_⟩
      have hc := hcnt es f hf
      rw [VB_new he, nv3 rfl, nv2 h2]
      rw [Bool.eq_iff_iff]; simp only [decide_eq_true_eq, Bool.not_eq_true', decide_eq_false_iff_not, trI_length]; omega
    · split
      · rename_i h0 h2 h3
        refine ⟨h.snoc (Fits.mk2 (.inl rfl) (trne h0) trl hT1), by simpa using hin, ⟨_, rfl⟩, fun es f he hf => ?_⟩
        have hc := hcnt es f hf
        rw [VB_new he, nv2 rfl, nv3 h3]
        rw [Bool.eq_iff_iff]; simp only [decide_eq_true_eq, Bool.not_eq_true', decide_eq_false_iff_not, trI_length]; omega
      · split
        · rename_i h0 h2 h3 h4
          have hk4 := hkk.2.1 h4
          refine ⟨h.snoc (Fits.mk4 (by omega) (by rw [trI_length]; omega) trl hT1), by simpa using hin, ⟨_, rfl⟩, fun es f he hf => ?_⟩
          have hc := hcnt es f hf
          rw [VB_new he, nv4 rfl, nv4 h4]
          rw [Bool.eq_iff_iff]; simp only [decide_eq_true_eq, Bool.not_eq_true', decide_eq_false_iff_not, trI_length]; omega
        · split
          · rename_i h0 h2 h3 h4 h5
            have h1 : NF v (ns ++ [⟨5, 0, trI T d.args⟩]) := h.snoc (Fits.mk5 (trne h0) trl hT1)
            refine ⟨h1.snoc (Fits.mk1 (by simpa using hin)), ⟨by omega, by simp⟩, ⟨_, List.append_assoc _ _ _⟩, fun es f he hf => ?_⟩
            have hc := hcnt es f hf
            have hl1 : (ns ++ ([⟨5, 0, trI T d.args⟩] : List Nd)).length = ns.length + 1 := by simp
            have hnew := VB_new (es := es) (ns := ns ++ [⟨5, 0, trI T d.args⟩]) he (d := ⟨1, 0, [(v : Int) + ns.length]⟩)
            rw [hl1] at hnew
            rw [hnew]
            rw [show nodeVal (⟨1, 0, [(v : Int) + ns.length]⟩ : Nd) (cnt (valsFrom es (ns ++ [⟨5, 0, trI T d.args⟩])) [(v : Int) + ns.length]) = !VB es (ns ++ [⟨5, 0, trI T d.args⟩]) ((v : Int) + ns.length) from by
              rw [cnt_one]; unfold nodeVal; cases VB es (ns ++ [⟨5, 0, trI T d.args⟩]) ((v : Int) + ns.length) <;> rfl]
            rw [VB_new he, nv5 rfl, nv5 h5.1]
            refine congrArg _ ?_
            rw [Bool.eq_iff_iff]; simp only [decide_eq_true_eq]; omega
          · rename_i h0 h2 h3 h4 h5
            by_cases h1 : d.kind = 1
            · have hl1 : d.args.length = 1 := by rw [h1] at har; unfold argsB at har; simp at har; omega
              obtain ⟨a, ha⟩ : ∃ a, d.args = [a] := List.length_eq_one_iff.1 hl1
              refine ⟨h.snoc ?_, by simpa using hin, ⟨_, rfl⟩, fun es f he hf => ?_⟩
              · rw [h1, ha]
                exact Fits.mk1 (hT1 _ (by rw [ha]; exact List.mem_cons_self))
              · have hc := hcnt es f hf
                have := hle f
                rw [VB_new he, nv1 (d := ⟨d.kind, 0, trI T d.args⟩) h1, nv1 h1]
                rw [Bool.eq_iff_iff]; simp only [decide_eq_true_eq, Bool.not_eq_true', decide_eq_false_iff_not, trI_length]; omega
            · have h5' : d.kind = 5 := by omega
              have hodd : d.args.length % 2 = 1 := by omega
              refine ⟨h.snoc ?_, by simpa using hin, ⟨_, rfl⟩, fun es f he hf => ?_⟩
              · rw [h5']; exact Fits.mk5 (trne h0) trl hT1
              · have hc := hcnt es f hf
                rw [VB_new he, nv5 (d := ⟨d.kind, 0, trI T d.args⟩) h5', nv5 h5']
                rw [Bool.eq_iff_iff]; simp only [decide_eq_true_eq, Bool.not_eq_true', decide_eq_false_iff_not, trI_length]; omega
theorem dualS_law {F : Fm} (hg : F.Good) {v : Nat} (hv : F.vars = v) : ∀ k, k ≤ F.nodes.length → NF v (dualS v F.nodes k).2 ∧ (∀ a ∈ (dualS v F.nodes k).1, InR (v + (dualS v F.nodes k).2.length) a) ∧
    ∀ (x y : Int), (∀ i, i < v → bitB y i = !bitB x i) → ∀ j, j < v + k → VB (events v x) (dualS v F.nodes k).2 ((dualS v F.nodes k).1.getD j 0) = !F.val y j
  | 0, _ => by
    have hvn : F.vars.toNat = v := by omega
    refine ⟨NF.nil, fun a ha => ?_, fun x y hxy j hj => ?_⟩
    · obtain ⟨i, hi, rfl⟩ := List.mem_map.1 ha
      have := List.mem_range.1 hi
      exact ⟨by omega, by show (i : Int) < v + (0 : Nat); omega⟩
    · show VB (events v x) [] ((evI v).getD j 0) = _
      rw [evI_getD (by omega), VB_event (by omega), F.val_event y (by omega), hxy j (by omega)]
      simp
  | k + 1, hk => by
    have hvn : F.vars.toNat = v := by omega
    obtain ⟨h1, h2, h3⟩ := dualS_law hg hv k (by omega)
    have hkn : k < F.nodes.length := by omega
    have hfit := hg.fits k hkn
    rw [hv] at hfit
    have hl := dualS_len (v := v) (nodes := F.nodes) k
    have hd : F.nodes.getD k ⟨0, 0, []⟩ = F.nodes[k] := by simp [hkn]
    obtain ⟨b0, b1, ⟨r, hr⟩, b3⟩ := dualN_law (m := v + k) h1 h2 (by rw [Int.natCast_add]; exact hfit) hl.1
    have hlen := (dualN_len v (dualS v F.nodes k).1 F.nodes[k] (dualS v F.nodes k).2).1
    simp only [dualS]
    rw [hd]
    refine ⟨b0, fun a ha => ?_, fun x y hxy j hj => ?_⟩
    · rcases List.mem_append.1 ha with ha | ha
      · exact (h2 a ha).mono (by omega)
      · obtain rfl := List.mem_singleton.1 ha; exact b1
    · have hes : (events v x).length = v := events_length v x
      by_cases hjk : j < v + k
      · rw [List.getD_eq_getElem?_getD, List.getElem?_append_left (by omega), ← List.getD_eq_getElem?_getD, hr, VB_old hes (getD_in h2 (by omega)), h3 x y hxy j hjk]
      · obtain rfl : j = v + k := by omega
        rw [List.getD_eq_getElem?_getD, List.getElem?_append_right (by omega), hl.1, Nat.sub_self]
        have hn := Fm.val_node hg y hkn
        rw [hvn] at hn
        rw [hn]
        exact b3 (events v x) (F.val y) hes (fun a ha => h3 x y hxy a.toNat (by have := hg.argLt hkn a ha; omega))
theorem dualB_fit {F : Fm} (hg : F.Good) : F.dualB.Fit := by
  have g0 := hg.v0; have gt := hg.topLt
  obtain ⟨v, hv⟩ := Int.eq_ofNat_of_zero_le g0
  have hvn : F.vars.toNat = v := by omega
  obtain ⟨h1, h2, _⟩ := dualS_law hg hv F.nodes.length (Nat.le_refl _)
  have hl := dualS_len (v := v) (nodes := F.nodes) F.nodes.length
  unfold Fm.dualB
  rw [hvn]
  exact ⟨g0, hg.v1, by simp only; rw [hv]; exact h1, by simp only; have := getD_in h2 (i := F.top.toNat) (by omega); rw [hv]; exact this⟩
theorem dual_value {F : Fm} (hg : F.Good) {v : Nat} (hv : F.vars = v) {x y : Int} (hxy : ∀ i, i < v → bitB y i = !bitB x i) : F.dualB.value x = !F.value y := by
  have gt := hg.topLt
  have hvn : F.vars.toNat = v := by omega
  have h := (dualS_law hg hv F.nodes.length (Nat.le_refl _)).2.2 x y hxy F.top.toNat (by omega)
  rw [Fm.value_eq, Fm.value_eq, ← h]
  unfold Fm.dualB Fm.val Fm.values VB
  rw [hvn]
end Go.GL
namespace Go.GL
set_option linter.unusedVariables false
set_option linter.unusedSimpArgs false
def notN (X v : Nat) : Nat := (2 ^ v - 1) ^^^ ((2 ^ v - 1) &&& X)
def plainB (ns : List Nd) : Bool := ns.all (fun d => decide (d.kind ≠ 1) && decide (d.kind ≠ 5))
end Go.GL
namespace Go.GL
set_option linter.unusedVariables false
set_option linter.unusedSimpArgs false
structure DSt (nodes : List Nd) (v : Nat) (T : List Int) (S : List Nd) (k : Nat) : Prop where
  ev : ∀ j, j < v → T.getD j 0 = j
  nd : ∀ i, i < k → (hin : i < nodes.length) → plainNd nodes[i] = true → ∃ p, ∃ hp : p < S.length, T.getD (v + i) 0 = v + p ∧ plainNd S[p] = true ∧ ∀ b ∈ S[p].args, ∃ a ∈ nodes[i].args, b = T.getD a.toNat 0
theorem DSt.next {F : Fm} (hg : F.Good) {v : Nat} (hv : F.vars = v) {k : Nat} (hk : k < F.nodes.length) {T : List Int} {S : List Nd} (hT : T.length = v + k) (h : DSt F.nodes v T S k) :
    DSt F.nodes v (T ++ [(dualN v T F.nodes[k] S).2]) (dualN v T F.nodes[k] S).1 (k + 1) := by
  have hvn : F.vars.toNat = v := by omega
  have old : ∀ j, j < v + k → (T ++ [(dualN v T F.nodes[k] S).2]).getD j 0 = T.getD j 0 := fun j hj => by
    rw [List.getD_eq_getElem?_getD, List.getElem?_append_left (by omega), ← List.getD_eq_getElem?_getD]
  have hpre : ∃ r, (dualN v T F.nodes[k] S).1 = S ++ r := by
    unfold dualN
    (repeat' split) <;> first | exact ⟨_, rfl⟩ | exact ⟨_, List.append_assoc _ _ _⟩
  refine ⟨fun j hj => by rw [old j (by omega)]; exact h.ev j hj, fun i hi hin hp => ?_⟩
  rcases Nat.lt_or_ge i k with hik | hik
  · obtain ⟨p, hp1, hp2, hp3, hp4⟩ := h.nd i hik hin hp
    obtain ⟨r, hr⟩ := hpre
    have hlt : p < (dualN v T F.nodes[k] S).1.length := by rw [hr, List.length_append]; omega
    have he : (dualN v T F.nodes[k] S).1[p] = S[p] := by
      have : (dualN v T F.nodes[k] S).1[p]? = S[p]? := by rw [hr, List.getElem?_append_left hp1]
      rw [List.getElem?_eq_getElem hlt, List.getElem?_eq_getElem hp1] at this
      exact Option.some.inj this
    refine ⟨p, hlt, by rw [old _ (by omega)]; exact hp2, by rw [he]; exact hp3, fun b hb => ?_⟩
    rw [he] at hb
    obtain ⟨a, ha, hba⟩ := hp4 b hb
    have := hg.argLt hin a ha
    exact ⟨a, ha, by rw [old _ (by omega)]; exact hba⟩
  · obtain rfl : i = k := by omega
    have hkd : F.nodes[i].kind ≠ 1 ∧ F.nodes[i].kind ≠ 5 := by simpa [plainNd] using hp
    have h0 := (hg.fits i hin).k0
    have h1 := (hg.fits i hin).k1
    have key : ∃ nd : Nd, dualN v T F.nodes[i] S = (S ++ [nd], (v : Int) + S.length) ∧ plainNd nd = true ∧ ∀ b ∈ nd.args, ∃ a ∈ F.nodes[i].args, b = T.getD a.toNat 0 := by
      have htr : ∀ b ∈ trI T F.nodes[i].args, ∃ a ∈ F.nodes[i].args, b = T.getD a.toNat 0 := fun b hb => by
        obtain ⟨a, ha, rfl⟩ := List.mem_map.1 hb
        exact ⟨a, ha, rfl⟩
      unfold dualN
      by_cases c0 : F.nodes[i].kind = 0
      · rw [if_pos c0]; exact ⟨_, rfl, by simp [plainNd], fun b hb => by cases hb⟩
      rw [if_neg c0]
      by_cases c2 : F.nodes[i].kind = 2
      · rw [if_pos c2]; exact ⟨_, rfl, by simp [plainNd], htr⟩
      rw [if_neg c2]
      by_cases c3 : F.nodes[i].kind = 3
      · rw [if_pos c3]; exact ⟨_, rfl, by simp [plainNd], htr⟩
      rw [if_neg c3, if_pos (by omega)]
      exact ⟨_, rfl, by simp [plainNd], htr⟩
    obtain ⟨nd, hnd, hnp, hna⟩ := key
    rw [hnd]
    have hTn : (T ++ [((v : Int) + S.length)]).getD (v + i) 0 = v + S.length := by
      rw [List.getD_eq_getElem?_getD, List.getElem?_append_right (by omega), hT, Nat.sub_self]; rfl
    have hSl : (S ++ [nd])[S.length]'(by simp) = nd := by simp
    refine ⟨S.length, by simp, hTn, by rw [hSl]; exact hnp, fun b hb => ?_⟩
    rw [hSl] at hb
    obtain ⟨a, ha, hba⟩ := hna b hb
    have := hg.argLt hin a ha
    refine ⟨a, ha, ?_⟩
    rw [List.getD_eq_getElem?_getD, List.getElem?_append_left (by omega), ← List.getD_eq_getElem?_getD]
    exact hba
theorem dualS_st {F : Fm} (hg : F.Good) {v : Nat} (hv : F.vars = v) : ∀ k, k ≤ F.nodes.length → DSt F.nodes v (dualS v F.nodes k).1 (dualS v F.nodes k).2 k
  | 0, _ => ⟨fun j hj => by show (evI v).getD j 0 = _; rw [evI_getD hj], fun i hi => absurd hi (Nat.not_lt_zero i)⟩
  | k + 1, hk => by
    have ih := dualS_st hg hv k (by omega)
    have hl := (dualS_len (v := v) (nodes := F.nodes) k).1
    have hkn : k < F.nodes.length := hk
    have := DSt.next hg hv hkn hl ih
    simp only [dualS]
    rw [show F.nodes.getD k ⟨0, 0, []⟩ = F.nodes[k] by simp [hkn]]
    exact this
theorem dualB_len (F : Fm) : F.dualB.nodes.length ≤ 2 * F.nodes.length := (dualS_len (v := F.vars.toNat) (nodes := F.nodes) F.nodes.length).2
theorem dualB_good {F : Fm} (hg : F.Good) (hn : F.nodes.length ≤ 64) : F.dualB.Good := by
  have hl := dualB_len F
  exact (dualB_fit hg).good (by omega)
theorem dualB_syn {F : Fm} (hg : F.Good) (hs : F.syn = true) (hn : F.nodes.length ≤ 64) : F.dualB.syn = true := by
  have hD := dualB_good hg hn
  obtain ⟨v, hv⟩ := Int.eq_ofNat_of_zero_le hg.v0
  have hvn : F.vars.toNat = v := by omega
  have hDv : F.dualB.vars.toNat = v := hvn
  have hst := dualS_st hg hv F.nodes.length (Nat.le_refl _)
  have hDn : F.dualB.nodes = (dualS v F.nodes F.nodes.length).2 := by unfold Fm.dualB; rw [hvn]
  have hDt : F.dualB.top = (dualS v F.nodes F.nodes.length).1.getD F.top.toNat 0 := by unfold Fm.dualB; rw [hvn]
  obtain ⟨T, hT⟩ : ∃ T, T = (dualS v F.nodes F.nodes.length).1 := ⟨_, rfl⟩
  rw [← hDn, ← hT] at hst
  rw [← hT] at hDt
  have hplain : ∀ i, (hi : i < F.nodes.length) → F.below.getD (v + i) false = true → plainNd F.nodes[i] = true := fun i hi hb => by
    have h1 := hs
    rw [← Fm.syn_ref hg] at h1
    have h2 := List.all_eq_true.1 h1 i (List.mem_range.2 hi)
    rw [hvn, hb, List.getD_eq_getElem?_getD, List.getElem?_eq_getElem hi] at h2
    simpa using h2
  have htop := hg.topLt
  have place : ∀ a : Nat, a < v + F.nodes.length → F.below.getD a false = true → (T.getD a 0).toNat < v ∨ ∃ i, ∃ hi : i < F.nodes.length, F.below.getD (v + i) false = true ∧ T.getD a 0 = T.getD (v + i) 0 := by
    intro a ha hb
    rcases Nat.lt_or_ge a v with h | h
    · left; rw [hst.ev a h]; omega
    · right
      exact ⟨a - v, by omega, by rw [show v + (a - v) = a by omega]; exact hb, by rw [show v + (a - v) = a by omega]⟩
  have key : ∀ (c j : Nat), j + c = v + F.dualB.nodes.length → F.dualB.below.getD j false = true → j < v ∨ ∃ i, ∃ hi : i < F.nodes.length, F.below.getD (v + i) false = true ∧ j = (T.getD (v + i) 0).toNat := by
    intro c
    induction c using Nat.strongRecOn with
    | _ c ih =>
      intro j hjc hj
      have fin : ∀ a : Nat, a < v + F.nodes.length → F.below.getD a false = true → j = (T.getD a 0).toNat → j < v ∨ ∃ i, ∃ hi : i < F.nodes.length, F.below.getD (v + i) false = true ∧ j = (T.getD (v + i) 0).toNat := by
        intro a ha hb hja
        rcases place a ha hb with h | ⟨i, hi, h1, h2⟩
        · left; omega
        · right; exact ⟨i, hi, h1, by rw [hja, h2]⟩
      rcases Fm.below_inv hD hj with hjt | ⟨q, hq, hm, b, hb, hbj⟩
      · exact fin F.top.toNat (by omega) (Fm.below_top hg) (by rw [hjt, hDt])
      · rw [hDv] at hm
        have hlt := hD.argLt hq b hb
        rw [hDv] at hlt
        rcases ih (F.dualB.nodes.length - q) (by omega) (v + q) (by omega) hm with h1 | ⟨i, hi, h1, h2⟩
        · omega
        · obtain ⟨p, hp, hp1, hp2, hp3⟩ := hst.nd i hi hi (hplain i hi h1)
          have hpq : p = q := by rw [hp1] at h2; omega
          subst hpq
          obtain ⟨a, ha, hba⟩ := hp3 b hb
          have hal := hg.argLt hi a ha
          rw [hvn] at hal
          refine fin a.toNat (by omega) (Fm.below_closed hg hi (by rw [hvn]; exact h1) a ha) ?_
          rw [← hbj, hba]
  rw [← Fm.syn_ref hD]
  refine List.all_eq_true.2 fun q hq => ?_
  have hq' := List.mem_range.1 hq
  cases hb : F.dualB.below.getD (F.dualB.vars.toNat + q) false with
  | false => rfl
  | true =>
    rw [hDv] at hb
    rcases key (F.dualB.nodes.length - q) (v + q) (by omega) hb with h1 | ⟨i, hi, h1, h2⟩
    · omega
    · obtain ⟨p, hp, hp1, hp2, hp3⟩ := hst.nd i hi hi (hplain i hi h1)
      have hpq : p = q := by rw [hp1] at h2; omega
      subst hpq
      rw [List.getD_eq_getElem?_getD, List.getElem?_eq_getElem hp]
      simpa using hp2
end Go.GL
namespace Go.GL
set_option linter.unusedVariables false
set_option linter.unusedSimpArgs false
def v356 : List Nat := [3, 5, 6]
theorem v356_can : Can v356 := by
  refine ⟨by decide, ?_, by decide⟩
  refine List.Pairwise.cons (fun b hb => ?_) (List.Pairwise.cons (fun b hb => ?_) (List.Pairwise.cons (fun b hb => (by cases hb)) List.Pairwise.nil))
  · simp at hb
    rcases hb with rfl | rfl
    · exact .inr ⟨by decide, by decide⟩
    · exact .inr ⟨by decide, by decide⟩
  · simp at hb
    subst hb
    exact .inr ⟨by decide, by decide⟩
theorem up_any {l : List Nat} {s : Nat} : up l s ↔ l.any (fun x => subB x s) = true := by rw [List.any_eq_true]; rfl
theorem v356_vals : ∀ r, r < 8 → (v356.any (fun x => subB x r)) = vote3.value ((r : Nat) : Int) ∧ (v356.any (fun x => subB x r)) = !vote3.value (((7 - r : Nat) : Nat) : Int) := by decide +kernel
theorem v356_cuts : Fam v356 (fun s => vote3.value ((s % 2 ^ 3 : Nat) : Int) = true) := by
  refine ⟨v356_can, by decide, fun s => ?_⟩
  rw [← up_mod (v := 3) (by decide) s, up_any, (v356_vals _ (Nat.mod_lt _ (by decide))).1]
theorem v356_paths : Fam v356 (fun s => vote3.value ((2 ^ 3 - 1 - s % 2 ^ 3 : Nat) : Int) = false) := by
  refine ⟨v356_can, by decide, fun s => ?_⟩
  rw [← up_mod (v := 3) (by decide) s, up_any, (v356_vals _ (Nat.mod_lt _ (by decide))).2]
  simp
end Go.GL
