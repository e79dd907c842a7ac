import Derived.Test.YtffghipagnjggaaGL74
namespace Go.GL
set_option linter.unusedVariables false
set_option linter.unusedSimpArgs false
def VB (es : List Bool) (ns : List Nd) (a : Int) : Bool := (valsFrom es ns).getD a.toNat false
theorem VB_old {es : List Bool} {ns r : List Nd} {v : Nat} (he : es.length = v) {a : Int} (ha : InR (v + ns.length) a) : VB es (ns ++ r) a = VB es ns a := by
  unfold VB
  rw [valsFrom_append, valsFrom_getD_lt]
  rw [valsFrom_length]
  have := ha.1; have := ha.2
  omega
theorem VB_new {es : List Bool} {ns : List Nd} {v : Nat} (he : es.length = v) {d : Nd} : VB es (ns ++ [d]) ((v : Int) + ns.length) = nodeVal d (cnt (valsFrom es ns) d.args) := by
  unfold VB
  rw [valsFrom_append]
  have hl := valsFrom_length ns es
  rw [he] at hl
  rw [valsFrom, valsFrom, show ((v : Int) + ns.length).toNat = (valsFrom es ns).length by omega, List.getD_eq_getElem?_getD]
  simp
theorem VB_event {v : Nat} {x : Int} {ns : List Nd} {i : Nat} (hi : i < v) : VB (events v x) ns (i : Int) = bitB x i := by
  unfold VB
  rw [Int.toNat_natCast, valsFrom_getD_lt _ _ _ (by rw [events_length]; exact hi)]
  simp [events, hi]
theorem cnt_tr {es : List Bool} {ns : List Nd} {T xs : List Int} {f : Nat → Bool} (h : ∀ a ∈ xs, VB es ns (T.getD a.toNat 0) = f a.toNat) : cnt (valsFrom es ns) (trI T xs) = cntOf f xs := by
  unfold cnt cntOf trI
  rw [List.countP_map]
  exact List.countP_congr fun a ha => by simp only [Function.comp]; rw [show (valsFrom es ns).getD (T.getD a.toNat 0).toNat false = VB es ns (T.getD a.toNat 0) from rfl, h a ha]
theorem cntOf_not (f : Nat → Bool) (xs : List Int) : cntOf (fun j => !f j) xs + cntOf f xs = xs.length := by
  unfold cntOf
  induction xs with
  | nil => rfl
  | cons a r ih =>
    have ih' : r.countP (fun a => !f a.toNat) + r.countP (fun a => f a.toNat) = r.length := ih
    simp only [List.countP_cons, List.length_cons]
    cases f a.toNat <;> simp only [Bool.not_false, Bool.not_true, if_true, Bool.false_eq_true, if_false] <;> omega
theorem cnt_one {es : List Bool} {ns : List Nd} {a : Int} : cnt (valsFrom es ns) [a] = if VB es ns a then 1 else 0 := by
  unfold cnt VB
  simp [List.countP_cons]
theorem nv0 {d : Nd} {c : Int} (h : d.kind = 0) : nodeVal d c = decide (d.k = 1) := by unfold nodeVal; rw [h]; rfl
theorem nv1 {d : Nd} {c : Int} (h : d.kind = 1) : nodeVal d c = decide (c = 0) := by unfold nodeVal; rw [h]; rfl
theorem nv2 {d : Nd} {c : Int} (h : d.kind = 2) : nodeVal d c = decide (c = d.args.length) := by unfold nodeVal; rw [h]; rfl
theorem nv3 {d : Nd} {c : Int} (h : d.kind = 3) : nodeVal d c = decide (0 < c) := by unfold nodeVal; rw [h]; rfl
theorem nv4 {d : Nd} {c : Int} (h : d.kind = 4) : nodeVal d c = decide (d.k ≤ c) := by unfold nodeVal; rw [h]; rfl
theorem nv5 {d : Nd} {c : Nat} (h : d.kind = 5) : nodeVal d (c : Int) = decide (c % 2 = 1) := by
  unfold nodeVal
  rw [h]
  show decide (((c % 2 : Nat) : Int) = 1) = _
  exact decide_eq_decide.2 (by omega)
def dualN (v : Int) (T : List Int) (d : Nd) (ns : List Nd) : List Nd × Int :=
  if d.kind = 0 then (ns ++ [⟨0, 1 - d.k, []⟩], v + ns.length)
  else if d.kind = 2 then (ns ++ [⟨3, 0, trI T d.args⟩], v + ns.length)
  else if d.kind = 3 then (ns ++ [⟨2, 0, trI T d.args⟩], v + ns.length)
  else if d.kind = 4 then (ns ++ [⟨4, d.args.length - d.k + 1, trI T d.args⟩], v + ns.length)
  else if d.kind = 5 ∧ d.args.length % 2 = 0 then (ns ++ [⟨5, 0, trI T d.args⟩] ++ [⟨1, 0, [v + ns.length]⟩], v + (ns.length + 1 : Nat))
  else (ns ++ [⟨d.kind, 0, trI T d.args⟩], v + ns.length)
def dualS (v : Nat) (nodes : List Nd) : Nat → List Int × List Nd
  | 0 => (evI v, [])
  | k + 1 => ((dualS v nodes k).1 ++ [(dualN v (dualS v nodes k).1 (nodes.getD k ⟨0, 0, []⟩) (dualS v nodes k).2).2], (dualN v (dualS v nodes k).1 (nodes.getD k ⟨0, 0, []⟩) (dualS v nodes k).2).1)
theorem dualN_len (v : Int) (T : List Int) (d : Nd) (ns : List Nd) : ns.length ≤ (dualN v T d ns).1.length ∧ (dualN v T d ns).1.length ≤ ns.length + 2 := by
  unfold dualN
  (repeat' split) <;> simp
theorem dualS_len {v : Nat} {nodes : List Nd} : ∀ k, (dualS v nodes k).1.length = v + k ∧ (dualS v nodes k).2.length ≤ 2 * k
  | 0 => by simp [dualS, evI_length]
  | k + 1 => by
    obtain ⟨h1, h2⟩ := dualS_len (v := v) (nodes := nodes) k
    have := dualN_len v (dualS v nodes k).1 (nodes.getD k ⟨0, 0, []⟩) (dualS v nodes k).2
    simp only [dualS, List.length_append, List.length_singleton]
    omega
def Fm.dualB (F : Fm) : Fm := ⟨F.vars, (dualS F.vars.toNat F.nodes F.nodes.length).2, (dualS F.vars.toNat F.nodes F.nodes.length).1.getD F.top.toNat 0⟩
def Fm.dualF (F : Fm) : Fm := match F.err with | some _ => Fm.zero | none => sizedF F.dualB
def Fm.dualE (F : Fm) : Option Int := match F.err with | some e => some e | none => sizedE F.dualB
theorem Fits.mk5 {m : Int} {l : List Int} (h0 : l ≠ []) (h1 : l.length ≤ 16) (h : ∀ a ∈ l, InR m a) : (⟨5, 0, l⟩ : Nd).Fits m := by
  have hl : 1 ≤ l.length := List.length_pos_iff.2 h0
  refine ⟨show (0 : Int) ≤ 5 by decide, show (5 : Int) ≤ 5 by decide, ?_, h, fun e => absurd e (show ¬ (5 : Int) = 0 by decide), fun e => absurd e (show ¬ (5 : Int) = 4 by decide), fun _ _ => rfl⟩
  show argsB 5 l.length = true
  unfold argsB
  rw [if_neg (by decide), if_neg (by decide)]
  simp
  omega
theorem dualN_law {v : Nat} {T : List Int} {d : Nd} {ns : List Nd} {m : Nat} (h : NF v ns) (hT : ∀ a ∈ T, InR (v + ns.length) a) (hd : d.Fits m) (hTl : T.length = m) :
    NF v (dualN v T d ns).1 ∧ InR (v + (dualN v T d ns).1.length) (dualN v T d ns).2 ∧ (∃ r, (dualN v T d ns).1 = ns ++ r) ∧
    ∀ (es : List Bool) (f : Nat → Bool), es.length = v → (∀ a ∈ d.args, VB es ns (T.getD a.toNat 0) = !f a.toNat) → VB es (dualN v T d ns).1 (dualN v T d ns).2 = !nodeVal d (cntOf f d.args) := by
  have hlen := hd.len
  have hlt : ∀ a ∈ d.args, a.toNat < T.length := fun a ha => by have := hd.args a ha; omega
  have har := hd.ar
  have hk0 := hd.k0; have hk1 := hd.k1; have hkk := hd.kk
  have hne : d.kind ≠ 0 → d.args ≠ [] := by
    intro h0 h1
    rw [h1] at har
    unfold argsB at har
    rw [if_neg h0] at har
    split at har <;> simp at har
  have hT1 := fun (x : Int) (hx : x ∈ trI T d.args) => trI_in hT hlt x hx
  have trne : d.kind ≠ 0 → trI T d.args ≠ [] := fun h0 h1 => hne h0 (by simpa [trI] using h1)
  have trl : (trI T d.args).length ≤ 16 := by rw [trI_length]; exact hlen
  have hin : InR (v + ((ns.length + 1 : Nat) : Int)) ((v : Int) + ns.length) := ⟨by omega, by omega⟩
  have hcnt : ∀ (es : List Bool) (f : Nat → Bool), (∀ a ∈ d.args, VB es ns (T.getD a.toNat 0) = !f a.toNat) → cnt (valsFrom es ns) (trI T d.args) + cntOf f d.args = d.args.length := fun es f hf => by
    rw [cnt_tr (f := fun j => !f j) hf]; exact cntOf_not f d.args
  have hle : ∀ f : Nat → Bool, cntOf f d.args ≤ d.args.length := fun f => cntOf_le f d.args
  unfold dualN
  split
  · rename_i h0
    have hk := hkk.1 h0
    refine ⟨h.snoc (Fits.mk0 (by omega)), by simpa using hin, ⟨_, rfl⟩, fun es f he hf => ?_⟩
    rw [VB_new he, nv0 rfl, nv0 h0]
    rw [Bool.eq_iff_iff]; simp only [decide_eq_true_eq, Bool.not_eq_true', decide_eq_false_iff_not, trI_length]; omega
  · split
    · rename_i h0 h2
      refine ⟨h.snoc (Fits.mk2 (.inr rfl) (trne h0) trl hT1), by simpa using hin, ⟨_, rfl⟩, fun es f he hf => ?_⟩
      have hc := hcnt es f hf
      rw [VB_new he, nv3 rfl, nv2 h2]
      rw [Bool.eq_iff_iff]; simp only [decide_eq_true_eq, Bool.not_eq_true', decide_eq_false_iff_not, trI_length]; omega
    · split
      · rename_i h0 h2 h3
        refine ⟨h.snoc (Fits.mk2 (.inl rfl) (trne h0) trl hT1), by simpa using hin, ⟨_, rfl⟩, fun es f he hf => ?_⟩
        have hc := hcnt es f hf
        rw [VB_new he, nv2 rfl, nv3 h3]
        rw [Bool.eq_iff_iff]; simp only [decide_eq_true_eq, Bool.not_eq_true', decide_eq_false_iff_not, trI_length]; omega
      · split
        · rename_i h0 h2 h3 h4
          have hk4 := hkk.2.1 h4
          refine ⟨h.snoc (Fits.mk4 (by omega) (by rw [trI_length]; omega) trl hT1), by simpa using hin, ⟨_, rfl⟩, fun es f he hf => ?_⟩
          have hc := hcnt es f hf
          rw [VB_new he, nv4 rfl, nv4 h4]
          rw [Bool.eq_iff_iff]; simp only [decide_eq_true_eq, Bool.not_eq_true', decide_eq_false_iff_not, trI_length]; omega
        · split
          · rename_i h0 h2 h3 h4 h5
            have h1 : NF v (ns ++ [⟨5, 0, trI T d.args⟩]) := h.snoc (Fits.mk5 (trne h0) trl hT1)
            refine ⟨h1.snoc (Fits.mk1 (by simpa using hin)), ⟨by omega, by simp⟩, ⟨_, List.append_assoc _ _ _⟩, fun es f he hf => ?_⟩
            have hc := hcnt es f hf
            have hl1 : (ns ++ ([⟨5, 0, trI T d.args⟩] : List Nd)).length = ns.length + 1 := by simp
            have hnew := VB_new (es := es) (ns := ns ++ [⟨5, 0, trI T d.args⟩]) he (d := ⟨1, 0, [(v : Int) + ns.length]⟩)
            rw [hl1] at hnew
            rw [hnew]
            rw [show nodeVal (⟨1, 0, [(v : Int) + ns.length]⟩ : Nd) (cnt (valsFrom es (ns ++ [⟨5, 0, trI T d.args⟩])) [(v : Int) + ns.length]) = !VB es (ns ++ [⟨5, 0, trI T d.args⟩]) ((v : Int) + ns.length) from by
              rw [cnt_one]; unfold nodeVal; cases VB es (ns ++ [⟨5, 0, trI T d.args⟩]) ((v : Int) + ns.length) <;> rfl]
            rw [VB_new he, nv5 rfl, nv5 h5.1]
            refine congrArg _ ?_
            rw [Bool.eq_iff_iff]; simp only [decide_eq_true_eq]; omega
          · rename_i h0 h2 h3 h4 h5
            by_cases h1 : d.kind = 1
            · have hl1 : d.args.length = 1 := by rw [h1] at har; unfold argsB at har; simp at har; omega
              obtain ⟨a, ha⟩ : ∃ a, d.args = [a] := List.length_eq_one_iff.1 hl1
              refine ⟨h.snoc ?_, by simpa using hin, ⟨_, rfl⟩, fun es f he hf => ?_⟩
              · rw [h1, ha]
                exact Fits.mk1 (hT1 _ (by rw [ha]; exact List.mem_cons_self))
              · have hc := hcnt es f hf
                have := hle f
                rw [VB_new he, nv1 (d := ⟨d.kind, 0, trI T d.args⟩) h1, nv1 h1]
                rw [Bool.eq_iff_iff]; simp only [decide_eq_true_eq, Bool.not_eq_true', decide_eq_false_iff_not, trI_length]; omega
            · have h5' : d.kind = 5 := by omega
              have hodd : d.args.length % 2 = 1 := by omega
              refine ⟨h.snoc ?_, by simpa using hin, ⟨_, rfl⟩, fun es f he hf => ?_⟩
              · rw [h5']; exact Fits.mk5 (trne h0) trl hT1
              · have hc := hcnt es f hf
                rw [VB_new he, nv5 (d := ⟨d.kind, 0, trI T d.args⟩) h5', nv5 h5']
                rw [Bool.eq_iff_iff]; simp only [decide_eq_true_eq, Bool.not_eq_true', decide_eq_false_iff_not, trI_length]; omega
theorem dualS_law {F : Fm} (hg : F.Good) {v : Nat} (hv : F.vars = v) : ∀ k, k ≤ F.nodes.length → NF v (dualS v F.nodes k).2 ∧ (∀ a ∈ (dualS v F.nodes k).1, InR (v + (dualS v F.nodes k).2.length) a) ∧
    ∀ (x y : Int), (∀ i, i < v → bitB y i = !bitB x i) → ∀ j, j < v + k → VB (events v x) (dualS v F.nodes k).2 ((dualS v F.nodes k).1.getD j 0) = !F.val y j
  | 0, _ => by
    have hvn : F.vars.toNat = v := by omega
    refine ⟨NF.nil, fun a ha => ?_, fun x y hxy j hj => ?_⟩
    · obtain ⟨i, hi, rfl⟩ := List.mem_map.1 ha
      have := List.mem_range.1 hi
      exact ⟨by omega, by show (i : Int) < v + (0 : Nat); omega⟩
    · show VB (events v x) [] ((evI v).getD j 0) = _
      rw [evI_getD (by omega), VB_event (by omega), F.val_event y (by omega), hxy j (by omega)]
      simp
  | k + 1, hk => by
    have hvn : F.vars.toNat = v := by omega
    obtain ⟨h1, h2, h3⟩ := dualS_law hg hv k (by omega)
    have hkn : k < F.nodes.length := by omega
    have hfit := hg.fits k hkn
    rw [hv] at hfit
    have hl := dualS_len (v := v) (nodes := F.nodes) k
    have hd : F.nodes.getD k ⟨0, 0, []⟩ = F.nodes[k] := by simp [hkn]
    obtain ⟨b0, b1, ⟨r, hr⟩, b3⟩ := dualN_law (m := v + k) h1 h2 (by rw [Int.natCast_add]; exact hfit) hl.1
    have hlen := (dualN_len v (dualS v F.nodes k).1 F.nodes[k] (dualS v F.nodes k).2).1
    simp only [dualS]
    rw [hd]
    refine ⟨b0, fun a ha => ?_, fun x y hxy j hj => ?_⟩
    · rcases List.mem_append.1 ha with ha | ha
      · exact (h2 a ha).mono (by omega)
      · obtain rfl := List.mem_singleton.1 ha; exact b1
    · have hes : (events v x).length = v := events_length v x
      by_cases hjk : j < v + k
      · rw [List.getD_eq_getElem?_getD, List.getElem?_append_left (by omega), ← List.getD_eq_getElem?_getD, hr, VB_old hes (getD_in h2 (by omega)), h3 x y hxy j hjk]
      · obtain rfl : j = v + k := by omega
        rw [List.getD_eq_getElem?_getD, List.getElem?_append_right (by omega), hl.1, Nat.sub_self]
        have hn := Fm.val_node hg y hkn
        rw [hvn] at hn
        rw [hn]
        exact b3 (events v x) (F.val y) hes (fun a ha => h3 x y hxy a.toNat (by have := hg.argLt hkn a ha; omega))
theorem dualB_fit {F : Fm} (hg : F.Good) : F.dualB.Fit := by
  have g0 := hg.v0; have gt := hg.topLt
  obtain ⟨v, hv⟩ := Int.eq_ofNat_of_zero_le g0
  have hvn : F.vars.toNat = v := by omega
  obtain ⟨h1, h2, _⟩ := dualS_law hg hv F.nodes.length (Nat.le_refl _)
  have hl := dualS_len (v := v) (nodes := F.nodes) F.nodes.length
  unfold Fm.dualB
  rw [hvn]
  exact ⟨g0, hg.v1, by simp only; rw [hv]; exact h1, by simp only; have := getD_in h2 (i := F.top.toNat) (by omega); rw [hv]; exact this⟩
theorem dual_value {F : Fm} (hg : F.Good) {v : Nat} (hv : F.vars = v) {x y : Int} (hxy : ∀ i, i < v → bitB y i = !bitB x i) : F.dualB.value x = !F.value y := by
  have gt := hg.topLt
  have hvn : F.vars.toNat = v := by omega
  have h := (dualS_law hg hv F.nodes.length (Nat.le_refl _)).2.2 x y hxy F.top.toNat (by omega)
  rw [Fm.value_eq, Fm.value_eq, ← h]
  unfold Fm.dualB Fm.val Fm.values VB
  rw [hvn]
theorem dual_plain {v : Nat} {nodes : List Nd} (h : ∀ d ∈ nodes, d.kind ≠ 1 ∧ d.kind ≠ 5) : ∀ k, k ≤ nodes.length → ∀ d ∈ (dualS v nodes k).2, d.kind ≠ 1 ∧ d.kind ≠ 5
  | 0, _, d, hd => by simp [dualS] at hd
  | k + 1, hk, d, hd => by
    have ih := dual_plain (v := v) h k (by omega)
    have hkn : k < nodes.length := by omega
    have hn := h _ (List.getElem_mem hkn)
    simp only [dualS] at hd
    rw [show nodes.getD k ⟨0, 0, []⟩ = nodes[k] from by simp [hkn]] at hd
    unfold dualN at hd
    (repeat' split at hd) <;> simp only [List.mem_append, List.mem_singleton] at hd <;> first
      | (rcases hd with hd | rfl
         · exact ih d hd
         · first | exact hn | (simp; done) | (simp; omega))
      | (rename_i h5; exact absurd h5.1 hn.2)
theorem dualF_ok (F : Fm) : F.dualF.ok := by
  unfold Fm.dualF
  cases h : F.err with
  | some e => exact zero_ok
  | none => exact sizedF_ok (dualB_fit ((Fm.good_iff F).1 h))
end Go.GL
namespace Go.GL
set_option linter.unusedVariables false
set_option linter.unusedSimpArgs false
theorem iandn_low {a v : Nat} {z : Int} (ha : a < 2 ^ v) (hv : v ≤ 62) : iandn a z = ((a ^^^ (a &&& lowBits z v) : Nat) : Int) := by
  have h62 : (2 : Nat) ^ v ≤ 2 ^ 62 := Nat.pow_le_pow_right (by decide) hv
  have e62 : (2 : Nat) ^ 62 = 4611686018427387904 := by decide
  have e63 : (2 : Nat) ^ 63 = 9223372036854775808 := by decide
  unfold iandn
  have h : (BitVec.ofInt 64 (a : Int) &&& ~~~ BitVec.ofInt 64 z).toNat = a ^^^ (a &&& lowBits z v) := by
    simp only [BitVec.toNat_and, BitVec.toNat_not, BitVec.toNat_ofInt]
    rw [show ((2 ^ 64 : Nat) : Int) = 18446744073709551616 by decide, emod64 (by omega), ← u64_low z (by omega)]
    have hu : (z % 18446744073709551616).toNat < 2 ^ 64 := by
      have := Int.emod_lt_of_pos z (show (0 : Int) < 18446744073709551616 by decide)
      omega
    generalize (z % 18446744073709551616).toNat = u at *
    refine Nat.eq_of_testBit_eq fun i => ?_
    rw [Nat.testBit_and, show 2 ^ 64 - 1 - u = 2 ^ 64 - (u + 1) by omega, Nat.testBit_two_pow_sub_succ (by omega), Nat.testBit_xor, Nat.testBit_and, Nat.testBit_mod_two_pow]
    by_cases hi : i < v
    · simp [hi, show i < 64 by omega]
      cases a.testBit i <;> cases u.testBit i <;> rfl
    · have : a.testBit i = false := Nat.testBit_lt_two_pow (Nat.lt_of_lt_of_le ha (Nat.pow_le_pow_right (by decide) (by omega)))
      simp [this]
  have hlt : a ^^^ (a &&& lowBits z v) < 2 ^ 63 := Nat.xor_lt_two_pow (by omega) (Nat.lt_of_le_of_lt Nat.and_le_left (by omega))
  rw [h, wrapI (by omega)]
  omega
def notN (X v : Nat) : Nat := (2 ^ v - 1) ^^^ ((2 ^ v - 1) &&& X)
theorem notN_test {X v i : Nat} (hi : i < v) : (notN X v).testBit i = !X.testBit i := by
  unfold notN
  rw [Nat.testBit_xor, Nat.testBit_and, Nat.testBit_two_pow_sub_one]
  simp [hi]
theorem notN_lt (X v : Nat) : notN X v < 2 ^ v := by
  have := Nat.two_pow_pos v
  exact Nat.xor_lt_two_pow (by omega) (Nat.lt_of_le_of_lt Nat.and_le_left (by omega))
def plainB (ns : List Nd) : Bool := ns.all (fun d => decide (d.kind ≠ 1) && decide (d.kind ≠ 5))
theorem plainB_take {ns : List Nd} {k : Nat} (hk : k < ns.length) : plainB (ns.take (k + 1)) = ((plainB (ns.take k) && decide (ns[k].kind ≠ 1)) && decide (ns[k].kind ≠ 5)) := by
  unfold plainB
  rw [List.take_succ_eq_append_getElem hk, List.all_append]
  simp [Bool.and_assoc]
theorem plainB_iff {ns : List Nd} (h : plainB ns = true) : ∀ d ∈ ns, d.kind ≠ 1 ∧ d.kind ≠ 5 := by
  intro d hd
  have := List.all_eq_true.1 h d hd
  simpa using this
end Go.GL
