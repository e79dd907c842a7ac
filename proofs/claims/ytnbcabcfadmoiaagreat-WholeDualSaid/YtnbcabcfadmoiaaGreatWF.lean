import Derived.Test.YtnbcabcfadmoiaaGreatWE
import Derived.Test.YtnbcabcfadmoiaaGreatWB
import Derived.Test.YtnbcabcfadmoiaaGreatWD
namespace Go.Proofs
open Go.GL
set_option linter.unusedVariables false
set_option linter.unusedSimpArgs false
theorem dz (n : Nat) : decide (((n:Nat):Int) = 0) = decide (n = 0) := decide_eq_decide.2 (by omega)
theorem part_g {H : List Ent} {r s : Rw} {v : Nat} (hr : r.Fit v) (hs : s.Fit v) (hv : v ≤ 24) : Gives Tryz.prog 75 [.agg (List.toArray r.cells), .agg (List.toArray s.cells)] H (R1 (.bool (r.part s)) H) := by
  have hev : r.ev < 2 ^ 24 := Nat.lt_of_lt_of_le hr.e (Nat.pow_le_pow_right (by decide) hv)
  have hes : s.ev < 2 ^ 24 := Nat.lt_of_lt_of_le hs.e (Nat.pow_le_pow_right (by decide) hv)
  have h24 : (2 : Nat) ^ 24 = 16777216 := rfl
  have q0 := hr.a
  have q1 := hr.b
  have q2 := hs.a
  have q3 := hs.b
  refine Gives.enter Tryz.func75 rfl (by exact Tryz.ntmps75) rfl ?_
  refine Tri.seq (Tri.region ?_)
  refine TOps.boxN rfl ti66 rfl rfl (fun b2 => ?_)
  refine TOps.hide (fun H1 l1 s1 r1 => ?_)
  refine TOps.boxN rfl ti66 rfl rfl (fun b3 => ?_)
  refine TOps.hide (fun H2 l2 s2 r2 => ?_)
  replace r1 := r1.le l2; have l3 := l2.trans l1
  refine TOps.assign rfl rfl ?_
  refine TOps.next ?_
  refine Tri.seq (Tri.region ?_)
  refine TOps.field0 rfl Tryz.underlying66 rfl rfl ti3 rfl rfl rfl ?_
  refine TOps.load1 (v := natV r.ev) rfl ti3 (Rd.fld r1 0 rfl) rfl ?_
  refine TOps.field0 rfl Tryz.underlying66 rfl rfl ti3 rfl rfl rfl ?_
  refine TOps.load1 (v := natV s.ev) rfl ti3 (Rd.fld r2 0 rfl) rfl ?_
  refine TOps.andNot (r := ((r.ev ^^^ (r.ev &&& s.ev) : Nat) : Int)) rfl rfl (iandn_nat (by omega) (by omega)) rfl ?_
  refine TOps.eqlI rfl rfl rfl ?_
  refine TOps.move rfl rfl ?_
  refine' TOps.andB 8 rfl rfl rfl rfl (fun hg1_6 => ?_) ?_; rotate_left
  · have hg1_6' := hg1_6
    try simp only [decide_eq_true_eq, decide_eq_false_iff_not, Bool.and_eq_true, Bool.or_eq_true, Bool.not_eq_true', Bool.and_eq_false_iff, Bool.or_eq_false_iff, Bool.not_eq_false', Int.not_lt, Int.not_le, ne_eq, Decidable.not_not] at hg1_6'
    refine TOps.strip 6 true rfl rfl hg1_6 rfl ?_
    first | refine TOps.fieldB 1 rfl Tryz.underlying66 rfl rfl ti64 rfl rfl rfl ?_ | refine TOps.fieldN 1 rfl Tryz.underlying66 rfl rfl ti64 rfl rfl rfl ?_
    refine TOps.indexAddrA (off' := 1) rfl rfl Tryz.underlying64 ti63 (by omega) (by omega) (by simp) rfl ?_
    refine TOps.load1 (v := .int .u64 r.n0) rfl ti63 (Rd.fld r1 1 rfl) rfl ?_
    first | refine TOps.fieldB 1 rfl Tryz.underlying66 rfl rfl ti64 rfl rfl rfl ?_ | refine TOps.fieldN 1 rfl Tryz.underlying66 rfl rfl ti64 rfl rfl rfl ?_
    refine TOps.indexAddrA (off' := 1) rfl rfl Tryz.underlying64 ti63 (by omega) (by omega) (by simp) rfl ?_
    refine TOps.load1 (v := .int .u64 s.n0) rfl ti63 (Rd.fld r2 1 rfl) rfl ?_
    refine TOps.andNotU (r := ((r.n0 ^^^ (r.n0 &&& s.n0) : Nat) : Int)) rfl rfl (uandn_nat q0 q2) rfl ?_
    refine TOps.eqlI rfl rfl rfl ?_
    refine TOps.blk rfl (by repeat (first | exact Ext.refl _ | refine Ext.cons rfl ?_)) (by repeat (first | exact Le.refl _ | apply Le.drop))
  refine TOps.move rfl rfl ?_
  refine' TOps.andB 8 rfl rfl rfl rfl (fun hg1_16 => ?_) ?_; rotate_left
  · have hg1_16' := hg1_16
    try simp only [decide_eq_true_eq, decide_eq_false_iff_not, Bool.and_eq_true, Bool.or_eq_true, Bool.not_eq_true', Bool.and_eq_false_iff, Bool.or_eq_false_iff, Bool.not_eq_false', Int.not_lt, Int.not_le, ne_eq, Decidable.not_not] at hg1_16'
    refine TOps.strip 16 true rfl rfl hg1_16 rfl ?_
    first | refine TOps.fieldB 1 rfl Tryz.underlying66 rfl rfl ti64 rfl rfl rfl ?_ | refine TOps.fieldN 1 rfl Tryz.underlying66 rfl rfl ti64 rfl rfl rfl ?_
    refine TOps.indexAddrA (off' := 2) rfl rfl Tryz.underlying64 ti63 (by omega) (by omega) (by simp) rfl ?_
    refine TOps.load1 (v := .int .u64 r.n1) rfl ti63 (Rd.fld r1 2 rfl) rfl ?_
    first | refine TOps.fieldB 1 rfl Tryz.underlying66 rfl rfl ti64 rfl rfl rfl ?_ | refine TOps.fieldN 1 rfl Tryz.underlying66 rfl rfl ti64 rfl rfl rfl ?_
    refine TOps.indexAddrA (off' := 2) rfl rfl Tryz.underlying64 ti63 (by omega) (by omega) (by simp) rfl ?_
    refine TOps.load1 (v := .int .u64 s.n1) rfl ti63 (Rd.fld r2 2 rfl) rfl ?_
    refine TOps.andNotU (r := ((r.n1 ^^^ (r.n1 &&& s.n1) : Nat) : Int)) rfl rfl (uandn_nat q1 q3) rfl ?_
    refine TOps.eqlI rfl rfl rfl ?_
    refine TOps.blk rfl (by repeat (first | exact Ext.refl _ | refine Ext.cons rfl ?_)) (by repeat (first | exact Le.refl _ | apply Le.drop))
  refine TOps.assign rfl rfl ?_
  refine TOps.next ?_
  refine Tri.ret1 (H' := H) Tryz.results75 (fun _ _ h => h) (.tmp rfl) l3 ⟨?_, rfl⟩
  congr 1
  unfold Rw.part
  rw [← Bool.and_assoc]
  simp only [dz]
theorem least2_g {H : List Ent} {r s : Rw} {v b : Nat} (hr : r.Fit v) (hs : s.Fit v) (hv : v ≤ 24) (hb : Rd H b 0 r.cells) : Gives Tryz.prog 74 [.agg (List.toArray s.cells), .pointer (some ⟨b, 0, none⟩)] H (R1 (.bool (s.part r)) H) := by
  refine Gives.enter Tryz.func74 rfl (by exact Tryz.ntmps74) rfl ?_
  refine Tri.seq (Tri.region ?_)
  refine TOps.boxN rfl ti66 rfl rfl (fun b2 => ?_)
  refine TOps.hide (fun H1 l1 s1 r1 => ?_)
  replace hb := hb.le l1
  refine TOps.assign rfl rfl ?_
  refine TOps.next ?_
  refine Tri.seq (Tri.region ?_)
  refine TOps.loadN (vs := s.cells) rfl ti66 r1 rfl rfl ?_
  refine TOps.loadN (vs := r.cells) rfl ti66 hb rfl rfl ?_
  refine TOps.call (vs := [_, _]) Tryz.call75 ⟨rfl, rfl, trivial⟩ (part_g hs hr hv) rfl ?_
  rintro _ _ ⟨rfl, rfl⟩
  refine TOps.assign rfl rfl ?_
  refine TOps.next ?_
  refine Tri.ret1 (H' := H) Tryz.results74 (fun _ _ h => h) (.tmp rfl) l1 ⟨rfl, rfl⟩
theorem rwS_at {H : List Ent} {oa : Option Nat} {l : List Rw} (hr : RdS H oa 0 (rwV l)) {k : Nat} (hk : k < l.length) : ∃ b, oa = some b ∧ Rd H b (0 + k * 3) l[k].cells := by
  obtain ⟨b, h1, _, h2⟩ := RdS.blk hr (k := k * 3) (ws := l[k].cells) (by simp [Rw.cells]) (fun j v h => rwV_at l k _ (List.getElem?_eq_getElem hk) j v h)
  exact ⟨b, h1, h2⟩
theorem ixRows_g {H : List Ent} {oa : Option Nat} {l : List Rw} {r : Rw} {b cc v : Nat} (hr : RdS H oa 0 (rwV l)) (hf : ∀ s ∈ l, s.Fit v) (hv : v ≤ 24) (hrf : r.Fit v) (hb : Rd H b 0 r.cells) (hl : l.length ≤ 100000) :
    Gives Tryz.prog 94 [slV oa 0 l.length cc, .func (.func 74) #[] #[.pointer (some ⟨b, 0, none⟩)]] H (R1 (.int .i64 (ixR l r)) H) := by
  refine Gives.enter Tryz.func94 rfl (by exact Tryz.ntmps94) rfl ?_
  refine Tri.seq (Tri.region ?_)
  refine TOps.assign rfl rfl ?_
  refine TOps.next ?_
  refine Tri.seq ?_
  refine Tri.seq (Tri.region ?_)
  refine TOps.move rfl rfl ?_
  refine TOps.len rfl Tryz.underlying60 rfl ?_
  refine TOps.move rfl rfl ?_
  refine TOps.next ?_
  refine Tri.range (X := Unit) (fun x k => [(0, slV oa 0 l.length cc), (1, .func (.func 74) #[] #[.pointer (some ⟨b, 0, none⟩)])]) (fun x k => H) (fun x k => ∀ j, (hj : j < k) → (hj2 : j < l.length) → l[j].part r = false) (by omega) rfl rfl rfl (fun _ _ => ⟨rfl, rfl, rfl, rfl⟩) () (fun j hj => absurd hj (Nat.not_lt_zero j)) ⟨rfl, rfl, trivial⟩ (by repeat (first | exact Le.refl _ | assumption | apply Le.drop)) (fun k x hlt hp => ?_) (fun x ac wc hp hS hM => ?_)
  · skip
    obtain ⟨rb, rfl, hrk⟩ := rwS_at hr hlt
    refine Tri.seq (Tri.region ?_)
    refine TOps.move rfl rfl ?_
    refine TOps.assign rfl rfl ?_
    refine TOps.next ?_
    refine Tri.seq (Tri.region ?_)
    refine TOps.move rfl rfl ?_
    refine TOps.move rfl rfl ?_
    refine TOps.move rfl rfl ?_
    refine TOps.indexAddr (b := rb) (off := 0) (m := l.length) (cap := cc) (off' := 0 + k * 3) rfl rfl Tryz.underlying60 ti66 (by omega) (by omega) (by simp) rfl ?_
    refine TOps.loadN (vs := l[k].cells) rfl ti66 hrk rfl rfl ?_
    refine TOps.callV (caps := [_]) (vs := [_]) rfl Tryz.call74 ⟨rfl, trivial⟩ (least2_g hrf (hf _ (List.getElem_mem hlt)) hv hb) rfl ?_
    rintro _ _ ⟨rfl, rfl⟩
    refine TOps.next ?_
    refine Tri.cond rfl (fun hc1 => ?_) (fun hc1 => ?_)
    · try simp only [decide_eq_true_eq, decide_eq_false_iff_not, Bool.and_eq_true, Bool.or_eq_true, Bool.not_eq_true', Bool.and_eq_false_iff, Bool.or_eq_false_iff, Bool.not_eq_false', Int.not_lt, Int.not_le, ne_eq, Decidable.not_not, Option.isSome_iff_ne_none, Option.isNone_iff_eq_none] at hc1
      refine Tri.seq (Tri.region ?_)
      refine TOps.move rfl rfl ?_
      refine TOps.assign rfl rfl ?_
      refine TOps.next ?_
      refine Tri.ret1 (H' := H) Tryz.results94 (fun _ _ h => h) (.tmp rfl) (Le.refl _) ⟨by rw [ixR_first hlt (fun j hj => hp j hj (by omega)) hc1], rfl⟩
    try simp only [decide_eq_true_eq, decide_eq_false_iff_not, Bool.and_eq_true, Bool.or_eq_true, Bool.not_eq_true', Bool.and_eq_false_iff, Bool.or_eq_false_iff, Bool.not_eq_false', Int.not_lt, Int.not_le, ne_eq, Decidable.not_not, Option.isSome_iff_ne_none, Option.isNone_iff_eq_none] at hc1
    refine Tri.fin ?_
    refine Nrm.body () (fun j hj hj2 => by
      rcases Nat.lt_or_ge j k with h | h
      · exact hp j h hj2
      · obtain rfl : j = k := by omega
        simpa using hc1) ⟨rfl, rfl, rfl, rfl, trivial⟩ (by repeat (first | exact Le.refl _ | assumption | apply Le.drop))
  refine Nrm.of hS hM ?_
  refine Nrm.next ?_
  refine Tri.seq (Tri.region ?_)
  refine TOps.assign rfl rfl ?_
  refine TOps.next ?_
  refine Tri.ret1 (H' := H) Tryz.results94 (fun _ _ h => h) (.tmp rfl) (Le.refl _) ⟨by rw [ixR_none (fun j hj => hp j hj hj)], rfl⟩
theorem hasRows_g {H : List Ent} {oa : Option Nat} {l : List Rw} {r : Rw} {b cc v : Nat} (hr : RdS H oa 0 (rwV l)) (hf : ∀ s ∈ l, s.Fit v) (hv : v ≤ 24) (hrf : r.Fit v) (hb : Rd H b 0 r.cells) (hl : l.length ≤ 100000) :
    Gives Tryz.prog 73 [slV oa 0 l.length cc, .func (.func 74) #[] #[.pointer (some ⟨b, 0, none⟩)]] H (R1 (.bool (l.any (fun s => s.part r))) H) := by
  refine Gives.enter Tryz.func73 rfl (by exact Tryz.ntmps73) rfl ?_
  refine Tri.seq (Tri.region ?_)
  refine TOps.assign rfl rfl ?_
  refine TOps.next ?_
  refine Tri.seq (Tri.region ?_)
  refine TOps.move rfl rfl ?_
  refine TOps.move rfl rfl ?_
  refine TOps.call (vs := [_, _]) Tryz.call94 ⟨rfl, rfl, trivial⟩ (ixRows_g hr hf hv hrf hb hl) rfl ?_
  rintro _ _ ⟨rfl, rfl⟩
  refine TOps.geqr (r := l.any (fun s => s.part r)) rfl rfl (ixR_nonneg l r) rfl ?_
  refine TOps.assign rfl rfl ?_
  refine TOps.next ?_
  refine Tri.ret1 (H' := H) Tryz.results73 (fun _ _ h => h) (.tmp rfl) (Le.refl _) ⟨rfl, rfl⟩
theorem rwV_one : ∀ l : List Rw, ∀ u ∈ rwV l, u.oneCell' = true
  | [], u, h => by cases h
  | r :: l, u, h => by
    simp only [rwV, List.mem_cons] at h
    rcases h with rfl | rfl | rfl | h
    · rfl
    · rfl
    · rfl
    · exact rwV_one l u h
theorem cloneRows_g {H : List Ent} {l : List Rw} {a : Option Nat} {cap : Nat} (hr : RdS H a 0 (rwV l)) (hl : l.length ≤ 1000000) :
    Gives Tryz.prog 69 [slV a 0 l.length cap] H (fun u H' => ∃ a' cap', u = slV a' 0 l.length cap' ∧ (rwV l ≠ [] → ∃ b, a' = some b) ∧ row a' 66 3 cap' (rwV l) :: H = H') := by
  have hll := rwV_length l
  refine Gives.enter Tryz.func69 rfl (by exact Tryz.ntmps69) rfl ?_
  refine Tri.seq (Tri.region ?_)
  refine TOps.assign rfl rfl ?_
  refine TOps.next ?_
  refine Tri.seq ?_
  refine Tri.seq (Tri.region ?_)
  refine TOps.move rfl rfl ?_
  refine TOps.eqlSlNil rfl Tryz.underlying60 rfl ?_
  refine TOps.next ?_
  refine Tri.cond rfl (fun hc1 => ?_) (fun hc1 => ?_)
  · try simp only [decide_eq_true_eq, decide_eq_false_iff_not, Bool.and_eq_true, Bool.or_eq_true, Bool.not_eq_true', Bool.and_eq_false_iff, Bool.or_eq_false_iff, Bool.not_eq_false', Int.not_lt, Int.not_le, ne_eq, Decidable.not_not, Option.isSome_iff_ne_none, Option.isNone_iff_eq_none] at hc1
    subst hc1
    have hx := RdS.none hr
    obtain rfl : l = [] := by rw [hx] at hll; exact List.eq_nil_of_length_eq_zero (by simp at hll; omega)
    refine Tri.seq (Tri.region ?_)
    refine TOps.assign rfl rfl ?_
    refine TOps.next ?_
    refine Tri.ret1 (H' := _) Tryz.results69 (fun _ _ h => h) (.tmp rfl) Le.addNil ⟨none, 0, rfl, by simp [rwV], rfl⟩
  try simp only [decide_eq_true_eq, decide_eq_false_iff_not, Bool.and_eq_true, Bool.or_eq_true, Bool.not_eq_true', Bool.and_eq_false_iff, Bool.or_eq_false_iff, Bool.not_eq_false', Int.not_lt, Int.not_le, ne_eq, Decidable.not_not, Option.isSome_iff_ne_none, Option.isNone_iff_eq_none] at hc1
  refine Tri.fin ?_
  refine Nrm.next ?_
  refine Tri.seq (Tri.region ?_)
  refine TOps.buildSlice0 Tryz.underlying60 ti66 rfl (fun b5 => ?_)
  replace hr := hr.up (e := row (some b5) 66 3 0 [])
  refine TOps.move rfl rfl ?_
  refine TOps.append (ys := rwV l) rfl rfl Tryz.underlying60 ti66 rfl (fun _ _ => Upd.here) hr (by rw [hll]; omega) rfl (rwV_one l) (by omega) (by omega) rfl (fun a' cap' h0 => ?_)
  refine TOps.assign rfl rfl ?_
  refine TOps.next ?_
  refine Tri.ret1 (H' := _) Tryz.results69 (fun _ _ h => h) (.tmp rfl) (Le.refl _) ⟨a', cap', by rw [Nat.zero_add], h0, rfl⟩
end Go.Proofs
namespace Go.Proofs
open Go.GL
set_option linter.unusedVariables false
set_option linter.unusedSimpArgs false
theorem insNil_g {H : List Ent} {cap : Nat} : Gives Tryz.prog 103 [slV none 0 0 cap, natV 0, natV 0, .func (.func 71) #[] #[]] H (fun u H' => u = .tuple (List.toArray []) ∧ H = H') := by
  refine Gives.enter Tryz.func103 rfl (by exact Tryz.ntmps103) rfl ?_
  refine Tri.seq (Tri.region ?_)
  refine TOps.move rfl rfl ?_
  refine TOps.add (r := ((1 : Nat) : Int)) rfl rfl (by rw [wrapI (by omega) (by omega)]; omega) rfl ?_
  refine TOps.assign rfl rfl ?_
  refine TOps.next ?_
  refine Tri.block ?_
  refine Tri.loop (X := Unit) (fun x => [(0, slV none 0 0 cap), (1, natV 0), (2, natV 0), (3, .func (.func 71) #[] #[]), (8, natV 1)]) (fun x => H) (fun x => True) (fun x => 0) () trivial ⟨rfl, rfl, rfl, rfl, rfl, trivial⟩ (by repeat (first | exact Le.refl _ | assumption | apply Le.drop)) (fun x hp => ?_)
  refine Tri.seq ?_
  refine Tri.seq (Tri.region ?_)
  refine TOps.move rfl rfl ?_
  refine TOps.move rfl rfl ?_
  refine TOps.lss rfl rfl rfl ?_
  refine TOps.next ?_
  refine Tri.cond rfl (fun hc1 => ?_) (fun hc1 => ?_)
  · exact absurd hc1 (by first | decide | simp)
  try simp only [decide_eq_true_eq, decide_eq_false_iff_not, Bool.and_eq_true, Bool.or_eq_true, Bool.not_eq_true', Bool.and_eq_false_iff, Bool.or_eq_false_iff, Bool.not_eq_false', Int.not_lt, Int.not_le, ne_eq, Decidable.not_not, Option.isSome_iff_ne_none, Option.isNone_iff_eq_none] at hc1
  first | refine Tri.exitW ?_ | (refine Tri.exitTo ?_; repeat (with_reducible first | refine ExitTo.blk ?_ | refine ExitTo.blkNe rfl ?_ | refine ExitTo.body ?_ | refine ExitTo.brk rfl ?_ | refine ExitTo.bodyNe rfl rfl ?_ | refine ExitTo.seq ?_ | refine ExitTo.loop ?_))
  exact Nrm.ret0 (H' := H) Tryz.results103 (Le.refl _) ⟨rfl, rfl⟩
theorem stableNil_g {H : List Ent} {cap : Nat} : Gives Tryz.prog 92 [slV none 0 0 cap, natV 0, .func (.func 71) #[] #[]] H (fun u H' => u = .tuple (List.toArray []) ∧ H = H') := by
  refine Gives.enter Tryz.func92 rfl (by exact Tryz.ntmps92) rfl ?_
  refine Tri.seq (Tri.region ?_)
  refine TOps.assign rfl rfl ?_
  refine TOps.next ?_
  refine Tri.seq (Tri.region ?_)
  refine TOps.move rfl rfl ?_
  refine TOps.assign rfl rfl ?_
  refine TOps.assign rfl rfl ?_
  refine TOps.next ?_
  refine Tri.seq ?_
  refine Tri.block ?_
  refine Tri.loop (X := Unit) (fun x => [(0, slV none 0 0 cap), (1, natV 0), (2, .func (.func 71) #[] #[]), (6, natV 20), (7, natV 0), (8, natV 20)]) (fun x => H) (fun x => True) (fun x => 0) () trivial ⟨rfl, rfl, rfl, rfl, rfl, rfl, trivial⟩ (by repeat (first | exact Le.refl _ | assumption | apply Le.drop)) (fun x hp => ?_)
  refine Tri.seq ?_
  refine Tri.seq (Tri.region ?_)
  refine TOps.move rfl rfl ?_
  refine TOps.move rfl rfl ?_
  refine TOps.leq rfl rfl rfl ?_
  refine TOps.next ?_
  refine Tri.cond rfl (fun hc1 => ?_) (fun hc1 => ?_)
  · exact absurd hc1 (by first | decide | simp)
  try simp only [decide_eq_true_eq, decide_eq_false_iff_not, Bool.and_eq_true, Bool.or_eq_true, Bool.not_eq_true', Bool.and_eq_false_iff, Bool.or_eq_false_iff, Bool.not_eq_false', Int.not_lt, Int.not_le, ne_eq, Decidable.not_not, Option.isSome_iff_ne_none, Option.isNone_iff_eq_none] at hc1
  first | refine Tri.exitW ?_ | (refine Tri.exitTo ?_; repeat (with_reducible first | refine ExitTo.blk ?_ | refine ExitTo.blkNe rfl ?_ | refine ExitTo.body ?_ | refine ExitTo.brk rfl ?_ | refine ExitTo.bodyNe rfl rfl ?_ | refine ExitTo.seq ?_ | refine ExitTo.loop ?_))
  refine Nrm.next ?_
  refine Tri.seq (Tri.region ?_)
  refine TOps.move rfl rfl ?_
  refine TOps.move rfl rfl ?_
  refine TOps.move rfl rfl ?_
  refine TOps.move rfl rfl ?_
  refine TOps.call (vs := [_, _, _, _]) Tryz.call103 ⟨rfl, rfl, rfl, rfl, trivial⟩ (insNil_g) rfl ?_
  rintro _ _ ⟨rfl, rfl⟩
  refine TOps.next ?_
  refine Tri.block ?_
  refine Tri.loop (X := Unit) (fun x => [(0, slV none 0 0 cap), (1, natV 0), (2, .func (.func 71) #[] #[]), (6, natV 20)]) (fun x => H) (fun x => True) (fun x => 0) () trivial ⟨rfl, rfl, rfl, rfl, trivial⟩ (by repeat (first | exact Le.refl _ | assumption | apply Le.drop)) (fun x hp => ?_)
  refine Tri.seq ?_
  refine Tri.seq (Tri.region ?_)
  refine TOps.move rfl rfl ?_
  refine TOps.move rfl rfl ?_
  refine TOps.lss rfl rfl rfl ?_
  refine TOps.next ?_
  refine Tri.cond rfl (fun hc2 => ?_) (fun hc2 => ?_)
  · exact absurd hc2 (by first | decide | simp)
  try simp only [decide_eq_true_eq, decide_eq_false_iff_not, Bool.and_eq_true, Bool.or_eq_true, Bool.not_eq_true', Bool.and_eq_false_iff, Bool.or_eq_false_iff, Bool.not_eq_false', Int.not_lt, Int.not_le, ne_eq, Decidable.not_not, Option.isSome_iff_ne_none, Option.isNone_iff_eq_none] at hc2
  first | refine Tri.exitW ?_ | (refine Tri.exitTo ?_; repeat (with_reducible first | refine ExitTo.blk ?_ | refine ExitTo.blkNe rfl ?_ | refine ExitTo.body ?_ | refine ExitTo.brk rfl ?_ | refine ExitTo.bodyNe rfl rfl ?_ | refine ExitTo.seq ?_ | refine ExitTo.loop ?_))
  exact Nrm.ret0 (H' := H) Tryz.results92 (Le.refl _) ⟨rfl, rfl⟩
theorem sortStableNil_g {H : List Ent} {cap : Nat} : Gives Tryz.prog 70 [slV none 0 0 cap, .func (.func 71) #[] #[]] H (fun u H' => u = .tuple (List.toArray []) ∧ H = H') := by
  refine Gives.enter Tryz.func70 rfl (by exact Tryz.ntmps70) rfl ?_
  refine Tri.region ?_
  refine TOps.move rfl rfl ?_
  refine TOps.move rfl rfl ?_
  refine TOps.len rfl Tryz.underlying60 rfl ?_
  refine TOps.move rfl rfl ?_
  refine TOps.call (vs := [_, _, _]) Tryz.call92 ⟨rfl, rfl, rfl, trivial⟩ (stableNil_g) rfl ?_
  rintro _ _ ⟨rfl, rfl⟩
  refine TOps.fin ?_
  exact Nrm.ret0 (H' := H) Tryz.results70 (Le.refl _) ⟨rfl, rfl⟩
theorem sortStableAny_g {H : List Ent} {a : Option Nat} {cap : Nat} {l : List Rw} (ha : rwV l ≠ [] → ∃ b, a = some b) (hN : l.length ≤ 1000000) (hev : ∀ r ∈ l, r.ev < 16777216) :
    Gives Tryz.prog 70 [slV a 0 l.length cap, .func (.func 71) #[] #[]] (row a 66 3 cap (rwV l) :: H) (fun u H' => u = .tuple (List.toArray []) ∧ ∃ l', POn 0 l.length l l' ∧ SOn ((fun r => (szR r : Int))) 0 l.length l' ∧ row a 66 3 cap (rwV l') :: H = H') := by
  cases a with
  | some b => exact sortStable_g rfl hN hev
  | none =>
    cases l with
    | cons r l => obtain ⟨b, hb⟩ := ha (by simp [rwV]); cases hb
    | nil =>
      refine Gives.mono (sortStableNil_g (cap := cap)) ?_
      rintro u H' ⟨h1, rfl⟩
      exact ⟨_, ⟨h1, [], POn.refl _ _ _, fun i j _ _ h => absurd h (Nat.not_lt_zero j), rfl⟩, Le.refl _⟩
set_option maxHeartbeats 1000000 in
theorem least_g {H : List Ent} {oa : Option Nat} {cap v : Nat} {l : List Rw} (hr : RdS H oa 0 (rwV l)) (hf : ∀ r ∈ l, r.Fit v) (hv : v ≤ 24) (hl : l.length ≤ 100000) :
    Gives Tryz.prog 49 [slV oa 0 l.length cap] H (fun u H' => ∃ a' cap' l2, l2.Perm l ∧ SOn ((fun r => (szR r : Int))) 0 l.length l2 ∧ u = slV a' 0 (keepR l2).length cap' ∧ (keepR l2 ≠ [] → ∃ b, a' = some b) ∧ row a' 66 3 cap' (rwV (keepR l2)) :: H = H') := by
  have hev : ∀ r ∈ l, r.ev < 16777216 := fun r hr => Nat.lt_of_lt_of_le (hf r hr).e (Nat.pow_le_pow_right (by decide) hv)
  refine Gives.enter Tryz.func49 rfl (by exact Tryz.ntmps49) rfl ?_
  refine Tri.seq (Tri.region ?_)
  refine TOps.assign rfl rfl ?_
  refine TOps.next ?_
  refine Tri.seq (Tri.region ?_)
  refine TOps.move rfl rfl ?_
  refine TOps.call (vs := [_]) Tryz.call69 ⟨rfl, trivial⟩ (cloneRows_g hr (by omega)) rfl ?_
  rintro _ _ ⟨a1, c1, rfl, ha1, rfl⟩
  refine TOps.assign rfl rfl ?_
  refine TOps.next ?_
  refine Tri.seq (Tri.region ?_)
  refine TOps.move rfl rfl ?_
  refine TOps.call (vs := [_, _]) Tryz.call70 ⟨rfl, rfl, trivial⟩ (sortStableAny_g ha1 (by omega) hev) rfl ?_
  rintro _ _ ⟨rfl, l2, hP, hS2, rfl⟩
  have hl2 : l.length = l2.length := hP.len.symm
  have hf2 : ∀ r ∈ l2, r.Fit v := fun r hr => hf r (hP.perm.mem_iff.1 hr)
  have ha2 : l2 ≠ [] → ∃ b, a1 = some b := fun h => ha1 (by cases l with | nil => exact absurd (List.eq_nil_of_length_eq_zero hl2.symm) h | cons r l => simp [rwV])
  refine TOps.next ?_
  refine Tri.seq (Tri.region ?_)
  refine TOps.assign rfl rfl ?_
  refine TOps.next ?_
  refine Tri.seq ?_
  refine Tri.seq (Tri.region ?_)
  refine TOps.move rfl rfl ?_
  refine TOps.len rfl Tryz.underlying60 rfl ?_
  rw [hl2]
  refine TOps.move rfl rfl ?_
  refine TOps.next ?_
  refine Tri.range (X := Option Nat × Nat) (fun x k => [(3, slV x.1 0 (keepR (l2.take k)).length x.2), (10, slV a1 0 l2.length c1)]) (fun x k => row x.1 66 3 x.2 (rwV (keepR (l2.take (k)))) :: row a1 66 3 c1 (rwV l2) :: H) (fun x k => (keepR (l2.take k) ≠ [] → ∃ b, x.1 = some b)) (by omega) rfl rfl rfl (fun _ _ => ⟨rfl, rfl, rfl, rfl⟩) (none, 0) (fun h => absurd rfl h) ⟨rfl, rfl, trivial⟩ Le.addNil (fun k x hlt hp => ?_) (fun x ac wc hp hS hM => ?_)
  · skip
    obtain ⟨oo, oc⟩ := x
    dsimp only at hp ⊢
    obtain ⟨b1, rfl⟩ := ha2 (by intro h; rw [h] at hlt; exact absurd hlt (Nat.not_lt_zero k))
    have hrk : Rd (row oo 66 3 oc (rwV (keepR (l2.take (k)))) :: row (some b1) 66 3 c1 (rwV l2) :: H) b1 (0 + k * 3) (gL l2 k).cells := by rw [Nat.zero_add]; exact rwV_rd (List.Mem.tail _ (List.Mem.head _)) hlt
    have hfk : (gL l2 k).Fit v := by rw [gL_get hlt]; exact hf2 _ (List.getElem_mem hlt)
    have hkeep := keepR_kept (l2.take k)
    have hfo : ∀ s ∈ keepR (l2.take k), s.Fit v := fun s hs => hf2 s (List.mem_of_mem_take (hkeep.sub s hs))
    have hlo : (keepR (l2.take k)).length ≤ 100000 := by have := hkeep.length; rw [List.length_take] at this; omega
    have hro := rwV_length (keepR (l2.take k))
    refine Tri.seq (Tri.region ?_)
    refine TOps.indexAddr (b := b1) (off := 0) (m := l2.length) (cap := c1) (off' := 0 + k * 3) rfl rfl Tryz.underlying60 ti66 (by omega) (by omega) (by simp) rfl ?_
    refine TOps.loadN (vs := (gL l2 k).cells) rfl ti66 hrk rfl rfl ?_
    refine TOps.alloc ti66 rfl (fun b5 => ?_)
    refine TOps.storeN rfl rfl ti66 rfl rfl (by repeat (first | exact Upd.here | apply Upd.there)) (by first | decide | (simp; done) | (simp; omega)) ?_
    refine TOps.le (H' := row (some b5) 66 3 1 (gL l2 k).cells :: row oo 66 3 oc (rwV (keepR (l2.take (k)))) :: row (some b1) 66 3 c1 (rwV l2) :: H) (Sp.le (by repeat (first | exact Sp.refl _ | exact Sp.sub (by assumption) | refine Sp.cons (by repeat (first | exact Pick.here | apply Pick.there)) ?_ | exact Sp.nil | apply Sp.skip))) ?_
    refine TOps.next ?_
    refine Tri.seq (Tri.region ?_)
    refine TOps.move rfl rfl ?_
    refine TOps.makeFunc (vs := [_]) ⟨rfl, trivial⟩ rfl ?_
    refine TOps.call (vs := [_, _]) Tryz.call73 ⟨rfl, rfl, trivial⟩ (hasRows_g (RdS.ofRowA (List.Mem.tail _ (List.Mem.head _)) (fun h => hp (by intro h2; rw [h2] at h; exact h rfl))) hfo hv hfk (Rd.all (List.Mem.head _)) hlo) rfl ?_
    rintro _ _ ⟨rfl, rfl⟩
    refine TOps.not rfl rfl ?_
    refine TOps.next ?_
    refine Tri.cond rfl (fun hc1 => ?_) (fun hc1 => ?_)
    · try simp only [decide_eq_true_eq, decide_eq_false_iff_not, Bool.and_eq_true, Bool.or_eq_true, Bool.not_eq_true', Bool.and_eq_false_iff, Bool.or_eq_false_iff, Bool.not_eq_false', Int.not_lt, Int.not_le, ne_eq, Decidable.not_not, Option.isSome_iff_ne_none, Option.isNone_iff_eq_none] at hc1
      refine Tri.region ?_
      refine TOps.move rfl rfl ?_
      refine TOps.loadN (vs := (gL l2 k).cells) rfl ti66 (Rd.all (List.Mem.head _)) rfl rfl ?_
      refine TOps.buildSlice (vs := [_]) (xs := [_, _, _]) Tryz.underlying60 ti66 ⟨rfl, rfl, trivial⟩ rfl rfl rfl rfl rfl rfl (by decide) rfl (fun b22 => ?_)
      refine TOps.appendLit rfl rfl Tryz.underlying60 ti66 rfl (fun _ _ => (by repeat (first | exact Upd.here | apply Upd.there))) rfl (by rw [hro]; omega) rfl (by omega) (by omega) (by simp [Rw.cells]) rfl (fun b15 c15 => ?_)
      have e1 : keepR (l2.take (k + 1)) = keepR (l2.take k) ++ [gL l2 k] := by rw [keepR_succ hlt]; unfold keep1; rw [hc1]; rfl
      have e3 : rwV (keepR (l2.take (k + 1))) = rwV (keepR (l2.take k)) ++ (gL l2 k).cells := by rw [e1, rwV_append]; rfl
      rw [show (keepR (l2.take k)).length + 1 = (keepR (l2.take (k + 1))).length by rw [e1]; simp]
      refine TOps.le (H' := row (some b15) 66 3 c15 (rwV (keepR (l2.take ((k + 1))))) :: row (some b1) 66 3 c1 (rwV l2) :: H) (by rw [e3]; exact (Sp.le (by repeat (first | exact Sp.refl _ | exact Sp.sub (by assumption) | refine Sp.cons (by repeat (first | exact Pick.here | apply Pick.there)) ?_ | exact Sp.nil | apply Sp.skip)))) ?_
      refine TOps.assign rfl rfl ?_
      refine TOps.fin ?_
      first
       | refine Nrm.body (some b15, c15) (fun _ => ⟨b15, rfl⟩) ⟨rfl, rfl, rfl, rfl, trivial⟩ (by repeat (first | exact Le.refl _ | assumption | apply Le.drop))
       | refine Nrm.body (oo, oc) hp ⟨rfl, rfl, rfl, rfl, trivial⟩ (by repeat (first | exact Le.refl _ | assumption | apply Le.drop))
    try simp only [decide_eq_true_eq, decide_eq_false_iff_not, Bool.and_eq_true, Bool.or_eq_true, Bool.not_eq_true', Bool.and_eq_false_iff, Bool.or_eq_false_iff, Bool.not_eq_false', Int.not_lt, Int.not_le, ne_eq, Decidable.not_not, Option.isSome_iff_ne_none, Option.isNone_iff_eq_none] at hc1
    have e2 : keepR (l2.take (k + 1)) = keepR (l2.take k) := by rw [keepR_succ hlt]; unfold keep1; rw [hc1]; rfl
    rw [← e2] at hp ⊢
    refine Tri.fin ?_
    first
     | refine Nrm.body (some b15, c15) (fun _ => ⟨b15, rfl⟩) ⟨rfl, rfl, rfl, rfl, trivial⟩ (by repeat (first | exact Le.refl _ | assumption | apply Le.drop))
     | refine Nrm.body (oo, oc) hp ⟨rfl, rfl, rfl, rfl, trivial⟩ (by repeat (first | exact Le.refl _ | assumption | apply Le.drop))
  simp only [List.take_length] at hS hM hp
  refine Nrm.of hS hM ?_
  refine Nrm.next ?_
  refine Tri.seq (Tri.region ?_)
  refine TOps.move rfl rfl ?_
  refine TOps.assign rfl rfl ?_
  refine TOps.next ?_
  refine Tri.ret1 (H' := row x.1 66 3 x.2 (rwV (keepR l2)) :: H) Tryz.results49 (fun _ _ h => h) (.tmp rfl) (Sp.le (by repeat (first | exact Sp.refl _ | exact Sp.sub (by assumption) | refine Sp.cons (by repeat (first | exact Pick.here | apply Pick.there)) ?_ | exact Sp.nil | apply Sp.skip))) ⟨x.1, x.2, l2, hP.perm, (by rw [← hl2]; exact hS2), rfl, hp, rfl⟩
end Go.Proofs
namespace Go.Proofs
open Go.GL
set_option linter.unusedVariables false
set_option linter.unusedSimpArgs false
theorem cntT_natA (T : Nat → Bool) (d : Nd) : cntT T (natA d) = cntOf T d.args := by
  unfold cntT natA cntOf
  rw [← List.countP_eq_length_filter, List.countP_map]
  rfl
theorem cntOf_all (T : Nat → Bool) (d : Nd) : cntOf T d.args = d.args.length ↔ ∀ a ∈ natA d, T a = true := by
  unfold cntOf natA
  rw [List.countP_eq_length]
  constructor
  · intro h a ha
    obtain ⟨b, hb, rfl⟩ := List.mem_map.1 ha
    exact h b hb
  · intro h a ha
    exact h _ (List.mem_map.2 ⟨a, ha, rfl⟩)
theorem cntOf_any (T : Nat → Bool) (d : Nd) : 0 < cntOf T d.args ↔ ∃ a ∈ natA d, T a = true := by
  unfold cntOf natA
  rw [List.countP_pos_iff]
  constructor
  · rintro ⟨a, ha, h⟩
    exact ⟨_, List.mem_map.2 ⟨a, ha, rfl⟩, h⟩
  · rintro ⟨a, ha, h⟩
    obtain ⟨b, hb, rfl⟩ := List.mem_map.1 ha
    exact ⟨b, hb, h⟩
theorem ndQ_val {F : Fm} (hg : F.Good) (z : Int) {i : Nat} (hi : i < F.nodes.length) (hp : plainNd F.nodes[i] = true) : ndQ F.nodes[i] (F.val z) ↔ F.val z (F.vars.toNat + i) = true := by
  have hf := hg.fits i hi
  rw [Fm.val_node hg z hi]
  have hk : F.nodes[i].kind ≠ 1 ∧ F.nodes[i].kind ≠ 5 := by simpa [plainNd] using hp
  have h0 := hf.k0
  have h1 := hf.k1
  unfold ndQ nodeVal
  by_cases c0 : F.nodes[i].kind = 0
  · rw [if_pos c0, if_pos c0]; simp
  rw [if_neg c0, if_neg c0, if_neg hk.1]
  by_cases c2 : F.nodes[i].kind = 2
  · rw [if_pos c2, if_pos c2, ← cntOf_all]; simp only [decide_eq_true_eq]; omega
  rw [if_neg c2, if_neg c2]
  by_cases c3 : F.nodes[i].kind = 3
  · rw [if_pos c3, if_pos c3, ← cntOf_any]; simp only [decide_eq_true_eq]; omega
  rw [if_neg c3, if_neg c3, if_pos (show F.nodes[i].kind = 4 by omega), cntT_natA]
  have := hf.kk.2.1 (by omega)
  simp only [decide_eq_true_eq]
  omega
def smallF (F : Fm) : Prop := F.nodes.length ≤ 1 ∧ ∀ d ∈ F.nodes, d.args.length ≤ 3
structure RunI (F : Fm) (v : Nat) (l : List Rw) : Prop where
  fit : ∀ r ∈ l, r.Fit v
  bel : ∀ r ∈ l, ∀ i, i < 128 → r.has i = true → i < F.nodes.length ∧ F.below.getD (v + i) false = true
  sem : ∀ z : Int, (∃ r ∈ l, r.holds v (F.val z)) ↔ F.value z = true
  siz : l.Pairwise (fun a b => szR a ≤ szR b)
  apt : l.Pairwise (fun a b => a.part b = false)
  len : l.length ≤ 1024
  sml : smallF F → topS l = 0 ∨ l.length ≤ 1
theorem rw0_has (i : Nat) : (⟨0, 0, 0⟩ : Rw).has i = false := by unfold Rw.has; split <;> simp
theorem RunI.start {F : Fm} (hg : F.Good) {v : Nat} (hv : F.vars = v) : RunI F v [(⟨0, 0, 0⟩ : Rw).arg v F.top.toNat] := by
  have ht := hg.topLt
  have hn := hg.n1
  have hvn : F.vars.toNat = v := by omega
  have hlt : F.top.toNat < v + 128 := by omega
  have h0 : (⟨0, 0, 0⟩ : Rw).Fit v := ⟨Nat.two_pow_pos _, by decide, by decide⟩
  refine ⟨fun r hr => ?_, fun r hr i hi hb => ?_, fun z => ?_, List.pairwise_singleton _ _, List.pairwise_singleton _ _, by simp, fun _ => .inr (by simp)⟩
  · rw [List.mem_singleton] at hr; subst hr; exact h0.arg hlt
  · rw [List.mem_singleton] at hr; subst hr
    rcases Rw.arg_has hlt hi hb with h | h
    · rw [rw0_has] at h; cases h
    · have := Fm.below_top hg
      rw [h] at this
      exact ⟨by omega, this⟩
  · constructor
    · rintro ⟨r, hr, h⟩
      rw [List.mem_singleton] at hr; subst hr
      rw [Rw.holds_arg hlt] at h
      exact h.2
    · intro h
      refine ⟨_, List.mem_singleton.2 rfl, (Rw.holds_arg hlt).2 ⟨⟨fun e _ hb => ?_, fun i _ hb => ?_⟩, h⟩⟩
      · rw [Nat.zero_testBit] at hb; cases hb
      · rw [rw0_has] at hb; cases hb
def nextQ (d : Nd) (v i : Nat) (r : Rw) (T : Nat → Bool) : Prop := if r.has i = true then (r.del i).holds v T ∧ ndQ d T else r.holds v T
def NextR (F : Fm) (v i : Nat) (d : Nd) (l z : List Rw) : Prop := NewR v [] z (l.length * 2 ^ d.args.length) (fun j => j < i ∧ F.below.getD (v + j) false = true) (fun T => ∃ r ∈ l, nextQ d v i r T)
theorem NextR.nil {F : Fm} {v i : Nat} {d : Nd} : NextR F v i d [] [] := NewR.mono (NewR.none (m := 0) (B := fun j => j < i ∧ F.below.getD (v + j) false = true) (Q := fun T => ∃ r ∈ ([] : List Rw), nextQ d v i r T) (by simp) (fun T h => by obtain ⟨_, h, _⟩ := h; cases h)) (Nat.zero_le _) (fun _ h => h) (fun _ => Iff.rfl)
theorem nextQ_snoc {d : Nd} {v i : Nat} {l : List Rw} {r : Rw} {T : Nat → Bool} : (∃ q ∈ l ++ [r], nextQ d v i q T) ↔ (∃ q ∈ l, nextQ d v i q T) ∨ nextQ d v i r T := by
  constructor
  · rintro ⟨q, hq, h⟩
    rcases List.mem_append.1 hq with hq | hq
    · exact .inl ⟨q, hq, h⟩
    · rw [List.mem_singleton] at hq; subst hq; exact .inr h
  · rintro (⟨q, hq, h⟩ | h)
    · exact ⟨q, List.mem_append_left _ hq, h⟩
    · exact ⟨r, List.mem_append_right _ (List.mem_singleton.2 rfl), h⟩
section
variable {F : Fm} {v i : Nat} {l z z' : List Rw} {r : Rw} {d : Nd}
theorem NextR.yes (hg : F.Good) (hv : F.vars = v) (hi : i < F.nodes.length) (h : NextR F v i F.nodes[i] l z) (hr : ∀ j, j < 128 → r.has j = true → j < F.nodes.length ∧ j ≤ i ∧ F.below.getD (v + j) false = true) (hb : r.has i = true)
    (k : NewR v z z' (2 ^ F.nodes[i].args.length) (fun j => (r.del i).has j = true ∨ v + j ∈ natA F.nodes[i]) (fun T => (r.del i).holds v T ∧ ndQ F.nodes[i] T)) : NextR F v i F.nodes[i] (l ++ [r]) z' := by
  have hn := hg.n1
  have hvn : F.vars.toNat = v := by omega
  refine NewR.comp (B1 := fun j => j < i ∧ F.below.getD (v + j) false = true) (B2 := fun j => j < 128 ∧ ((r.del i).has j = true ∨ v + j ∈ natA F.nodes[i])) (Q2 := fun T => (r.del i).holds v T ∧ ndQ F.nodes[i] T) h ⟨k.lo, k.hi, k.sz, fun hl => ?_⟩ (by rw [List.length_append, List.length_singleton, Nat.succ_mul]; exact Nat.le_refl _) (fun _ h => h) (fun j hj => ?_) (fun T => ?_)
  · obtain ⟨ns, h1, h2, h3⟩ := k.ns hl
    exact ⟨ns, h1, fun q hq => ⟨(h2 q hq).1, fun j hj hb => ⟨hj, (h2 q hq).2 j hj hb⟩⟩, h3⟩
  · obtain ⟨hj, hj2⟩ := hj
    have hbi := hr i (by omega) hb
    rcases hj2 with hj2 | hj2
    · rw [Rw.has_del r (by omega) hj, Bool.and_eq_true] at hj2
      have := hr j hj hj2.1
      have hne : i ≠ j := by simpa using hj2.2
      exact ⟨by omega, this.2.2⟩
    · obtain ⟨a, ha, he⟩ := List.mem_map.1 hj2
      have h1 := hg.argLt hi a ha
      have h2 := Fm.below_closed hg hi (by rw [hvn]; exact hbi.2.2) a ha
      rw [he] at h2
      exact ⟨by omega, h2⟩
  · rw [nextQ_snoc]
    unfold nextQ
    rw [if_pos hb]
theorem NextR.no (hi : i < 128) (h : NextR F v i d l z) (hr : ∀ j, j < 128 → r.has j = true → j < F.nodes.length ∧ j ≤ i ∧ F.below.getD (v + j) false = true) (hf : r.Fit v) (hb : r.has i = false) : NextR F v i d (l ++ [r]) (addL z r) := by
  refine NewR.comp (B1 := fun j => j < i ∧ F.below.getD (v + j) false = true) (B2 := fun j => j < i ∧ F.below.getD (v + j) false = true) h (NewR.one h.hi hf (fun j hj hh => ?_) (fun T => Iff.rfl) rfl) (by rw [List.length_append, List.length_singleton, Nat.succ_mul]; have := Nat.two_pow_pos d.args.length; omega) (fun _ h => h) (fun _ h => h) (fun T => ?_)
  · have := hr j hj hh
    have hne : j ≠ i := by intro he; subst he; rw [hb] at hh; cases hh
    exact ⟨by omega, this.2.2⟩
  · rw [nextQ_snoc]
    unfold nextQ
    rw [hb, if_neg (by decide)]
theorem RunI.rowB (h : RunI F v l) (ht : topS l = i + 1) (hr : r ∈ l) : ∀ j, j < 128 → r.has j = true → j < F.nodes.length ∧ j ≤ i ∧ F.below.getD (v + j) false = true := by
  intro j hj hb
  have h1 := h.bel r hr j hj hb
  refine ⟨h1.1, ?_, h1.2⟩
  rcases Nat.lt_or_ge i j with h2 | h2
  · have h3 := topS_le hr
    rw [Rw.top_gt (h.fit r hr) (by omega)] at hb
    cases hb
  · exact h2
theorem RunI.top (h : RunI F v l) (ht : topS l = i + 1) : i < F.nodes.length ∧ F.below.getD (v + i) false = true := by
  obtain ⟨r, hr, he⟩ := topS_mem (l := l) (by omega)
  have h1 := Rw.top_has (h.fit r hr) (by omega)
  have h2 := Rw.top_le (h.fit r hr)
  have h3 := h.bel r hr (r.top - 1) (by omega) h1
  rw [show r.top - 1 = i by omega] at h3
  exact h3
theorem synPlain (hg : F.Good) (hs : F.syn = true) (hv : F.vars = v) (hi : i < F.nodes.length) (hb : F.below.getD (v + i) false = true) : plainNd F.nodes[i] = true := by
  rw [← Fm.syn_ref hg] at hs
  have h1 := List.all_eq_true.1 hs i (List.mem_range.2 hi)
  rw [show F.vars.toNat = v by omega, hb, List.getD_eq_getElem?_getD, List.getElem?_eq_getElem hi] at h1
  simpa using h1
theorem RunI.next (hg : F.Good) (hs : F.syn = true) (hv : F.vars = v) (h : RunI F v l) (ht : topS l = i + 1) (hi : i < F.nodes.length) (k : NextR F v i F.nodes[i] l z) (hz : z.length ≤ 4096) {l2 : List Rw} (hp : l2.Perm z) (hso : SOn (fun r => (szR r : Int)) 0 z.length l2) (hl : (keepR l2).length ≤ 1024) :
    RunI F v (keepR l2) ∧ topS (keepR l2) ≤ i := by
  have hn := hg.n1
  have hvn : F.vars.toNat = v := by omega
  have hpl := synPlain hg hs hv hi (h.top ht).2
  obtain ⟨ns, h1, h2, h3⟩ := k.ns hz
  rw [List.nil_append] at h1
  subst h1
  have hK := keepR_kept l2
  have hfit : ∀ r ∈ keepR l2, r.Fit v := fun r hr => (h2 r (hp.mem_iff.1 (hK.sub r hr))).1
  have hbel : ∀ r ∈ keepR l2, ∀ j, j < 128 → r.has j = true → j < i ∧ F.below.getD (v + j) false = true := fun r hr => (h2 r (hp.mem_iff.1 (hK.sub r hr))).2
  have htop : topS (keepR l2) ≤ i := by
    rcases Nat.eq_zero_or_pos (topS (keepR l2)) with h0 | h0
    · omega
    · obtain ⟨r, hr, he⟩ := topS_mem (l := keepR l2) (by omega)
      have h1 := Rw.top_has (hfit r hr) (by omega)
      have h2 := Rw.top_le (hfit r hr)
      have h3 := hbel r hr (r.top - 1) (by omega) h1
      omega
  have hsz : l2.Pairwise (fun a b => szR a ≤ szR b) := by
    rw [List.pairwise_iff_getElem]
    intro a b ha hb hab
    have := hso a b (Nat.zero_le _) hab (by rw [← hp.length_eq]; exact hb)
    rw [gL_get ha, gL_get hb] at this
    exact Int.ofNat_le.1 this
  refine ⟨⟨hfit, fun r hr j hj hb => ?_, fun zz => ?_, List.Pairwise.sublist hK.ord hsz, hK.apt, hl, fun hsm => .inl ?_⟩, htop⟩
  · have := hbel r hr j hj hb; exact ⟨by omega, this.2⟩
  · rw [hK.holds, ← h.sem zz]
    have e1 : (∃ r ∈ l2, r.holds v (F.val zz)) ↔ ∃ r ∈ z, r.holds v (F.val zz) := ⟨fun ⟨r, hr, ht⟩ => ⟨r, hp.mem_iff.1 hr, ht⟩, fun ⟨r, hr, ht⟩ => ⟨r, hp.mem_iff.2 hr, ht⟩⟩
    rw [e1, h3]
    have e2 : ∀ r : Rw, nextQ F.nodes[i] v i r (F.val zz) ↔ r.holds v (F.val zz) := by
      intro r
      unfold nextQ
      by_cases hb : r.has i = true
      · rw [if_pos hb, Rw.holds_del (by omega) hb, ndQ_val hg zz hi hpl, hvn]
      · rw [if_neg hb]
    exact ⟨fun ⟨r, hr, hq⟩ => ⟨r, hr, (e2 r).1 hq⟩, fun ⟨r, hr, hq⟩ => ⟨r, hr, (e2 r).2 hq⟩⟩
  · have := hsm.1; omega
theorem RunI.sml_len (h : RunI F v l) (ht : topS l = i + 1) (hi : i < F.nodes.length) (k : NextR F v i F.nodes[i] l z) (hsm : smallF F) : z.length ≤ 8 := by
  have h1 := k.sz
  have h2 : F.nodes[i].args.length ≤ 3 := hsm.2 _ (List.getElem_mem hi)
  have h3 : l.length ≤ 1 := by rcases h.sml hsm with h | h <;> omega
  have h4 : 2 ^ F.nodes[i].args.length ≤ 2 ^ 3 := Nat.pow_le_pow_right (by decide) h2
  have h5 : l.length * 2 ^ F.nodes[i].args.length ≤ 1 * 2 ^ 3 := Nat.mul_le_mul h3 h4
  simpa using Nat.le_trans h1 (by simpa using h5)
end
end Go.Proofs
namespace Go.Proofs
open Go.GL
set_option linter.unusedVariables false
set_option linter.unusedSimpArgs false
end Go.Proofs
namespace Go.Proofs
open Go.GL
set_option linter.unusedVariables false
set_option linter.unusedSimpArgs false
theorem csyntax_g {H : List Ent} {fv : Value} {F : Fm} (hF : RF H fv F) (hk : F.ok) :
    Gives Tryz.prog 43 [fv] H (R1 (.tuple (List.toArray [.bool (F.err.isNone && F.syn), errV 57 F.err])) H) := by
  have hF0 := hF
  obtain ⟨na, off, ncap, nsp, rfl, hN⟩ := hF
  refine Gives.enter Tryz.func43 rfl (by exact Tryz.ntmps43) rfl ?_
  refine Tri.seq (Tri.region ?_)
  refine TOps.boxN rfl ti24 rfl rfl (fun b1 => ?_)
  refine TOps.hide (fun H1 l1 s1 r1 => ?_)
  replace hF0 := hF0.le l1
  refine TOps.assign rfl rfl ?_
  refine TOps.assign rfl rfl ?_
  refine TOps.next ?_
  refine Tri.seq (Tri.region ?_)
  refine TOps.loadN rfl ti24 (by first | exact Rd.all (by repeat (first | exact List.Mem.head _ | apply List.Mem.tail)) | (repeat (first | assumption | apply Rd.up))) rfl rfl ?_
  refine TOps.call (vs := [_]) Tryz.call30 ⟨rfl, trivial⟩ (trim_g hF0 hk) rfl ?_
  rintro _ H2 ⟨tv, rfl, l2, s2, hT⟩
  obtain ⟨ta, toff, tcap, tsp, rfl, hTN⟩ := hT
  replace l2 := l2.trans l1
  refine TOps.move rfl rfl ?_
  refine TOps.extract rfl rfl rfl ?_
  refine TOps.extract rfl rfl rfl ?_
  refine TOps.alloc ti24 rfl (fun b4 => ?_)
  refine TOps.storeN rfl rfl ti24 rfl rfl (by repeat (first | exact Upd.here | apply Upd.there)) (by first | decide | (simp; done) | (simp; omega)) ?_
  refine TOps.hide (fun H3 l3 s3 r3 => ?_)
  replace hTN := hTN.le l3
  replace l3 := l3.trans l2
  refine TOps.assign rfl rfl ?_
  refine TOps.next ?_
  refine Tri.seq ?_
  refine Tri.seq (Tri.region ?_)
  refine TOps.move rfl rfl ?_
  refine TOps.neqNil rfl Tryz.underlying29 rfl ?_
  refine TOps.next ?_
  refine Tri.cond rfl (fun hc1 => ?_) (fun hc1 => ?_)
  · try simp only [decide_eq_true_eq, decide_eq_false_iff_not, Bool.and_eq_true, Bool.or_eq_true, Bool.not_eq_true', Bool.and_eq_false_iff, Bool.or_eq_false_iff, Bool.not_eq_false', Int.not_lt, Int.not_le, ne_eq, Decidable.not_not, Option.isSome_iff_ne_none, Option.isNone_iff_eq_none] at hc1
    obtain ⟨e, he⟩ := Option.ne_none_iff_exists'.1 hc1
    refine Tri.seq (Tri.region ?_)
    refine TOps.move rfl rfl ?_
    refine TOps.assign rfl rfl ?_
    refine TOps.assign rfl rfl ?_
    refine TOps.next ?_
    refine Tri.ret2 (H' := H) Tryz.results43 (fun _ _ h => h) (.tmp rfl) (.tmp rfl) l3 ⟨by rw [he]; rfl, rfl⟩
  try simp only [decide_eq_true_eq, decide_eq_false_iff_not, Bool.and_eq_true, Bool.or_eq_true, Bool.not_eq_true', Bool.and_eq_false_iff, Bool.or_eq_false_iff, Bool.not_eq_false', Int.not_lt, Int.not_le, ne_eq, Decidable.not_not, Option.isSome_iff_ne_none, Option.isNone_iff_eq_none] at hc1
  have he : F.err = none := by simpa using hc1
  have hg := (Fm.good_iff F).1 he
  have hgt := Fm.trim_good hg
  have gt2 := hgt.n1
  rw [he, show (bif (none : Option Int).isNone then F.trim else Fm.zero) = F.trim from rfl] at r3
  rw [he, show (bif (none : Option Int).isNone then F.trim else Fm.zero) = F.trim from rfl] at hTN
  have hsy : F.syn = F.trim.nodes.all plainNd := rfl
  generalize F.trim = T at *
  replace r3 : Rd H3 b4 0 [.int .i64 T.vars, slV ta toff T.nodes.length tcap tsp, .int .i64 T.top] := r3
  refine Tri.fin ?_
  refine Nrm.next ?_
  refine Tri.seq ?_
  refine Tri.seq (Tri.region ?_)
  first | refine TOps.fieldB 1 rfl Tryz.underlying24 rfl rfl ti22 rfl rfl rfl ?_ | refine TOps.fieldN 1 rfl Tryz.underlying24 rfl rfl ti22 rfl rfl rfl ?_
  refine TOps.load1 rfl ti22 (by first | exact Rd.lit (by repeat (first | exact List.Mem.head _ | apply List.Mem.tail)) rfl | (repeat (first | assumption | exact Rd.fld (by assumption) 1 rfl | apply Rd.up))) rfl ?_
  refine TOps.len rfl Tryz.underlying22 rfl ?_
  refine TOps.move rfl rfl ?_
  refine TOps.next ?_
  refine Tri.range (X := Unit) (fun x k => [(17, slV ta toff T.nodes.length tcap tsp)]) (fun x k => H3) (fun x k => ∀ d ∈ T.nodes.take k, plainNd d = true) (by omega) rfl rfl rfl (fun _ _ => ⟨rfl, rfl, rfl, rfl⟩) () (by simp) ⟨rfl, trivial⟩ (by repeat (first | exact Le.refl _ | assumption | apply Le.drop)) (fun k x hlt hp => ?_) (fun x ac wc hp hS hM => ?_)
  · skip
    obtain ⟨nb, aa, ao, acap, asp, rfl, rfl, hn⟩ := hTN.at hlt
    have hcells := hn.cells
    refine Tri.seq (Tri.region ?_)
    refine TOps.indexAddr (off' := toff + k * 3) rfl rfl Tryz.underlying22 ti48 (by omega) (by omega) (by simp) rfl ?_
    refine TOps.loadN rfl ti48 (by first | exact Rd.all (by repeat (first | exact List.Mem.head _ | apply List.Mem.tail)) | (repeat (first | assumption | apply Rd.up))) rfl rfl ?_
    refine TOps.alloc ti48 rfl (fun b7 => ?_)
    refine TOps.storeN rfl rfl ti48 rfl rfl (by repeat (first | exact Upd.here | apply Upd.there)) (by first | decide | (simp; done) | (simp; omega)) ?_
    refine TOps.next ?_
    refine Tri.seq (Tri.region ?_)
    refine TOps.field0 rfl Tryz.underlying48 rfl rfl ti3 rfl rfl rfl ?_
    refine TOps.load1 rfl ti3 (by first | exact Rd.lit (by repeat (first | exact List.Mem.head _ | apply List.Mem.tail)) rfl | (repeat (first | assumption | exact Rd.fld (by assumption) 0 rfl | apply Rd.up))) rfl ?_
    refine TOps.eqlI rfl rfl rfl ?_
    refine TOps.move rfl rfl ?_
    refine' TOps.orB 3 rfl rfl rfl rfl (fun hg7_3 => ?_) ?_; rotate_left
    · have hg7_3' := hg7_3
      try simp only [decide_eq_true_eq, decide_eq_false_iff_not, Bool.and_eq_true, Bool.or_eq_true, Bool.not_eq_true', Bool.and_eq_false_iff, Bool.or_eq_false_iff, Bool.not_eq_false', Int.not_lt, Int.not_le, ne_eq, Decidable.not_not] at hg7_3'
      refine TOps.strip 3 false rfl rfl hg7_3 rfl ?_
      refine TOps.field0 rfl Tryz.underlying48 rfl rfl ti3 rfl rfl rfl ?_
      refine TOps.load1 rfl ti3 (by first | exact Rd.lit (by repeat (first | exact List.Mem.head _ | apply List.Mem.tail)) rfl | (repeat (first | assumption | exact Rd.fld (by assumption) 0 rfl | apply Rd.up))) rfl ?_
      refine TOps.eqlI rfl rfl rfl ?_
      refine TOps.blk rfl (by repeat (first | exact Ext.refl _ | refine Ext.cons rfl ?_)) (by repeat (first | exact Le.refl _ | apply Le.drop))
    refine TOps.next ?_
    refine Tri.cond rfl (fun hc2 => ?_) (fun hc2 => ?_)
    · try simp only [decide_eq_true_eq, decide_eq_false_iff_not, Bool.and_eq_true, Bool.or_eq_true, Bool.not_eq_true', Bool.and_eq_false_iff, Bool.or_eq_false_iff, Bool.not_eq_false', Int.not_lt, Int.not_le, ne_eq, Decidable.not_not, Option.isSome_iff_ne_none, Option.isNone_iff_eq_none] at hc2
      have hsf : F.syn = false := by
        rw [hsy, List.all_eq_false]
        refine ⟨T.nodes[k], List.getElem_mem hlt, ?_⟩
        unfold plainNd
        rcases hc2 with h | h <;> rw [h] <;> decide
      refine Tri.seq (Tri.region ?_)
      refine TOps.assign rfl rfl ?_
      refine TOps.assign rfl rfl ?_
      refine TOps.next ?_
      refine Tri.ret2 (H' := H) Tryz.results43 (fun _ _ h => h) (.tmp rfl) (.tmp rfl) (Le.drop l3) ⟨by rw [he, hsf]; rfl, rfl⟩
    try simp only [decide_eq_true_eq, decide_eq_false_iff_not, Bool.and_eq_true, Bool.or_eq_true, Bool.not_eq_true', Bool.and_eq_false_iff, Bool.or_eq_false_iff, Bool.not_eq_false', Int.not_lt, Int.not_le, ne_eq, Decidable.not_not, Option.isSome_iff_ne_none, Option.isNone_iff_eq_none] at hc2
    have hpk : plainNd T.nodes[k] = true := by unfold plainNd; simp; omega
    refine Tri.fin ?_
    refine Nrm.body () (ball_take_succ hlt hp hpk) ⟨rfl, rfl, rfl, trivial⟩ (by repeat (first | exact Le.refl _ | assumption | apply Le.drop))
  have hst : F.syn = true := by rw [hsy]; exact List.all_eq_true.2 fun d hd => hp d (by simpa using hd)
  refine Nrm.of hS hM ?_
  refine Nrm.next ?_
  refine Tri.seq (Tri.region ?_)
  refine TOps.assign rfl rfl ?_
  refine TOps.assign rfl rfl ?_
  refine TOps.next ?_
  refine Tri.ret2 (H' := H) Tryz.results43 (fun _ _ h => h) (.tmp rfl) (.tmp rfl) l3 ⟨by rw [he, hst]; rfl, rfl⟩
end Go.Proofs
namespace Go.Proofs
open Go.GL
set_option linter.unusedVariables false
set_option linter.unusedSimpArgs false
theorem NextR.fit {F : Fm} {v i : Nat} {d : Nd} {l z : List Rw} (h : NextR F v i d l z) (hz : z.length ≤ 4096) : ∀ r ∈ z, r.Fit v := by
  obtain ⟨ns, h1, h2, h3⟩ := h.ns hz
  rw [List.nil_append] at h1
  subst h1
  exact fun r hr => (h2 r hr).1
theorem RunI.top128 {F : Fm} {v : Nat} {l : List Rw} (h : RunI F v l) : topS l ≤ 128 := by
  rcases Nat.eq_zero_or_pos (topS l) with h0 | h0
  · omega
  · obtain ⟨r, hr, he⟩ := topS_mem (l := l) (by omega)
    have := Rw.top_le (h.fit r hr)
    omega
theorem plainKind {F : Fm} (hg : F.Good) {i : Nat} (hi : i < F.nodes.length) (hp : plainNd F.nodes[i] = true) : F.nodes[i].kind = 0 ∨ F.nodes[i].kind = 2 ∨ F.nodes[i].kind = 3 ∨ F.nodes[i].kind = 4 := by
  have hk : F.nodes[i].kind ≠ 1 ∧ F.nodes[i].kind ≠ 5 := by simpa [plainNd] using hp
  have h0 := (hg.fits i hi).k0
  have h1 := (hg.fits i hi).k1
  omega
set_option maxHeartbeats 2000000 in
theorem run_g {H : List Ent} {fv : Value} {F : Fm} {v : Nat} (hF : RFC H fv F) (hk : F.ok) (hg : F.Good) (hs : F.syn = true) (hvF : F.vars = v) (hv : v ≤ 24) (hlen : ∀ d ∈ F.nodes, d.args.length ≤ 1000) :
    Gives Tryz.prog 26 [fv] H (fun u H' => (u = .tuple (List.toArray [slV none 0 0 0, slV none 0 0 0, errV 57 (some 4)]) ∧ ¬ smallF F ∧ H = H') ∨ ∃ oa oc l w, RunI F v l ∧ topS l = 0 ∧ (l ≠ [] → ∃ b, oa = some b) ∧ u = .tuple (List.toArray [slV oa 0 l.length oc, w, errV 57 none]) ∧ row oa 66 3 oc (rwV l) :: H = H') := by
  have hF0 := hF.r
  have he := (Fm.good_iff F).2 hg
  obtain ⟨na, no, cap, nsp, rfl, hN⟩ := hF
  have htp := hg.topLt
  have hn := hg.n1
  obtain ⟨tp, htp2⟩ := Int.eq_ofNat_of_zero_le htp.1
  have htt : F.top.toNat = tp := by omega
  rw [hvF, htp2] at hF0 ⊢
  refine Gives.enter Tryz.func26 rfl (by exact Tryz.ntmps26) rfl ?_
  refine Tri.seq (Tri.region ?_)
  refine TOps.boxN rfl ti24 rfl rfl (fun b1 => ?_)
  refine TOps.hide (fun H1 l1 s1 r1 => ?_)
  replace hF0 := hF0.le l1; replace hN := hN.le l1
  refine TOps.assign rfl rfl ?_
  refine TOps.assign rfl rfl ?_
  refine TOps.assign rfl rfl ?_
  refine TOps.next ?_
  refine Tri.seq (Tri.region ?_)
  refine TOps.loadN (vs := [natV v, slV na no F.nodes.length cap nsp, natV tp]) rfl ti24 r1 rfl rfl ?_
  refine TOps.call (vs := [_]) Tryz.call43 ⟨rfl, trivial⟩ (csyntax_g hF0 hk) rfl ?_
  rintro _ _ ⟨rfl, rfl⟩
  rw [he, hs]
  refine TOps.move rfl rfl ?_
  refine TOps.extract rfl rfl rfl ?_
  refine TOps.extract rfl rfl rfl ?_
  refine TOps.assign rfl rfl ?_
  refine TOps.assign rfl rfl ?_
  refine TOps.next ?_
  refine Tri.seq ?_
  refine Tri.seq (Tri.region ?_)
  refine TOps.move rfl rfl ?_
  refine TOps.neqNil (T := 57) (o := none) rfl Tryz.underlying29 rfl ?_
  refine TOps.next ?_
  refine Tri.cond rfl (fun hc1 => ?_) (fun hc1 => ?_)
  · exact absurd hc1 (by first | decide | simp)
  try simp only [decide_eq_true_eq, decide_eq_false_iff_not, Bool.and_eq_true, Bool.or_eq_true, Bool.not_eq_true', Bool.and_eq_false_iff, Bool.or_eq_false_iff, Bool.not_eq_false', Int.not_lt, Int.not_le, ne_eq, Decidable.not_not, Option.isSome_iff_ne_none, Option.isNone_iff_eq_none] at hc1
  refine Tri.fin ?_
  refine Nrm.next ?_
  refine Tri.seq ?_
  refine Tri.seq (Tri.region ?_)
  refine TOps.move rfl rfl ?_
  refine TOps.not rfl rfl ?_
  refine TOps.next ?_
  refine Tri.cond rfl (fun hc2 => ?_) (fun hc2 => ?_)
  · exact absurd hc2 (by first | decide | simp)
  try simp only [decide_eq_true_eq, decide_eq_false_iff_not, Bool.and_eq_true, Bool.or_eq_true, Bool.not_eq_true', Bool.and_eq_false_iff, Bool.or_eq_false_iff, Bool.not_eq_false', Int.not_lt, Int.not_le, ne_eq, Decidable.not_not, Option.isSome_iff_ne_none, Option.isNone_iff_eq_none] at hc2
  refine Tri.fin ?_
  refine Nrm.next ?_
  refine Tri.seq (Tri.region ?_)
  refine TOps.buildStruct (vs := []) (xs := [_, _, _]) [(0, 1), (1, 2)] Tryz.underlying66 ti66 (fun w => by simp) trivial rfl rfl ?_
  refine TOps.loadN (vs := [natV v, slV na no F.nodes.length cap nsp, natV tp]) rfl ti24 r1 rfl rfl ?_
  first | refine TOps.fieldB 2 rfl Tryz.underlying24 rfl rfl ti3 rfl rfl rfl ?_ | refine TOps.fieldN 2 rfl Tryz.underlying24 rfl rfl ti3 rfl rfl rfl ?_
  refine TOps.load1 (v := natV tp) rfl ti3 (Rd.fld r1 2 rfl) rfl ?_
  refine TOps.call (vs := [_, _, _]) Tryz.call44 ⟨rfl, rfl, rfl, trivial⟩ (with_g (r := ⟨0, 0, 0⟩) (v := v) (a := tp) ⟨Nat.two_pow_pos _, by decide, by decide⟩ hv (by omega)) rfl ?_
  rintro _ _ ⟨rfl, rfl⟩
  refine TOps.buildSlice (vs := [_]) (xs := [_, _, _]) Tryz.underlying60 ti66 ⟨rfl, rfl, trivial⟩ rfl rfl rfl rfl rfl rfl (by decide) rfl (fun b29 => ?_)
  refine TOps.assign rfl rfl ?_
  refine TOps.next ?_
  refine Tri.seq (Tri.region ?_)
  refine TOps.assign rfl rfl ?_
  refine TOps.next ?_
  refine Tri.block ?_
  refine Tri.loop (X := (Option Nat × Nat × List Rw) × (Option Nat × Nat × List Int)) (fun x => [(1, .pointer (some ⟨b1, 0, none⟩)), (7, slV x.1.1 0 x.1.2.2.length x.1.2.1), (8, slV x.2.1 0 x.2.2.2.length x.2.2.1)]) (fun x => row x.1.1 66 3 x.1.2.1 (rwV x.1.2.2) :: row x.2.1 3 1 x.2.2.1 (ints x.2.2.2) :: H1) (fun x => RunI F v x.1.2.2 ∧ (x.1.2.2 ≠ [] → ∃ b, x.1.1 = some b) ∧ x.2.2.2.length + topS x.1.2.2 ≤ 128) (fun x => topS x.1.2.2) ((some b29, 1, [(⟨0, 0, 0⟩ : Rw).arg v tp]), (none, 0, [])) ⟨by rw [← htt]; exact RunI.start hg hvF, fun _ => ⟨_, rfl⟩, by rw [← htt]; exact (by have := (RunI.start hg hvF).top128; simpa using this)⟩ ⟨rfl, rfl, rfl, trivial⟩ (Le.addNil.trans (Sp.le (by repeat (first | exact Sp.refl _ | exact Sp.sub (by assumption) | refine Sp.cons (by repeat (first | exact Pick.here | apply Pick.there)) ?_ | exact Sp.nil | apply Sp.skip)))) (fun x hp => ?_)
  obtain ⟨⟨oa, oc, l⟩, sa, sc, st⟩ := x
  obtain ⟨p1, p2, p3⟩ := hp
  dsimp only at p1 p2 p3 ⊢
  refine Tri.block ?_
  refine Tri.seq (Tri.region ?_)
  refine TOps.move rfl rfl ?_
  refine TOps.call (vs := [_]) Tryz.call45 ⟨rfl, trivial⟩ (greatest_g p2 rfl (by have := p1.len; omega) p1.fit) rfl ?_
  rintro _ _ ⟨rfl, rfl⟩
  refine TOps.assign rfl rfl ?_
  refine TOps.next ?_
  refine Tri.seq ?_
  refine Tri.seq (Tri.region ?_)
  refine TOps.move rfl rfl ?_
  refine TOps.lss rfl rfl rfl ?_
  refine TOps.next ?_
  refine Tri.cond rfl (fun hc3 => ?_) (fun hc3 => ?_)
  · try simp only [decide_eq_true_eq, decide_eq_false_iff_not, Bool.and_eq_true, Bool.or_eq_true, Bool.not_eq_true', Bool.and_eq_false_iff, Bool.or_eq_false_iff, Bool.not_eq_false', Int.not_lt, Int.not_le, ne_eq, Decidable.not_not, Option.isSome_iff_ne_none, Option.isNone_iff_eq_none] at hc3
    refine Tri.seq (Tri.region ?_)
    refine TOps.move rfl rfl ?_
    refine TOps.move rfl rfl ?_
    refine TOps.assign rfl rfl ?_
    refine TOps.assign rfl rfl ?_
    refine TOps.assign rfl rfl ?_
    refine TOps.next ?_
    refine Tri.ret3 (H' := row oa 66 3 oc (rwV l) :: H) Tryz.results26 (fun _ _ h => h) (.tmp rfl) (.tmp rfl) (.tmp rfl) (Le.keep (s1.cons _)) (.inr ⟨oa, oc, l, _, p1, by omega, p2, rfl, rfl⟩)
  try simp only [decide_eq_true_eq, decide_eq_false_iff_not, Bool.and_eq_true, Bool.or_eq_true, Bool.not_eq_true', Bool.and_eq_false_iff, Bool.or_eq_false_iff, Bool.not_eq_false', Int.not_lt, Int.not_le, ne_eq, Decidable.not_not, Option.isSome_iff_ne_none, Option.isNone_iff_eq_none] at hc3
  obtain ⟨i, hti⟩ : ∃ i, topS l = i + 1 := ⟨topS l - 1, by omega⟩
  obtain ⟨hi, hbi⟩ := p1.top hti
  have hpl := synPlain hg hs hvF hi hbi
  rw [show ((topS l : Nat) : Int) - 1 = ((i : Nat) : Int) by omega]
  have hco := plainKind hg hi hpl
  have hll := p1.len
  refine Tri.fin ?_
  refine Nrm.next ?_
  refine Tri.seq (Tri.region ?_)
  refine TOps.alloc ti82 rfl (fun b10 => ?_)
  refine TOps.le (H' := row (some b10) 82 1 1 [slV none 0 0 0] :: row none 66 3 0 (rwV ([] : List Rw)) :: row oa 66 3 oc (rwV l) :: row sa 3 1 sc (ints st) :: H1) (Le.addNil.trans (Sp.le (by repeat (first | exact Sp.refl _ | exact Sp.sub (by assumption) | refine Sp.cons (by repeat (first | exact Pick.here | apply Pick.there)) ?_ | exact Sp.nil | apply Sp.skip)))) ?_
  refine TOps.next ?_
  refine Tri.seq ?_
  refine Tri.seq (Tri.region ?_)
  refine TOps.move rfl rfl ?_
  refine TOps.len rfl Tryz.underlying60 rfl ?_
  refine TOps.move rfl rfl ?_
  refine TOps.next ?_
  refine Tri.range (X := Option Nat × Nat × List Rw) (fun x k => [(1, .pointer (some ⟨b1, 0, none⟩)), (7, slV oa 0 l.length oc), (8, slV sa 0 st.length sc), (9, natV i), (10, .pointer (some ⟨b10, 0, none⟩)), (36, slV oa 0 l.length oc)]) (fun x k => row (some b10) 82 1 1 [slV x.1 0 (x.2.2).length x.2.1] :: row x.1 66 3 x.2.1 (rwV (x.2.2)) :: row oa 66 3 oc (rwV l) :: row sa 3 1 sc (ints st) :: H1) (fun x k => (x.2.2 ≠ [] → ∃ b, x.1 = some b) ∧ NextR F v i F.nodes[i] (l.take k) x.2.2) (by omega) rfl rfl rfl (fun _ _ => ⟨rfl, rfl, rfl, rfl⟩) (none, 0, []) ⟨fun h => absurd rfl h, NextR.nil⟩ ⟨rfl, rfl, rfl, rfl, rfl, rfl, trivial⟩ (by repeat (first | exact Le.refl _ | assumption | apply Le.drop)) (fun k x hlt hp => ?_) (fun x ac wc hp hS hM => ?_)
  · skip
    obtain ⟨la, lc, z⟩ := x
    obtain ⟨q1, q2⟩ := hp
    dsimp only at q1 q2 ⊢
    obtain ⟨ob, rfl⟩ := p2 (by intro h; rw [h] at hlt; exact absurd hlt (Nat.not_lt_zero k))
    have hfk : l[k].Fit v := p1.fit _ (List.getElem_mem hlt)
    have hbk := p1.rowB hti (List.getElem_mem hlt)
    have htk : l.take (k + 1) = l.take k ++ [l[k]] := List.take_succ_eq_append_getElem hlt
    refine Tri.seq (Tri.region ?_)
    refine TOps.indexAddr (b := ob) (off := 0) (m := l.length) (cap := oc) (off' := k * 3) rfl rfl Tryz.underlying60 ti66 (by omega) (by omega) (by simp) rfl ?_
    refine TOps.loadN (vs := (gL l k).cells) rfl ti66 (rwV_rd (List.Mem.tail _ (List.Mem.tail _ (List.Mem.head _))) hlt) rfl rfl ?_
    rw [gL_get hlt]
    refine TOps.alloc ti66 rfl (fun b12 => ?_)
    refine TOps.storeN rfl rfl ti66 rfl rfl (by repeat (first | exact Upd.here | apply Upd.there)) (by first | decide | (simp; done) | (simp; omega)) ?_
    refine TOps.le (H' := row (some b10) 82 1 1 [slV la 0 (z).length lc] :: row la 66 3 lc (rwV (z)) :: row (some b12) 66 3 1 l[k].cells :: row (some ob) 66 3 oc (rwV l) :: row sa 3 1 sc (ints st) :: H1) (Sp.le (by repeat (first | exact Sp.refl _ | exact Sp.sub (by assumption) | refine Sp.cons (by repeat (first | exact Pick.here | apply Pick.there)) ?_ | exact Sp.nil | apply Sp.skip))) ?_
    refine TOps.next ?_
    refine Tri.seq (Tri.region ?_)
    refine TOps.loadN (vs := l[k].cells) rfl ti66 (Rd.all (by repeat (first | exact List.Mem.head _ | apply List.Mem.tail))) rfl rfl ?_
    refine TOps.move rfl rfl ?_
    refine TOps.call (vs := [_, _]) Tryz.call46 ⟨rfl, rfl, trivial⟩ (has_g hfk (by omega)) rfl ?_
    rintro _ _ ⟨rfl, rfl⟩
    refine TOps.next ?_
    refine Tri.cond rfl (fun hc4 => ?_) (fun hc4 => ?_)
    · try simp only [decide_eq_true_eq, decide_eq_false_iff_not, Bool.and_eq_true, Bool.or_eq_true, Bool.not_eq_true', Bool.and_eq_false_iff, Bool.or_eq_false_iff, Bool.not_eq_false', Int.not_lt, Int.not_le, ne_eq, Decidable.not_not, Option.isSome_iff_ne_none, Option.isNone_iff_eq_none] at hc4
      refine Tri.region ?_
      refine TOps.loadN (vs := [natV v, slV na no F.nodes.length cap nsp, natV tp]) rfl ti24 (r1.le (Le.drop (Le.drop (Le.drop (Le.drop (Le.drop (Le.refl _))))))) rfl rfl ?_
      refine TOps.loadN (vs := l[k].cells) rfl ti66 (Rd.all (by repeat (first | exact List.Mem.head _ | apply List.Mem.tail))) rfl rfl ?_
      refine TOps.move rfl rfl ?_
      refine TOps.call (vs := [_, _, _, _]) Tryz.call47 ⟨rfl, rfl, rfl, rfl, trivial⟩ (expand_g (F := F) hv hvF hg (hN.le (Le.drop (Le.drop (Le.drop (Le.refl _))))) hi hco (hlen _ (List.getElem_mem hi)) hfk q2.hi q1) rfl ?_
      rintro _ _ ⟨rfl, la3, lc3, z3, q3, q4, rfl⟩
      refine TOps.fin ?_
      first
       | refine Nrm.body (la3, lc3, z3) ⟨q3, by rw [htk]; exact NextR.yes hg hvF hi q2 hbk hc4 q4⟩ ⟨rfl, rfl, rfl, rfl, rfl, rfl, rfl, rfl, trivial⟩ (Sp.le (by repeat (first | exact Sp.refl _ | exact Sp.sub (by assumption) | refine Sp.cons (by repeat (first | exact Pick.here | apply Pick.there)) ?_ | exact Sp.nil | apply Sp.skip)))
       | refine Nrm.body (la3, lc3, addL z l[k]) ⟨q3, by rw [htk]; exact NextR.no (by omega) q2 hbk hfk hc4⟩ ⟨rfl, rfl, rfl, rfl, rfl, rfl, rfl, rfl, trivial⟩ (Sp.le (by repeat (first | exact Sp.refl _ | exact Sp.sub (by assumption) | refine Sp.cons (by repeat (first | exact Pick.here | apply Pick.there)) ?_ | exact Sp.nil | apply Sp.skip)))
    try simp only [decide_eq_true_eq, decide_eq_false_iff_not, Bool.and_eq_true, Bool.or_eq_true, Bool.not_eq_true', Bool.and_eq_false_iff, Bool.or_eq_false_iff, Bool.not_eq_false', Int.not_lt, Int.not_le, ne_eq, Decidable.not_not, Option.isSome_iff_ne_none, Option.isNone_iff_eq_none] at hc4
    refine Tri.region ?_
    refine TOps.loadN (vs := l[k].cells) rfl ti66 (Rd.all (by repeat (first | exact List.Mem.head _ | apply List.Mem.tail))) rfl rfl ?_
    refine TOps.call (vs := [_, _]) Tryz.call48 ⟨rfl, rfl, trivial⟩ (add_g q2.hi q1) rfl ?_
    rintro _ _ ⟨rfl, la3, lc3, q3, rfl⟩
    refine TOps.fin ?_
    first
     | refine Nrm.body (la3, lc3, z3) ⟨q3, by rw [htk]; exact NextR.yes hg hvF hi q2 hbk hc4 q4⟩ ⟨rfl, rfl, rfl, rfl, rfl, rfl, rfl, rfl, trivial⟩ (Sp.le (by repeat (first | exact Sp.refl _ | exact Sp.sub (by assumption) | refine Sp.cons (by repeat (first | exact Pick.here | apply Pick.there)) ?_ | exact Sp.nil | apply Sp.skip)))
     | refine Nrm.body (la3, lc3, addL z l[k]) ⟨q3, by rw [htk]; exact NextR.no (by omega) q2 hbk hfk hc4⟩ ⟨rfl, rfl, rfl, rfl, rfl, rfl, rfl, rfl, trivial⟩ (Sp.le (by repeat (first | exact Sp.refl _ | exact Sp.sub (by assumption) | refine Sp.cons (by repeat (first | exact Pick.here | apply Pick.there)) ?_ | exact Sp.nil | apply Sp.skip)))
  obtain ⟨la, lc, z⟩ := x
  obtain ⟨q1, q2⟩ := hp
  rw [List.take_length] at q2
  dsimp only at q1 q2 hS hM
  have hzl := q2.hi
  refine Nrm.of hS hM ?_
  refine Nrm.next ?_
  refine Tri.seq ?_
  refine Tri.seq (Tri.region ?_)
  refine TOps.load1 (v := slV la 0 z.length lc) rfl ti82 (Rd.lit (List.Mem.head _) rfl) rfl ?_
  refine TOps.len rfl Tryz.underlying82 rfl ?_
  refine TOps.gtr rfl rfl rfl ?_
  refine TOps.next ?_
  refine Tri.cond rfl (fun hc5 => ?_) (fun hc5 => ?_)
  · try simp only [decide_eq_true_eq, decide_eq_false_iff_not, Bool.and_eq_true, Bool.or_eq_true, Bool.not_eq_true', Bool.and_eq_false_iff, Bool.or_eq_false_iff, Bool.not_eq_false', Int.not_lt, Int.not_le, ne_eq, Decidable.not_not, Option.isSome_iff_ne_none, Option.isNone_iff_eq_none] at hc5
    have hnsm : ¬ smallF F := fun h => by have := p1.sml_len hti hi q2 h; omega
    refine Tri.seq (Tri.region ?_)
    refine TOps.makeInterface rfl Tryz.underlying57 rfl rfl ?_
    refine TOps.assign rfl rfl ?_
    refine TOps.assign rfl rfl ?_
    refine TOps.assign rfl rfl ?_
    refine TOps.next ?_
    refine Tri.ret3 (H' := H) Tryz.results26 (fun _ _ h => h) (.tmp rfl) (.tmp rfl) (.tmp rfl) (Le.drop (Le.drop (Le.drop (Le.drop l1)))) (.inl ⟨rfl, hnsm, rfl⟩)
  try simp only [decide_eq_true_eq, decide_eq_false_iff_not, Bool.and_eq_true, Bool.or_eq_true, Bool.not_eq_true', Bool.and_eq_false_iff, Bool.or_eq_false_iff, Bool.not_eq_false', Int.not_lt, Int.not_le, ne_eq, Decidable.not_not, Option.isSome_iff_ne_none, Option.isNone_iff_eq_none] at hc5
  refine Tri.fin ?_
  refine Nrm.next ?_
  refine Tri.seq (Tri.region ?_)
  refine TOps.load1 (v := slV la 0 z.length lc) rfl ti82 (Rd.lit (List.Mem.head _) rfl) rfl ?_
  refine TOps.call (vs := [_]) Tryz.call49 ⟨rfl, trivial⟩ (least_g (RdS.ofRowA (List.Mem.tail _ (List.Mem.head _)) (fun h => q1 (by intro h2; rw [h2] at h; exact h rfl))) (q2.fit (by omega)) hv (by omega)) rfl ?_
  rintro _ _ ⟨ka, kc, l2, hP, hS2, rfl, hka, rfl⟩
  refine TOps.assign rfl rfl ?_
  refine TOps.next ?_
  refine Tri.seq ?_
  refine Tri.seq (Tri.region ?_)
  refine TOps.move rfl rfl ?_
  refine TOps.len rfl Tryz.underlying60 rfl ?_
  refine TOps.gtr rfl rfl rfl ?_
  refine TOps.next ?_
  refine Tri.cond rfl (fun hc6 => ?_) (fun hc6 => ?_)
  · try simp only [decide_eq_true_eq, decide_eq_false_iff_not, Bool.and_eq_true, Bool.or_eq_true, Bool.not_eq_true', Bool.and_eq_false_iff, Bool.or_eq_false_iff, Bool.not_eq_false', Int.not_lt, Int.not_le, ne_eq, Decidable.not_not, Option.isSome_iff_ne_none, Option.isNone_iff_eq_none] at hc6
    have hnsm : ¬ smallF F := fun h => by have h1 := p1.sml_len hti hi q2 h; have h2 := (keepR_kept l2).length; have h3 := hP.length_eq; omega
    refine Tri.seq (Tri.region ?_)
    refine TOps.makeInterface rfl Tryz.underlying57 rfl rfl ?_
    refine TOps.assign rfl rfl ?_
    refine TOps.assign rfl rfl ?_
    refine TOps.assign rfl rfl ?_
    refine TOps.next ?_
    refine Tri.ret3 (H' := H) Tryz.results26 (fun _ _ h => h) (.tmp rfl) (.tmp rfl) (.tmp rfl) (Le.drop (Le.drop (Le.drop (Le.drop (Le.drop l1))))) (.inl ⟨rfl, hnsm, rfl⟩)
  try simp only [decide_eq_true_eq, decide_eq_false_iff_not, Bool.and_eq_true, Bool.or_eq_true, Bool.not_eq_true', Bool.and_eq_false_iff, Bool.or_eq_false_iff, Bool.not_eq_false', Int.not_lt, Int.not_le, ne_eq, Decidable.not_not, Option.isSome_iff_ne_none, Option.isNone_iff_eq_none] at hc6
  refine Tri.fin ?_
  refine Nrm.next ?_
  refine Tri.region ?_
  refine TOps.move rfl rfl ?_
  refine TOps.move rfl rfl ?_
  refine TOps.len rfl Tryz.underlying60 rfl ?_
  obtain ⟨n1, n2⟩ := p1.next hg hs hvF hti hi q2 (by omega) hP hS2 (by omega)
  refine TOps.buildSlice (vs := [_]) (xs := [_]) Tryz.underlying35 ti3 ⟨rfl, rfl, trivial⟩ rfl rfl rfl rfl rfl rfl (by decide) rfl (fun b65 => ?_)
  refine TOps.appendLit rfl rfl Tryz.underlying35 ti3 rfl (fun _ _ => (by repeat (first | exact Upd.here | apply Upd.there))) rfl (by simp) rfl (by omega) (by omega) (by simp) rfl (fun b66 c66 => ?_)
  rw [show ints st ++ [Value.int .i64 ((keepR l2).length : Int)] = ints (st ++ [((keepR l2).length : Int)]) by simp [ints]]
  rw [show st.length + 1 = (st ++ [((keepR l2).length : Int)]).length by simp]
  refine TOps.assign rfl rfl ?_
  refine TOps.fin ?_
  refine Nrm.unB ?_
  refine Nrm.loop ((ka, kc, keepR l2), (some b66, c66, st ++ [((keepR l2).length : Int)])) ⟨n1, hka, by simp only [List.length_append, List.length_singleton]; omega⟩ (by simp only; omega) ⟨rfl, rfl, rfl, trivial⟩ (Sp.le (by repeat (first | exact Sp.refl _ | exact Sp.sub (by assumption) | refine Sp.cons (by repeat (first | exact Pick.here | apply Pick.there)) ?_ | exact Sp.nil | apply Sp.skip)))
end Go.Proofs
namespace Go.Proofs
open Go.GL
set_option linter.unusedVariables false
set_option linter.unusedSimpArgs false
set_option maxHeartbeats 1000000 in
theorem compact_g {H : List Ent} {oa : Option Nat} {cap : Nat} {l : List Nat} (ha : l ≠ [] → ∃ b, oa = some b) (hl : l.length ≤ 1000000) :
    Gives Tryz.prog 102 [slV oa 0 l.length cap] (row oa 3 1 cap (nats l) :: H) (fun u H' => u = slV oa 0 (dd l).length cap ∧ row oa 3 1 cap (nats (dd l)) :: H = H') := by
  refine Gives.mem (pr := l.length ≤ cap) (fun w hM => ?_) (fun hcap => ?_)
  · cases oa with
    | none =>
      have h1 := (hM.ok _ (List.Mem.head _)).1
      have : l = [] := by simpa [nats] using h1
      rw [this]; exact Nat.zero_le _
    | some b =>
      obtain ⟨sp, _, h, _⟩ := hM.ok _ (List.Mem.head _)
      have : (nats l).length = l.length := by simp [nats]
      omega
  refine Gives.enter Tryz.func102 rfl (by exact Tryz.ntmps102) rfl ?_
  refine Tri.seq (Tri.region ?_)
  refine TOps.assign rfl rfl ?_
  refine TOps.next ?_
  refine Tri.seq ?_
  refine Tri.seq (Tri.region ?_)
  refine TOps.move rfl rfl ?_
  refine TOps.len rfl Tryz.underlying35 rfl ?_
  refine TOps.lss rfl rfl rfl ?_
  refine TOps.next ?_
  refine Tri.cond rfl (fun hc1 => ?_) (fun hc1 => ?_)
  · try simp only [decide_eq_true_eq, decide_eq_false_iff_not, Bool.and_eq_true, Bool.or_eq_true, Bool.not_eq_true', Bool.and_eq_false_iff, Bool.or_eq_false_iff, Bool.not_eq_false', Int.not_lt, Int.not_le, ne_eq, Decidable.not_not, Option.isSome_iff_ne_none, Option.isNone_iff_eq_none] at hc1
    refine Tri.seq (Tri.region ?_)
    refine TOps.move rfl rfl ?_
    refine TOps.assign rfl rfl ?_
    refine TOps.next ?_
    refine Tri.ret1 (H' := row oa 3 1 cap (nats l) :: H) Tryz.results102 (fun _ _ h => h) (.tmp rfl) (Le.refl _) ⟨by rw [dd_short (by omega)], by rw [dd_short (by omega)]⟩
  try simp only [decide_eq_true_eq, decide_eq_false_iff_not, Bool.and_eq_true, Bool.or_eq_true, Bool.not_eq_true', Bool.and_eq_false_iff, Bool.or_eq_false_iff, Bool.not_eq_false', Int.not_lt, Int.not_le, ne_eq, Decidable.not_not, Option.isSome_iff_ne_none, Option.isNone_iff_eq_none] at hc1
  obtain ⟨b, rfl⟩ := ha (by intro h; rw [h] at hc1; simp at hc1)
  refine Tri.fin ?_
  refine Nrm.next ?_
  refine Tri.seq ?_
  refine Tri.seq (Tri.region ?_)
  refine TOps.assign rfl rfl ?_
  refine TOps.next ?_
  refine Tri.block ?_
  refine Tri.loop (X := Nat) (fun x => [(0, slV (some b) 0 l.length cap), (3, natV x)]) (fun x => row (some b) 3 1 cap (nats (l)) :: H) (fun x => 1 ≤ x ∧ x ≤ l.length ∧ dd (l.take x) = l.take x) (fun x => l.length - x) 1 ⟨Nat.le_refl _, by omega, dd_one⟩ ⟨rfl, rfl, trivial⟩ (by repeat (first | exact Le.refl _ | assumption | apply Le.drop)) (fun x hp => ?_)
  obtain ⟨m, rfl⟩ : ∃ m, m = x := ⟨_, rfl⟩
  obtain ⟨p1, p2, p3⟩ := hp
  refine Tri.seq ?_
  refine Tri.seq (Tri.region ?_)
  refine TOps.move rfl rfl ?_
  refine TOps.move rfl rfl ?_
  refine TOps.len rfl Tryz.underlying35 rfl ?_
  refine TOps.lss rfl rfl rfl ?_
  refine TOps.next ?_
  refine Tri.cond rfl (fun hc2 => ?_) (fun hc2 => ?_)
  · try simp only [decide_eq_true_eq, decide_eq_false_iff_not, Bool.and_eq_true, Bool.or_eq_true, Bool.not_eq_true', Bool.and_eq_false_iff, Bool.or_eq_false_iff, Bool.not_eq_false', Int.not_lt, Int.not_le, ne_eq, Decidable.not_not, Option.isSome_iff_ne_none, Option.isNone_iff_eq_none] at hc2
    have hxl : m < l.length := by omega
    have rx : Rd (row (some b) 3 1 cap (nats (l)) :: H) b (0 + m) [natV l[m]] := Rd.part (Rd.all (List.Mem.head _)) m (by simp [nats, hxl])
    have ry : Rd (row (some b) 3 1 cap (nats (l)) :: H) b (0 + (m - 1)) [natV l[m - 1]] := Rd.part (Rd.all (List.Mem.head _)) (m - 1) (by simp [nats, show m - 1 < l.length by omega])
    obtain ⟨bq, hbq⟩ : ∃ bq, bq = decide (l[m] = l[m - 1]) := ⟨_, rfl⟩
    refine Tri.fin ?_
    refine Nrm.next ?_
    refine Tri.seq ?_
    refine Tri.block ?_
    refine Tri.seq ?_
    refine Tri.drawC rfl [(0, slV (some b) 0 l.length cap), (3, natV m)] [] [_, _, _, _, _, _, _, _, _, _] (row (some b) 3 1 cap (nats (l)) :: H) [9] rfl ⟨rfl, rfl, trivial⟩ trivial (by repeat (first | exact Le.refl _ | assumption | apply Le.drop)) (by
      refine ⟨?_, ?_, ?_, ?_, ?_, ?_, ?_, ?_, ?_, ?_, trivial⟩
      · refine ⟨fun x S c he hw hd hc hcu hm _ => ?_, trivial⟩
        refine TOps.move (he _ _ rfl) rfl ?_
        exact TOps.fd x rfl rfl
      · refine ⟨fun x S c he hw hd hc hcu hm _ => ?_, trivial⟩
        refine TOps.move (he _ _ rfl) rfl ?_
        exact TOps.fd x rfl rfl
      · refine ⟨fun x S c he hw hd hc hcu hm _ => ?_, trivial⟩
        obtain ⟨h0, h1, -⟩ := hd
        refine TOps.indexAddr (b := b) (off := 0) (m := l.length) (cap := cap) (off' := 0 + m) h0 h1 Tryz.underlying35 ti3 (by omega) (by omega) (by simp) rfl ?_
        exact TOps.fd x rfl rfl
      · refine ⟨fun x S c he hw hd hc hcu hm _ => ?_, trivial⟩
        obtain ⟨h2, -⟩ := hd
        refine TOps.load1 h2 ti3 rx rfl ?_
        exact TOps.fd x rfl rfl
      · refine ⟨fun x S c he hw hd hc hcu hm _ => ?_, trivial⟩
        refine TOps.move (he _ _ rfl) rfl ?_
        exact TOps.fd x rfl rfl
      · refine ⟨fun x S c he hw hd hc hcu hm _ => ?_, trivial⟩
        refine TOps.move (he _ _ rfl) rfl ?_
        exact TOps.fd x rfl rfl
      · refine ⟨fun x S c he hw hd hc hcu hm _ => ?_, trivial⟩
        obtain ⟨h5, -⟩ := hd
        refine TOps.sub (r := ((m - 1 : Nat) : Int)) h5 rfl (by rw [wrapI (by omega) (by omega)]; omega) rfl ?_
        exact TOps.fd x rfl rfl
      · refine ⟨fun x S c he hw hd hc hcu hm _ => ?_, trivial⟩
        obtain ⟨h4, h6, -⟩ := hd
        refine TOps.indexAddr (b := b) (off := 0) (m := l.length) (cap := cap) (off' := 0 + (m - 1)) h4 h6 Tryz.underlying35 ti3 (by omega) (by omega) (by simp) rfl ?_
        exact TOps.fd x rfl rfl
      · refine ⟨fun x S c he hw hd hc hcu hm _ => ?_, trivial⟩
        obtain ⟨h7, -⟩ := hd
        refine TOps.load1 h7 ti3 ry rfl ?_
        exact TOps.fd x rfl rfl
      · refine ⟨fun x S c he hw hd hc hcu hm _ => ?_, trivial⟩
        obtain ⟨h3, h8, -⟩ := hd
        refine TOps.eqlIr (r := bq) h3 h8 (by rw [hbq]; exact decide_eq_decide.2 (by omega)) rfl ?_
        exact TOps.fd x rfl rfl
      ) ?_
    refine Nrm.next ?_
    refine Tri.cond rfl (fun hc3 => ?_) (fun hc3 => ?_)
    · try simp only [decide_eq_true_eq, decide_eq_false_iff_not, Bool.and_eq_true, Bool.or_eq_true, Bool.not_eq_true', Bool.and_eq_false_iff, Bool.or_eq_false_iff, Bool.not_eq_false', Int.not_lt, Int.not_le, ne_eq, Decidable.not_not, Option.isSome_iff_ne_none, Option.isNone_iff_eq_none] at hc3
      rw [hbq, decide_eq_true_eq] at hc3
      have hst := CI.start p1 hxl p3 hc3
      refine Tri.seq (Tri.region ?_)
      refine TOps.move rfl rfl ?_
      refine TOps.move rfl rfl ?_
      refine TOps.sliceLo (l := m) rfl rfl Tryz.underlying35 ti3 (by omega) rfl ?_
      rw [show (cap == m) = false by simp; omega]
      rw [show (bif false then 0 else 0 + m * 1) = m from by simp]
      refine TOps.assign rfl rfl ?_
      refine TOps.next ?_
      refine Tri.seq ?_
      refine Tri.seq (Tri.region ?_)
      refine TOps.assign rfl rfl ?_
      refine TOps.next ?_
      refine Tri.block ?_
      refine Tri.loop (X := Nat × Nat × List Nat) (fun x => [(0, slV (some b) 0 l.length cap), (3, natV x.1), (4, slV (some b) m (l.length - m) (cap - m)), (5, natV x.2.1)]) (fun x => row (some b) 3 1 cap (nats (x.2.2)) :: H) (fun x => 1 ≤ x.2.1 ∧ CI l x.2.2 (m + x.2.1) x.1) (fun x => l.length - x.2.1) (m, 1, l) ⟨Nat.le_refl _, hst⟩ ⟨rfl, rfl, rfl, rfl, trivial⟩ (by repeat (first | exact Le.refl _ | assumption | apply Le.drop)) (fun x hp => ?_)
      obtain ⟨k, k2, M⟩ := x
      obtain ⟨q1, q2⟩ := hp
      dsimp only at q1 q2 ⊢
      have qk := q2.hk
      have qp := q2.hp
      have ql := q2.len
      refine Tri.seq ?_
      refine Tri.seq (Tri.region ?_)
      refine TOps.move rfl rfl ?_
      refine TOps.move rfl rfl ?_
      refine TOps.len rfl Tryz.underlying35 rfl ?_
      refine TOps.lss rfl rfl rfl ?_
      refine TOps.next ?_
      refine Tri.cond rfl (fun hc4 => ?_) (fun hc4 => ?_)
      · try simp only [decide_eq_true_eq, decide_eq_false_iff_not, Bool.and_eq_true, Bool.or_eq_true, Bool.not_eq_true', Bool.and_eq_false_iff, Bool.or_eq_false_iff, Bool.not_eq_false', Int.not_lt, Int.not_le, ne_eq, Decidable.not_not, Option.isSome_iff_ne_none, Option.isNone_iff_eq_none] at hc4
        have hkl : m + k2 < l.length := by omega
        have rx2 : Rd (row (some b) 3 1 cap (nats (M)) :: H) b (0 + (m + k2)) [natV l[m + k2]] := by rw [← q2.at hkl (by omega)]; exact Rd.part (Rd.all (List.Mem.head _)) (m + k2) (by simp [nats, ql, hkl])
        have ry2 : Rd (row (some b) 3 1 cap (nats (M)) :: H) b (0 + (m + k2 - 1)) [natV l[m + k2 - 1]] := by rw [← q2.at (show m + k2 - 1 < l.length by omega) (by omega)]; exact Rd.part (Rd.all (List.Mem.head _)) (m + k2 - 1) (by simp [nats, ql, show m + k2 - 1 < l.length by omega])
        rw [Nat.zero_add] at rx2 ry2
        obtain ⟨bp, hbp⟩ : ∃ bp, bp = !decide (l[m + k2] = l[m + k2 - 1]) := ⟨_, rfl⟩
        refine Tri.fin ?_
        refine Nrm.next ?_
        refine Tri.seq ?_
        refine Tri.block ?_
        refine Tri.seq ?_
        refine Tri.drawC rfl [(0, slV (some b) 0 l.length cap), (3, natV k), (4, slV (some b) m (l.length - m) (cap - m)), (5, natV k2)] [] [_, _, _, _, _, _, _, _, _, _] (row (some b) 3 1 cap (nats (M)) :: H) [9] rfl ⟨rfl, rfl, rfl, rfl, trivial⟩ trivial (by repeat (first | exact Le.refl _ | assumption | apply Le.drop)) (by
          refine ⟨?_, ?_, ?_, ?_, ?_, ?_, ?_, ?_, ?_, ?_, trivial⟩
          · refine ⟨fun x S c he hw hd hc hcu hm _ => ?_, trivial⟩
            refine TOps.move (he _ _ rfl) rfl ?_
            exact TOps.fd x rfl rfl
          · refine ⟨fun x S c he hw hd hc hcu hm _ => ?_, trivial⟩
            refine TOps.move (he _ _ rfl) rfl ?_
            exact TOps.fd x rfl rfl
          · refine ⟨fun x S c he hw hd hc hcu hm _ => ?_, trivial⟩
            obtain ⟨h0, h1, -⟩ := hd
            refine TOps.indexAddr (b := b) (off := m) (m := l.length - m) (cap := cap - m) (off' := m + k2) h0 h1 Tryz.underlying35 ti3 (by omega) (by omega) (by simp) rfl ?_
            exact TOps.fd x rfl rfl
          · refine ⟨fun x S c he hw hd hc hcu hm _ => ?_, trivial⟩
            obtain ⟨h2, -⟩ := hd
            refine TOps.load1 h2 ti3 rx2 rfl ?_
            exact TOps.fd x rfl rfl
          · refine ⟨fun x S c he hw hd hc hcu hm _ => ?_, trivial⟩
            refine TOps.move (he _ _ rfl) rfl ?_
            exact TOps.fd x rfl rfl
          · refine ⟨fun x S c he hw hd hc hcu hm _ => ?_, trivial⟩
            refine TOps.move (he _ _ rfl) rfl ?_
            exact TOps.fd x rfl rfl
          · refine ⟨fun x S c he hw hd hc hcu hm _ => ?_, trivial⟩
            obtain ⟨h5, -⟩ := hd
            refine TOps.sub (r := ((k2 - 1 : Nat) : Int)) h5 rfl (by rw [wrapI (by omega) (by omega)]; omega) rfl ?_
            exact TOps.fd x rfl rfl
          · refine ⟨fun x S c he hw hd hc hcu hm _ => ?_, trivial⟩
            obtain ⟨h4, h6, -⟩ := hd
            refine TOps.indexAddr (b := b) (off := m) (m := l.length - m) (cap := cap - m) (off' := m + k2 - 1) h4 h6 Tryz.underlying35 ti3 (by omega) (by omega) (by simp; omega) rfl ?_
            exact TOps.fd x rfl rfl
          · refine ⟨fun x S c he hw hd hc hcu hm _ => ?_, trivial⟩
            obtain ⟨h7, -⟩ := hd
            refine TOps.load1 h7 ti3 ry2 rfl ?_
            exact TOps.fd x rfl rfl
          · refine ⟨fun x S c he hw hd hc hcu hm _ => ?_, trivial⟩
            obtain ⟨h3, h8, -⟩ := hd
            refine TOps.neqIr (r := bp) h3 h8 (by rw [hbp, ← decide_not]; exact decide_eq_decide.2 (by omega)) rfl ?_
            exact TOps.fd x rfl rfl
          ) ?_
        refine Nrm.next ?_
        refine Tri.cond rfl (fun hc5 => ?_) (fun hc5 => ?_)
        · try simp only [decide_eq_true_eq, decide_eq_false_iff_not, Bool.and_eq_true, Bool.or_eq_true, Bool.not_eq_true', Bool.and_eq_false_iff, Bool.or_eq_false_iff, Bool.not_eq_false', Int.not_lt, Int.not_le, ne_eq, Decidable.not_not, Option.isSome_iff_ne_none, Option.isNone_iff_eq_none] at hc5
          rw [hbp, Bool.not_eq_true', decide_eq_false_iff_not] at hc5
          refine Tri.seq (Tri.region ?_)
          refine TOps.move rfl rfl ?_
          refine TOps.move rfl rfl ?_
          refine TOps.move rfl rfl ?_
          refine TOps.move rfl rfl ?_
          refine TOps.indexAddr (b := b) (off := m) (m := l.length - m) (cap := cap - m) (off' := m + k2) rfl rfl Tryz.underlying35 ti3 (by omega) (by omega) (by simp) rfl ?_
          refine TOps.load1 rfl ti3 rx2 rfl ?_
          refine TOps.indexAddr (b := b) (off := 0) (m := l.length) (cap := cap) (off' := k) rfl rfl Tryz.underlying35 ti3 (by omega) (by omega) (by simp) rfl ?_
          refine TOps.store1 (b := b) rfl rfl ti3 rfl rfl Upd.here (by simp [nats]; omega) ?_
          rw [show (nats M).set k (natV l[m + k2]) = nats (M.set k l[m + k2]) by simp [nats, List.map_set]]
          refine TOps.next ?_
          refine Tri.region ?_
          refine TOps.move rfl rfl ?_
          refine TOps.add rfl rfl (wrapI (by omega) (by omega)) rfl ?_
          refine TOps.assign rfl rfl ?_
          refine TOps.fin ?_
          refine Nrm.unB ?_
          refine Nrm.next ?_
          refine Tri.region ?_
          refine TOps.move rfl rfl ?_
          refine TOps.add rfl rfl (wrapI (by omega) (by omega)) rfl ?_
          refine TOps.assign rfl rfl ?_
          refine TOps.fin ?_
          first
           | refine Nrm.loop (k + 1, k2 + 1, M.set k l[m + k2]) ⟨by simp only; omega, q2.other hkl hc5⟩ (by simp only; omega) ⟨rfl, rfl, rfl, rfl, trivial⟩ (by repeat (first | exact Le.refl _ | assumption | apply Le.drop))
           | refine Nrm.loop (k, k2 + 1, M) ⟨by simp only; omega, q2.same hkl hc5⟩ (by simp only; omega) ⟨rfl, rfl, rfl, rfl, trivial⟩ (by repeat (first | exact Le.refl _ | assumption | apply Le.drop))
        try simp only [decide_eq_true_eq, decide_eq_false_iff_not, Bool.and_eq_true, Bool.or_eq_true, Bool.not_eq_true', Bool.and_eq_false_iff, Bool.or_eq_false_iff, Bool.not_eq_false', Int.not_lt, Int.not_le, ne_eq, Decidable.not_not, Option.isSome_iff_ne_none, Option.isNone_iff_eq_none] at hc5
        rw [hbp, Bool.not_eq_false', decide_eq_true_eq] at hc5
        refine Tri.fin ?_
        refine Nrm.unB ?_
        refine Nrm.next ?_
        refine Tri.region ?_
        refine TOps.move rfl rfl ?_
        refine TOps.add rfl rfl (wrapI (by omega) (by omega)) rfl ?_
        refine TOps.assign rfl rfl ?_
        refine TOps.fin ?_
        first
         | refine Nrm.loop (k + 1, k2 + 1, M.set k l[m + k2]) ⟨by simp only; omega, q2.other hkl hc5⟩ (by simp only; omega) ⟨rfl, rfl, rfl, rfl, trivial⟩ (by repeat (first | exact Le.refl _ | assumption | apply Le.drop))
         | refine Nrm.loop (k, k2 + 1, M) ⟨by simp only; omega, q2.same hkl hc5⟩ (by simp only; omega) ⟨rfl, rfl, rfl, rfl, trivial⟩ (by repeat (first | exact Le.refl _ | assumption | apply Le.drop))
      try simp only [decide_eq_true_eq, decide_eq_false_iff_not, Bool.and_eq_true, Bool.or_eq_true, Bool.not_eq_true', Bool.and_eq_false_iff, Bool.or_eq_false_iff, Bool.not_eq_false', Int.not_lt, Int.not_le, ne_eq, Decidable.not_not, Option.isSome_iff_ne_none, Option.isNone_iff_eq_none] at hc4
      have qe : m + k2 = l.length := by have := q2.hp; omega
      rw [qe] at q2
      obtain ⟨f1, f2, f3⟩ := q2.fin
      have ql := q2.len
      first | refine Tri.exitW ?_ | (refine Tri.exitTo ?_; repeat (with_reducible first | refine ExitTo.blk ?_ | refine ExitTo.blkNe rfl ?_ | refine ExitTo.body ?_ | refine ExitTo.brk rfl ?_ | refine ExitTo.bodyNe rfl rfl ?_ | refine ExitTo.seq ?_ | refine ExitTo.loop ?_))
      refine Nrm.next ?_
      refine Tri.seq (Tri.region ?_)
      refine TOps.move rfl rfl ?_
      refine TOps.move rfl rfl ?_
      refine TOps.sliceLo (l := k) rfl rfl Tryz.underlying35 ti3 (by omega) rfl ?_
      rw [show (cap == k) = false by simp; omega]
      rw [show (bif false then 0 else 0 + k * 1) = k from by simp]
      refine TOps.clear1 (off := k) (m := l.length - k) rfl Tryz.underlying35 ti3 rfl Upd.here (by simp [nats]; omega) ?_
      refine TOps.next ?_
      refine Tri.seq (Tri.region ?_)
      refine TOps.move rfl rfl ?_
      refine TOps.move rfl rfl ?_
      refine TOps.sliceHi (u := k) rfl rfl Tryz.underlying35 ti3 (by omega) rfl ?_
      refine TOps.assign rfl rfl ?_
      refine TOps.next ?_
      refine Tri.ret1 (H' := row (some b) 3 1 cap (nats ((dd l))) :: H) Tryz.results102 (fun _ _ h => h) (.tmp rfl) ?_ ⟨by rw [f2], rfl⟩
      rw [show List.replicate (l.length - k) (Value.int .i64 0) = nats (List.replicate (l.length - k) 0) by simp [nats], setL_nats _ _ _ (by rw [List.length_replicate]; omega), f1, List.append_assoc, show ∀ a b : List Nat, nats (a ++ b) = nats a ++ nats b from fun a b => by simp [nats]]
      exact Le.rowCut
    try simp only [decide_eq_true_eq, decide_eq_false_iff_not, Bool.and_eq_true, Bool.or_eq_true, Bool.not_eq_true', Bool.and_eq_false_iff, Bool.or_eq_false_iff, Bool.not_eq_false', Int.not_lt, Int.not_le, ne_eq, Decidable.not_not, Option.isSome_iff_ne_none, Option.isNone_iff_eq_none] at hc3
    rw [hbq, decide_eq_false_iff_not] at hc3
    refine Tri.fin ?_
    refine Nrm.unB ?_
    refine Nrm.next ?_
    refine Tri.region ?_
    refine TOps.move rfl rfl ?_
    refine TOps.add rfl rfl (wrapI (by omega) (by omega)) rfl ?_
    refine TOps.assign rfl rfl ?_
    refine TOps.fin ?_
    refine Nrm.loop (m + 1) ⟨by omega, by omega, (dd_go p1 hxl p3 hc3)⟩ (by omega) ⟨rfl, rfl, trivial⟩ (by repeat (first | exact Le.refl _ | assumption | apply Le.drop))
  try simp only [decide_eq_true_eq, decide_eq_false_iff_not, Bool.and_eq_true, Bool.or_eq_true, Bool.not_eq_true', Bool.and_eq_false_iff, Bool.or_eq_false_iff, Bool.not_eq_false', Int.not_lt, Int.not_le, ne_eq, Decidable.not_not, Option.isSome_iff_ne_none, Option.isNone_iff_eq_none] at hc2
  obtain rfl : m = l.length := by omega
  rw [List.take_length] at p3
  first | refine Tri.exitW ?_ | (refine Tri.exitTo ?_; repeat (with_reducible first | refine ExitTo.blk ?_ | refine ExitTo.blkNe rfl ?_ | refine ExitTo.body ?_ | refine ExitTo.brk rfl ?_ | refine ExitTo.bodyNe rfl rfl ?_ | refine ExitTo.seq ?_ | refine ExitTo.loop ?_))
  refine Nrm.next ?_
  refine Tri.seq (Tri.region ?_)
  refine TOps.move rfl rfl ?_
  refine TOps.assign rfl rfl ?_
  refine TOps.next ?_
  refine Tri.ret1 (H' := row (some b) 3 1 cap (nats ((dd l))) :: H) Tryz.results102 (fun _ _ h => h) (.tmp rfl) (by rw [p3]; exact Le.refl _) ⟨by rw [p3], rfl⟩
end Go.Proofs
namespace Go.Proofs
open Go.GL
set_option linter.unusedVariables false
set_option linter.unusedSimpArgs false
theorem len0_g {H : List Ent} : Gives Tryz.prog 51 [.int .u64 0] H (R1 (natV (Lib.bitLen 0)) H) := by
  refine Gives.enter Tryz.func51 rfl (by exact Tryz.ntmps51) rfl ?_
  refine Tri.seq (Tri.region ?_)
  refine TOps.assign rfl rfl ?_
  refine TOps.next ?_
  refine Tri.seq ?_
  refine Tri.cond rfl (fun hc1 => ?_) (fun hc1 => ?_)
  · exact absurd hc1 (by first | decide | simp)
  try simp only [decide_eq_true_eq, decide_eq_false_iff_not, Bool.and_eq_true, Bool.or_eq_true, Bool.not_eq_true', Bool.and_eq_false_iff, Bool.or_eq_false_iff, Bool.not_eq_false', Int.not_lt, Int.not_le, ne_eq, Decidable.not_not, Option.isSome_iff_ne_none, Option.isNone_iff_eq_none] at hc1
  refine Tri.fin ?_
  refine Nrm.next ?_
  refine Tri.seq (Tri.region ?_)
  refine TOps.move rfl rfl ?_
  refine TOps.call (vs := [_]) Tryz.call66 ⟨rfl, trivial⟩ (len64_g (x := 0) (by decide)) rfl ?_
  rintro _ _ ⟨rfl, rfl⟩
  refine TOps.assign rfl rfl ?_
  refine TOps.next ?_
  refine Tri.ret1 (H' := H) Tryz.results51 (fun _ _ h => h) (.tmp rfl) (Le.refl _) ⟨rfl, rfl⟩
theorem insINil_g {H : List Ent} {cap : Nat} : Gives Tryz.prog 76 [slV none 0 0 cap, natV 0, natV 0, .func (.func 28) #[] #[]] H (fun u H' => u = .tuple (List.toArray []) ∧ H = H') := by
  refine Gives.enter Tryz.func76 rfl (by exact Tryz.ntmps76) rfl ?_
  refine Tri.seq (Tri.region ?_)
  refine TOps.move rfl rfl ?_
  refine TOps.add (r := ((1 : Nat) : Int)) rfl rfl (by rw [wrapI (by omega) (by omega)]; omega) rfl ?_
  refine TOps.assign rfl rfl ?_
  refine TOps.next ?_
  refine Tri.block ?_
  refine Tri.loop (X := Unit) (fun x => [(0, slV none 0 0 cap), (1, natV 0), (2, natV 0), (3, .func (.func 28) #[] #[]), (8, natV 1)]) (fun x => H) (fun x => True) (fun x => 0) () trivial ⟨rfl, rfl, rfl, rfl, rfl, trivial⟩ (by repeat (first | exact Le.refl _ | assumption | apply Le.drop)) (fun x hp => ?_)
  refine Tri.seq ?_
  refine Tri.seq (Tri.region ?_)
  refine TOps.move rfl rfl ?_
  refine TOps.move rfl rfl ?_
  refine TOps.lss rfl rfl rfl ?_
  refine TOps.next ?_
  refine Tri.cond rfl (fun hc1 => ?_) (fun hc1 => ?_)
  · exact absurd hc1 (by first | decide | simp)
  try simp only [decide_eq_true_eq, decide_eq_false_iff_not, Bool.and_eq_true, Bool.or_eq_true, Bool.not_eq_true', Bool.and_eq_false_iff, Bool.or_eq_false_iff, Bool.not_eq_false', Int.not_lt, Int.not_le, ne_eq, Decidable.not_not, Option.isSome_iff_ne_none, Option.isNone_iff_eq_none] at hc1
  first | refine Tri.exitW ?_ | (refine Tri.exitTo ?_; repeat (with_reducible first | refine ExitTo.blk ?_ | refine ExitTo.blkNe rfl ?_ | refine ExitTo.body ?_ | refine ExitTo.brk rfl ?_ | refine ExitTo.bodyNe rfl rfl ?_ | refine ExitTo.seq ?_ | refine ExitTo.loop ?_))
  exact Nrm.ret0 (H' := H) Tryz.results76 (Le.refl _) ⟨rfl, rfl⟩
theorem pdqNil_g {H : List Ent} {cap : Nat} {lim : Value} : Gives Tryz.prog 50 [slV none 0 0 cap, natV 0, natV 0, lim, .func (.func 28) #[] #[]] H (fun u H' => u = .tuple (List.toArray []) ∧ H = H') := by
  refine Gives.enter Tryz.func50 rfl (by exact Tryz.ntmps50) rfl ?_
  refine Tri.seq (Tri.region ?_)
  refine TOps.assign rfl rfl ?_
  refine TOps.next ?_
  refine Tri.seq (Tri.region ?_)
  refine TOps.assign rfl rfl ?_
  refine TOps.next ?_
  refine Tri.block ?_
  refine Tri.loop (X := Unit) (fun x => [(0, slV none 0 0 cap), (1, natV 0), (2, natV 0), (3, lim), (4, .func (.func 28) #[] #[]), (10, .bool true), (11, .bool true)]) (fun x => H) (fun x => True) (fun x => 0) () trivial ⟨rfl, rfl, rfl, rfl, rfl, rfl, rfl, trivial⟩ (by repeat (first | exact Le.refl _ | assumption | apply Le.drop)) (fun x hp => ?_)
  refine Tri.block ?_
  refine Tri.seq (Tri.region ?_)
  refine TOps.move rfl rfl ?_
  refine TOps.move rfl rfl ?_
  refine TOps.sub (r := ((0 : Nat) : Int)) rfl rfl (by rw [wrapI (by omega) (by omega)]; omega) rfl ?_
  refine TOps.assign rfl rfl ?_
  refine TOps.next ?_
  refine Tri.seq ?_
  refine Tri.seq (Tri.region ?_)
  refine TOps.move rfl rfl ?_
  refine TOps.leq rfl rfl rfl ?_
  refine TOps.next ?_
  refine Tri.cond rfl (fun hc1 => ?_) (fun hc1 => ?_)
  · try simp only [decide_eq_true_eq, decide_eq_false_iff_not, Bool.and_eq_true, Bool.or_eq_true, Bool.not_eq_true', Bool.and_eq_false_iff, Bool.or_eq_false_iff, Bool.not_eq_false', Int.not_lt, Int.not_le, ne_eq, Decidable.not_not, Option.isSome_iff_ne_none, Option.isNone_iff_eq_none] at hc1
    refine Tri.seq (Tri.region ?_)
    refine TOps.move rfl rfl ?_
    refine TOps.move rfl rfl ?_
    refine TOps.move rfl rfl ?_
    refine TOps.move rfl rfl ?_
    refine TOps.call (vs := [_, _, _, _]) Tryz.call76 ⟨rfl, rfl, rfl, rfl, trivial⟩ (insINil_g) rfl ?_
    rintro _ _ ⟨rfl, rfl⟩
    refine TOps.next ?_
    refine Tri.ret0 (H' := H) Tryz.results50 (fun _ _ h => h) (Le.refl _) ⟨rfl, rfl⟩
  · exact absurd hc1 (by first | decide | simp)
theorem sortNil_g {H : List Ent} {cap : Nat} : Gives Tryz.prog 27 [slV none 0 0 cap, .func (.func 28) #[] #[]] H (fun u H' => u = .tuple (List.toArray []) ∧ H = H') := by
  refine Gives.enter Tryz.func27 rfl (by exact Tryz.ntmps27) rfl ?_
  refine Tri.seq (Tri.region ?_)
  refine TOps.move rfl rfl ?_
  refine TOps.len rfl Tryz.underlying35 rfl ?_
  refine TOps.assign rfl rfl ?_
  refine TOps.next ?_
  refine Tri.region ?_
  refine TOps.move rfl rfl ?_
  refine TOps.move rfl rfl ?_
  refine TOps.move rfl rfl ?_
  refine TOps.convI (r := (0 : Int)) rfl Tryz.underlying3 Tryz.underlying88 (wrapU _ (by omega) (by omega)) rfl ?_
  refine TOps.call (vs := [_]) Tryz.call51 ⟨rfl, trivial⟩ (len0_g) rfl ?_
  rintro _ _ ⟨rfl, rfl⟩
  refine TOps.move rfl rfl ?_
  refine TOps.call (vs := [_, _, _, _, _]) Tryz.call50 ⟨rfl, rfl, rfl, rfl, rfl, trivial⟩ (pdqNil_g) rfl ?_
  rintro _ _ ⟨rfl, rfl⟩
  refine TOps.fin ?_
  exact Nrm.ret0 (H' := H) Tryz.results27 (Le.refl _) ⟨rfl, rfl⟩
theorem nats_ne {l : List Nat} (h : nats l ≠ []) : l ≠ [] := by intro h2; rw [h2] at h; exact h rfl
theorem ne_nats {l : List Nat} (h : l ≠ []) : nats l ≠ [] := by intro h2; apply h; simpa [nats] using h2
theorem sortAny_g {H : List Ent} {oa : Option Nat} {cap : Nat} {l : List Nat} (ha : l ≠ [] → ∃ b, oa = some b) (hb : ∀ x ∈ l, x < 16777216) (hn : l.length ≤ 1000000) :
    Gives Tryz.prog 27 [slV oa 0 l.length cap, .func (.func 28) #[] #[]] (row oa 3 1 cap (nats l) :: H) (fun u H' => u = .tuple (List.toArray []) ∧ ∃ l', l'.Perm l ∧ l'.Pairwise (fun x y => ¬ ltS y x) ∧ row oa 3 1 cap (nats l') :: H = H') := by
  cases oa with
  | some b => exact sortFunc_g hb (by omega)
  | none =>
    cases l with
    | cons x l => obtain ⟨b, hb⟩ := ha (by simp); cases hb
    | nil =>
      refine Gives.mono (sortNil_g (cap := cap)) ?_
      rintro u H' ⟨h1, rfl⟩
      exact ⟨_, ⟨h1, [], .refl _, List.Pairwise.nil, rfl⟩, Le.refl _⟩
def NewL (p : List Nat → Prop) (H : List Ent) : Value → List Ent → Prop := fun u H' => ∃ a cap l, p l ∧ u = slV a 0 l.length cap ∧ (l ≠ [] → ∃ b, a = some b) ∧ row a 3 1 cap (nats l) :: H = H'
theorem nats_one (l : List Nat) : ∀ u ∈ nats l, u.oneCell' = true := by
  intro u hu; obtain ⟨q, _, rfl⟩ := List.mem_map.1 hu; rfl
theorem cloneL_g {H : List Ent} {l : List Nat} {a sp : Option Nat} {off cap : Nat} (hr : RdS H a off (nats l) sp) (hl : l.length ≤ 1000000) :
    Gives Tryz.prog 32 [slV a off l.length cap sp] H (fun u H' => ∃ a' cap', u = slV a' 0 l.length cap' ∧ (nats l ≠ [] → ∃ b, a' = some b) ∧ row a' 3 1 cap' (nats l) :: H = H') := by
  refine Gives.enter Tryz.func32 rfl (by exact Tryz.ntmps32) rfl ?_
  refine Tri.seq (Tri.region ?_)
  refine TOps.assign rfl rfl ?_
  refine TOps.next ?_
  refine Tri.seq ?_
  refine Tri.seq (Tri.region ?_)
  refine TOps.move rfl rfl ?_
  refine TOps.eqlSlNil rfl Tryz.underlying35 rfl ?_
  refine TOps.next ?_
  refine Tri.cond rfl (fun hc1 => ?_) (fun hc1 => ?_)
  · try simp only [decide_eq_true_eq, decide_eq_false_iff_not, Bool.and_eq_true, Bool.or_eq_true, Bool.not_eq_true', Bool.and_eq_false_iff, Bool.or_eq_false_iff, Bool.not_eq_false', Int.not_lt, Int.not_le, ne_eq, Decidable.not_not, Option.isSome_iff_ne_none, Option.isNone_iff_eq_none] at hc1
    subst hc1
    have hx := RdS.none hr
    obtain rfl : l = [] := by simpa [nats] using hx
    refine Tri.seq (Tri.region ?_)
    refine TOps.assign rfl rfl ?_
    refine TOps.next ?_
    refine Tri.ret1 (H' := _) Tryz.results32 (fun _ _ h => h) (.tmp rfl) Le.addNil ⟨none, 0, rfl, by simp [nats], rfl⟩
  try simp only [decide_eq_true_eq, decide_eq_false_iff_not, Bool.and_eq_true, Bool.or_eq_true, Bool.not_eq_true', Bool.and_eq_false_iff, Bool.or_eq_false_iff, Bool.not_eq_false', Int.not_lt, Int.not_le, ne_eq, Decidable.not_not, Option.isSome_iff_ne_none, Option.isNone_iff_eq_none] at hc1
  refine Tri.fin ?_
  refine Nrm.next ?_
  refine Tri.seq (Tri.region ?_)
  refine TOps.buildSlice0 Tryz.underlying35 ti3 rfl (fun b5 => ?_)
  replace hr := hr.up (e := row (some b5) 3 1 0 [])
  refine TOps.move rfl rfl ?_
  refine TOps.append (ys := nats l) rfl rfl Tryz.underlying35 ti3 rfl (fun _ _ => Upd.here) hr (by simp [nats]) rfl (nats_one l) (by omega) (by omega) rfl (fun a' cap' h0 => ?_)
  refine TOps.assign rfl rfl ?_
  refine TOps.next ?_
  refine Tri.ret1 (H' := _) Tryz.results32 (fun _ _ h => h) (.tmp rfl) (Le.refl _) ⟨a', cap', by rw [Nat.zero_add], h0, rfl⟩
theorem sorted_g {H : List Ent} {oa : Option Nat} {o cap : Nat} {sp : Option Nat} {l : List Nat} (hr : RdS H oa o (nats l) sp) (hb : ∀ x ∈ l, x < 16777216) (hn : l.length ≤ 1000000) :
    Gives Tryz.prog 88 [slV oa o l.length cap sp] H (NewL (fun q => q.Pairwise ltS ∧ (∀ x, x ∈ q ↔ x ∈ l) ∧ q.length ≤ l.length) H) := by
  refine Gives.enter Tryz.func88 rfl (by exact Tryz.ntmps88) rfl ?_
  refine Tri.seq (Tri.region ?_)
  refine TOps.assign rfl rfl ?_
  refine TOps.next ?_
  refine Tri.seq (Tri.region ?_)
  refine TOps.move rfl rfl ?_
  refine TOps.call (vs := [_]) Tryz.call32 ⟨rfl, trivial⟩ (cloneL_g hr hn) rfl ?_
  rintro _ _ ⟨a1, c1, rfl, ha1, rfl⟩
  refine TOps.assign rfl rfl ?_
  refine TOps.next ?_
  refine Tri.seq (Tri.region ?_)
  refine TOps.move rfl rfl ?_
  refine TOps.call (vs := [_, _]) Tryz.call27 ⟨rfl, rfl, trivial⟩ (sortAny_g (fun h => ha1 (ne_nats h)) hb hn) rfl ?_
  rintro _ _ ⟨rfl, l2, hP, hS2, rfl⟩
  rw [← hP.length_eq]
  refine TOps.next ?_
  refine Tri.seq (Tri.region ?_)
  refine TOps.move rfl rfl ?_
  refine TOps.call (vs := [_]) Tryz.call102 ⟨rfl, trivial⟩ (compact_g (l := l2) (fun h => ha1 (ne_nats (fun h2 => h (by rw [h2] at hP; exact hP.eq_nil)))) (by rw [hP.length_eq]; exact hn)) rfl ?_
  rintro _ _ ⟨rfl, rfl⟩
  refine TOps.assign rfl rfl ?_
  refine TOps.next ?_
  refine Tri.ret1 (H' := _) Tryz.results88 (fun _ _ h => h) (.tmp rfl) (Le.refl _) ⟨a1, c1, dd l2, ⟨dd_srt hS2, fun x => (dd_mem l2 x).trans hP.mem_iff, dd_len l2⟩, rfl, fun h => ha1 (ne_nats (fun h2 => h (by rw [h2] at hP; rw [hP.eq_nil]; rfl))), rfl⟩
end Go.Proofs
namespace Go.Proofs
open Go.GL
set_option linter.unusedVariables false
set_option linter.unusedSimpArgs false
theorem validS_g {H : List Ent} {x : Nat} (hx : x < 16777216) : Gives Tryz.prog 34 [natV x] H (R1 (.bool true) H) := by
  refine Gives.enter Tryz.func34 rfl (by exact Tryz.ntmps34) rfl ?_
  refine Tri.seq (Tri.region ?_)
  refine TOps.assign rfl rfl ?_
  refine TOps.next ?_
  refine Tri.seq (Tri.region ?_)
  refine TOps.move rfl rfl ?_
  refine TOps.geq rfl rfl rfl ?_
  refine TOps.move rfl rfl ?_
  refine' TOps.andB 2 rfl rfl rfl rfl (fun hg1_2 => ?_) ?_; rotate_left
  · have hg1_2' := hg1_2
    try simp only [decide_eq_true_eq, decide_eq_false_iff_not, Bool.and_eq_true, Bool.or_eq_true, Bool.not_eq_true', Bool.and_eq_false_iff, Bool.or_eq_false_iff, Bool.not_eq_false', Int.not_lt, Int.not_le, ne_eq, Decidable.not_not] at hg1_2'
    refine TOps.strip 2 true rfl rfl hg1_2 rfl ?_
    refine TOps.move rfl rfl ?_
    refine TOps.leq rfl rfl rfl ?_
    refine TOps.blk rfl (by repeat (first | exact Ext.refl _ | refine Ext.cons rfl ?_)) (by repeat (first | exact Le.refl _ | apply Le.drop))
  refine TOps.assign rfl rfl ?_
  refine TOps.next ?_
  refine Tri.ret1 (H' := H) Tryz.results34 (fun _ _ h => h) (.tmp rfl) (Le.refl _) ⟨?_, rfl⟩
  rw [decide_eq_true (show (0 : Int) ≤ ((x : Nat) : Int) by omega), decide_eq_true (show ((x : Nat) : Int) ≤ 16777215 by omega)]; rfl
theorem subset_g {H : List Ent} {x y : Nat} (hx : x < 16777216) (hy : y < 16777216) : Gives Tryz.prog 90 [natV x, natV y] H (R1 (.bool (subB x y)) H) := by
  refine Gives.enter Tryz.func90 rfl (by exact Tryz.ntmps90) rfl ?_
  refine Tri.seq (Tri.region ?_)
  refine TOps.assign rfl rfl ?_
  refine TOps.next ?_
  refine Tri.seq (Tri.region ?_)
  refine TOps.move rfl rfl ?_
  refine TOps.call (vs := [_]) Tryz.call54 ⟨rfl, trivial⟩ (cut24_g hx) rfl ?_
  rintro _ _ ⟨rfl, rfl⟩
  refine TOps.move rfl rfl ?_
  refine TOps.andNot (r := ((x ^^^ (x &&& y) : Nat) : Int)) rfl rfl (iandn_nat (by omega) (by omega)) rfl ?_
  refine TOps.eqlIr (r := subB x y) rfl rfl (dz _) rfl ?_
  refine TOps.assign rfl rfl ?_
  refine TOps.next ?_
  refine Tri.ret1 (H' := H) Tryz.results90 (fun _ _ h => h) (.tmp rfl) (Le.refl _) ⟨rfl, rfl⟩
theorem minimal1_g {H : List Ent} {x y b : Nat} (hx : x < 16777216) (hy : y < 16777216) (hb : Rd H b 0 [natV y]) : Gives Tryz.prog 89 [natV x, .pointer (some ⟨b, 0, none⟩)] H (R1 (.bool (subB x y)) H) := by
  refine Gives.enter Tryz.func89 rfl (by exact Tryz.ntmps89) rfl ?_
  refine Tri.seq (Tri.region ?_)
  refine TOps.assign rfl rfl ?_
  refine TOps.next ?_
  refine Tri.seq (Tri.region ?_)
  refine TOps.move rfl rfl ?_
  refine TOps.load1 rfl ti3 hb rfl ?_
  refine TOps.call (vs := [_, _]) Tryz.call90 ⟨rfl, rfl, trivial⟩ (subset_g hx hy) rfl ?_
  rintro _ _ ⟨rfl, rfl⟩
  refine TOps.assign rfl rfl ?_
  refine TOps.next ?_
  refine Tri.ret1 (H' := H) Tryz.results89 (fun _ _ h => h) (.tmp rfl) (Le.refl _) ⟨rfl, rfl⟩
theorem meets1_g {H : List Ent} {x y b : Nat} (hx : x < 16777216) (hy : y < 16777216) (hb : Rd H b 0 [natV y]) : Gives Tryz.prog 36 [natV x, .pointer (some ⟨b, 0, none⟩)] H (R1 (.bool (decide (x &&& y = 0))) H) := by
  refine Gives.enter Tryz.func36 rfl (by exact Tryz.ntmps36) rfl ?_
  refine Tri.seq (Tri.region ?_)
  refine TOps.assign rfl rfl ?_
  refine TOps.next ?_
  refine Tri.seq (Tri.region ?_)
  refine TOps.move rfl rfl ?_
  refine TOps.load1 rfl ti3 hb rfl ?_
  refine TOps.and (r := ((x &&& y : Nat) : Int)) rfl rfl (iand_nat (by omega) (by omega)) rfl ?_
  refine TOps.eqlIr (r := decide (x &&& y = 0)) rfl rfl (dz _) rfl ?_
  refine TOps.assign rfl rfl ?_
  refine TOps.next ?_
  refine Tri.ret1 (H' := H) Tryz.results36 (fun _ _ h => h) (.tmp rfl) (Le.refl _) ⟨rfl, rfl⟩
def ixN (l : List Nat) (t : Nat → Bool) : Int := match l.findIdx? t with | some i => (i : Int) | none => -1
theorem ixN_nonneg (l : List Nat) (t : Nat → Bool) : decide (0 ≤ ixN l t) = l.any t := by
  unfold ixN
  cases h : l.findIdx? t with
  | none =>
    rw [List.findIdx?_eq_none_iff] at h
    have : l.any t = false := by rw [List.any_eq_false]; intro x hx; rw [h x hx]; simp
    rw [this]; rfl
  | some i =>
    obtain ⟨hi, hp, _⟩ := List.findIdx?_eq_some_iff_getElem.1 h
    rw [List.any_eq_true.2 ⟨l[i], List.getElem_mem hi, hp⟩]
    show decide ((0:Int) ≤ ((i:Nat):Int)) = true
    exact decide_eq_true (by omega)
theorem ixN_first {l : List Nat} {t : Nat → Bool} {k : Nat} (hk : k < l.length) (h : ∀ j, (hj : j < k) → t l[j] = false) (hp : t l[k] = true) : ixN l t = k := by
  unfold ixN
  rw [List.findIdx?_eq_some_iff_getElem.2 ⟨hk, hp, fun j hj => by rw [h j hj]; simp⟩]
theorem ixN_none {l : List Nat} {t : Nat → Bool} (h : ∀ j, (hj : j < l.length) → t l[j] = false) : ixN l t = -1 := by
  unfold ixN
  rw [List.findIdx?_eq_none_iff.2 (fun x hx => by obtain ⟨j, hj, rfl⟩ := List.getElem_of_mem hx; exact h j hj)]
theorem ixNats_g {H : List Ent} {oa sp : Option Nat} {o : Nat} {l : List Nat} {cc fn : Nat} {caps : List Value} {t : Nat → Bool} (hr : RdS H oa o (nats l) sp) (hc : ∀ (vs : Array Value) (w : World), (callFunc fn vs).run Tryz.prog w = .ok (.enter fn vs) w) (hf : ∀ x ∈ l, Gives Tryz.prog fn (natV x :: caps) H (R1 (.bool (t x)) H)) (hl : l.length ≤ 1000000) :
    Gives Tryz.prog 59 [slV oa o l.length cc sp, .func (.func fn) #[] (List.toArray caps)] H (R1 (.int .i64 (ixN l t)) H) := by
  refine Gives.enter Tryz.func59 rfl (by exact Tryz.ntmps59) rfl ?_
  refine Tri.seq (Tri.region ?_)
  refine TOps.assign rfl rfl ?_
  refine TOps.next ?_
  refine Tri.seq ?_
  refine Tri.seq (Tri.region ?_)
  refine TOps.move rfl rfl ?_
  refine TOps.len rfl Tryz.underlying35 rfl ?_
  refine TOps.move rfl rfl ?_
  refine TOps.next ?_
  refine Tri.range (X := Unit) (fun x k => [(0, slV oa o l.length cc sp), (1, .func (.func fn) #[] (List.toArray caps))]) (fun x k => H) (fun x k => ∀ j, (hj : j < k) → (hj2 : j < l.length) → t l[j] = false) (by omega) rfl rfl rfl (fun _ _ => ⟨rfl, rfl, rfl, rfl⟩) () (fun j hj => absurd hj (Nat.not_lt_zero j)) ⟨rfl, rfl, trivial⟩ (by repeat (first | exact Le.refl _ | assumption | apply Le.drop)) (fun k x hlt hp => ?_) (fun x ac wc hp hS hM => ?_)
  · skip
    obtain ⟨rb, hra, hsp, hrk⟩ := nats_at hr hlt
    refine Tri.seq (Tri.region ?_)
    refine TOps.move rfl rfl ?_
    refine TOps.assign rfl rfl ?_
    refine TOps.next ?_
    refine Tri.seq (Tri.region ?_)
    refine TOps.move rfl rfl ?_
    refine TOps.move rfl rfl ?_
    refine TOps.move rfl rfl ?_
    refine TOps.indexAddr (b := rb) (off := o) (m := l.length) (cap := cc) (off' := o + k) (by rw [hra, hsp]; rfl) rfl Tryz.underlying35 ti3 (by omega) (by omega) (by simp) rfl ?_
    refine TOps.load1 rfl ti3 hrk rfl ?_
    refine TOps.callV (caps := caps) (vs := [_]) rfl hc ⟨rfl, trivial⟩ (hf _ (List.getElem_mem hlt)) rfl ?_
    rintro _ _ ⟨rfl, rfl⟩
    refine TOps.next ?_
    refine Tri.cond rfl (fun hc1 => ?_) (fun hc1 => ?_)
    · try simp only [decide_eq_true_eq, decide_eq_false_iff_not, Bool.and_eq_true, Bool.or_eq_true, Bool.not_eq_true', Bool.and_eq_false_iff, Bool.or_eq_false_iff, Bool.not_eq_false', Int.not_lt, Int.not_le, ne_eq, Decidable.not_not, Option.isSome_iff_ne_none, Option.isNone_iff_eq_none] at hc1
      refine Tri.seq (Tri.region ?_)
      refine TOps.move rfl rfl ?_
      refine TOps.assign rfl rfl ?_
      refine TOps.next ?_
      refine Tri.ret1 (H' := H) Tryz.results59 (fun _ _ h => h) (.tmp rfl) (Le.refl _) ⟨by rw [ixN_first hlt (fun j hj => hp j hj (by omega)) hc1], rfl⟩
    try simp only [decide_eq_true_eq, decide_eq_false_iff_not, Bool.and_eq_true, Bool.or_eq_true, Bool.not_eq_true', Bool.and_eq_false_iff, Bool.or_eq_false_iff, Bool.not_eq_false', Int.not_lt, Int.not_le, ne_eq, Decidable.not_not, Option.isSome_iff_ne_none, Option.isNone_iff_eq_none] at hc1
    refine Tri.fin ?_
    refine Nrm.body () (fun j hj hj2 => by
      rcases Nat.lt_or_ge j k with h | h
      · exact hp j h hj2
      · obtain rfl : j = k := by omega
        simpa using hc1) ⟨rfl, rfl, rfl, rfl, trivial⟩ (by repeat (first | exact Le.refl _ | assumption | apply Le.drop))
  refine Nrm.of hS hM ?_
  refine Nrm.next ?_
  refine Tri.seq (Tri.region ?_)
  refine TOps.assign rfl rfl ?_
  refine TOps.next ?_
  refine Tri.ret1 (H' := H) Tryz.results59 (fun _ _ h => h) (.tmp rfl) (Le.refl _) ⟨by rw [ixN_none (fun j hj => hp j hj hj)], rfl⟩
theorem hasNats_g {H : List Ent} {oa sp : Option Nat} {o : Nat} {l : List Nat} {cc fn : Nat} {caps : List Value} {t : Nat → Bool} (hr : RdS H oa o (nats l) sp) (hc : ∀ (vs : Array Value) (w : World), (callFunc fn vs).run Tryz.prog w = .ok (.enter fn vs) w) (hf : ∀ x ∈ l, Gives Tryz.prog fn (natV x :: caps) H (R1 (.bool (t x)) H)) (hl : l.length ≤ 1000000) :
    Gives Tryz.prog 35 [slV oa o l.length cc sp, .func (.func fn) #[] (List.toArray caps)] H (R1 (.bool (l.any t)) H) := by
  refine Gives.enter Tryz.func35 rfl (by exact Tryz.ntmps35) rfl ?_
  refine Tri.seq (Tri.region ?_)
  refine TOps.assign rfl rfl ?_
  refine TOps.next ?_
  refine Tri.seq (Tri.region ?_)
  refine TOps.move rfl rfl ?_
  refine TOps.move rfl rfl ?_
  refine TOps.call (vs := [_, _]) Tryz.call59 ⟨rfl, rfl, trivial⟩ (ixNats_g hr hc hf hl) rfl ?_
  rintro _ _ ⟨rfl, rfl⟩
  refine TOps.geqr (r := l.any t) rfl rfl (ixN_nonneg l t) rfl ?_
  refine TOps.assign rfl rfl ?_
  refine TOps.next ?_
  refine Tri.ret1 (H' := H) Tryz.results35 (fun _ _ h => h) (.tmp rfl) (Le.refl _) ⟨rfl, rfl⟩
end Go.Proofs
namespace Go.Proofs
open Go.GL
set_option linter.unusedVariables false
set_option linter.unusedSimpArgs false
theorem nats_app (a b : List Nat) : nats (a ++ b) = nats a ++ nats b := by simp [nats]
structure MinOf (l q : List Nat) : Prop where
  can : Go.GL.Can q
  sub : ∀ x ∈ q, x ∈ l
  upw : ∀ s, up q s ↔ up l s
set_option maxHeartbeats 1000000 in
theorem minimal_g {H : List Ent} {oa : Option Nat} {o cap : Nat} {sp : Option Nat} {l : List Nat} (hr : RdS H oa o (nats l) sp) (hb : ∀ x ∈ l, x < 16777216) (hn : l.length ≤ 1000000) :
    Gives Tryz.prog 61 [slV oa o l.length cap sp] H (NewL (MinOf l) H) := by
  refine Gives.enter Tryz.func61 rfl (by exact Tryz.ntmps61) rfl ?_
  refine Tri.seq (Tri.region ?_)
  refine TOps.assign rfl rfl ?_
  refine TOps.next ?_
  refine Tri.seq (Tri.region ?_)
  refine TOps.assign rfl rfl ?_
  refine TOps.next ?_
  refine Tri.seq ?_
  refine Tri.seq (Tri.region ?_)
  refine TOps.move rfl rfl ?_
  refine TOps.call (vs := [_]) Tryz.call88 ⟨rfl, trivial⟩ (sorted_g hr hb hn) rfl ?_
  rintro _ _ ⟨a1, c1, l2, ⟨h1, h2, h3⟩, rfl, ha1, rfl⟩
  have hb2 : ∀ x ∈ l2, x < 16777216 := fun x hx => hb x ((h2 x).1 hx)
  refine TOps.len rfl Tryz.underlying35 rfl ?_
  refine TOps.move rfl rfl ?_
  refine TOps.next ?_
  refine Tri.range (X := Option Nat × Nat) (fun x k => [(3, slV x.1 0 (keepN (l2.take k)).length x.2), (7, slV a1 0 l2.length c1)]) (fun x k => row x.1 3 1 x.2 (nats (keepN (l2.take (k)))) :: row a1 3 1 c1 (nats l2) :: H) (fun x k => (keepN (l2.take k) ≠ [] → ∃ b, x.1 = some b)) (by omega) rfl rfl rfl (fun _ _ => ⟨rfl, rfl, rfl, rfl⟩) (none, 0) (fun h => absurd rfl h) ⟨rfl, rfl, trivial⟩ Le.addNil (fun k x hlt hp => ?_) (fun x ac wc hp hS hM => ?_)
  · skip
    obtain ⟨oo, oc⟩ := x
    dsimp only at hp ⊢
    obtain ⟨b1, rfl⟩ := ha1 (by intro h; rw [h] at hlt; exact absurd hlt (Nat.not_lt_zero k))
    have hrk : Rd (row oo 3 1 oc (nats (keepN (l2.take (k)))) :: row (some b1) 3 1 c1 (nats l2) :: H) b1 (0 + k) [natV l2[k]] := Rd.part (Rd.all (List.Mem.tail _ (List.Mem.head _))) k (by simp [nats, hlt])
    have hkeep := keepN_kept (l2.take k)
    have hbo : ∀ x ∈ keepN (l2.take k), x < 16777216 := fun x hx => hb2 x (List.mem_of_mem_take (hkeep.ord.subset hx))
    have hlo : (keepN (l2.take k)).length ≤ 1000000 := by have := hkeep.ord.length_le; rw [List.length_take] at this; omega
    have hbk := hb2 _ (List.getElem_mem hlt)
    refine Tri.seq (Tri.region ?_)
    refine TOps.indexAddr (b := b1) (off := 0) (m := l2.length) (cap := c1) (off' := 0 + k) rfl rfl Tryz.underlying35 ti3 (by omega) (by omega) (by simp) rfl ?_
    refine TOps.load1 rfl ti3 hrk rfl ?_
    refine TOps.alloc ti3 rfl (fun b5 => ?_)
    refine TOps.store1 rfl rfl ti3 rfl rfl (by repeat (first | exact Upd.here | apply Upd.there)) (by first | decide | (simp; done) | (simp; omega)) ?_
    refine TOps.le (H' := row (some b5) 3 1 1 [natV l2[k]] :: row oo 3 1 oc (nats (keepN (l2.take (k)))) :: row (some b1) 3 1 c1 (nats l2) :: H) (Sp.le (by repeat (first | exact Sp.refl _ | exact Sp.sub (by assumption) | refine Sp.cons (by repeat (first | exact Pick.here | apply Pick.there)) ?_ | exact Sp.nil | apply Sp.skip))) ?_
    refine TOps.next ?_
    refine Tri.seq (Tri.region ?_)
    refine TOps.move rfl rfl ?_
    refine TOps.makeFunc (vs := [_]) ⟨rfl, trivial⟩ rfl ?_
    refine TOps.call (vs := [_, _]) Tryz.call35 ⟨rfl, rfl, trivial⟩ (hasNats_g (t := fun x => subB x l2[k]) (RdS.ofRowA (List.Mem.tail _ (List.Mem.head _)) (fun h => hp (nats_ne h))) Tryz.call89 (fun x hx => minimal1_g (hbo x hx) hbk (Rd.all (List.Mem.head _))) hlo) rfl ?_
    rintro _ _ ⟨rfl, rfl⟩
    refine TOps.not rfl rfl ?_
    refine TOps.next ?_
    refine Tri.cond rfl (fun hc1 => ?_) (fun hc1 => ?_)
    · try simp only [decide_eq_true_eq, decide_eq_false_iff_not, Bool.and_eq_true, Bool.or_eq_true, Bool.not_eq_true', Bool.and_eq_false_iff, Bool.or_eq_false_iff, Bool.not_eq_false', Int.not_lt, Int.not_le, ne_eq, Decidable.not_not, Option.isSome_iff_ne_none, Option.isNone_iff_eq_none] at hc1
      refine Tri.region ?_
      refine TOps.move rfl rfl ?_
      refine TOps.load1 rfl ti3 (Rd.all (List.Mem.head _)) rfl ?_
      refine TOps.buildSlice (vs := [_]) (xs := [_]) Tryz.underlying35 ti3 ⟨rfl, rfl, trivial⟩ rfl rfl rfl rfl rfl rfl (by decide) rfl (fun b19 => ?_)
      refine TOps.appendLit rfl rfl Tryz.underlying35 ti3 rfl (fun _ _ => (by repeat (first | exact Upd.here | apply Upd.there))) rfl (by simp [nats]) rfl (by omega) (by omega) (by simp) rfl (fun b15 c15 => ?_)
      have e1 : keepN (l2.take (k + 1)) = keepN (l2.take k) ++ [l2[k]] := by rw [keepN_succ hlt]; unfold keepN1; rw [hc1]; rfl
      have e3 : nats (keepN (l2.take (k + 1))) = nats (keepN (l2.take k)) ++ [natV l2[k]] := by rw [e1, nats_app]; rfl
      rw [show (keepN (l2.take k)).length + 1 = (keepN (l2.take (k + 1))).length by rw [e1]; simp]
      refine TOps.le (H' := row (some b15) 3 1 c15 (nats (keepN (l2.take ((k + 1))))) :: row (some b1) 3 1 c1 (nats l2) :: H) (by rw [e3]; exact (Sp.le (by repeat (first | exact Sp.refl _ | exact Sp.sub (by assumption) | refine Sp.cons (by repeat (first | exact Pick.here | apply Pick.there)) ?_ | exact Sp.nil | apply Sp.skip)))) ?_
      refine TOps.assign rfl rfl ?_
      refine TOps.fin ?_
      first
       | refine Nrm.body (some b15, c15) (fun _ => ⟨b15, rfl⟩) ⟨rfl, rfl, rfl, rfl, trivial⟩ (by repeat (first | exact Le.refl _ | assumption | apply Le.drop))
       | refine Nrm.body (oo, oc) hp ⟨rfl, rfl, rfl, rfl, trivial⟩ (by repeat (first | exact Le.refl _ | assumption | apply Le.drop))
    try simp only [decide_eq_true_eq, decide_eq_false_iff_not, Bool.and_eq_true, Bool.or_eq_true, Bool.not_eq_true', Bool.and_eq_false_iff, Bool.or_eq_false_iff, Bool.not_eq_false', Int.not_lt, Int.not_le, ne_eq, Decidable.not_not, Option.isSome_iff_ne_none, Option.isNone_iff_eq_none] at hc1
    have e2 : keepN (l2.take (k + 1)) = keepN (l2.take k) := by rw [keepN_succ hlt]; unfold keepN1; rw [hc1]; rfl
    rw [← e2] at hp ⊢
    refine Tri.fin ?_
    first
     | refine Nrm.body (some b15, c15) (fun _ => ⟨b15, rfl⟩) ⟨rfl, rfl, rfl, rfl, trivial⟩ (by repeat (first | exact Le.refl _ | assumption | apply Le.drop))
     | refine Nrm.body (oo, oc) hp ⟨rfl, rfl, rfl, rfl, trivial⟩ (by repeat (first | exact Le.refl _ | assumption | apply Le.drop))
  simp only [List.take_length] at hS hM hp
  refine Nrm.of hS hM ?_
  refine Nrm.next ?_
  refine Tri.seq (Tri.region ?_)
  refine TOps.move rfl rfl ?_
  refine TOps.assign rfl rfl ?_
  refine TOps.next ?_
  refine Tri.ret1 (H' := row x.1 3 1 x.2 (nats (keepN l2)) :: H) Tryz.results61 (fun _ _ h => h) (.tmp rfl) (Sp.le (by repeat (first | exact Sp.refl _ | exact Sp.sub (by assumption) | refine Sp.cons (by repeat (first | exact Pick.here | apply Pick.there)) ?_ | exact Sp.nil | apply Sp.skip))) ⟨x.1, x.2, keepN l2, ?_, rfl, hp, rfl⟩
  obtain ⟨k1, k2, k3⟩ := keepN_can hb2 h1
  exact ⟨k1, fun x hx => (h2 x).1 (k2 x hx), fun s => (k3 s).trans (up_congr h2 s)⟩
theorem sized_g {H : List Ent} {v : Value} {oa : Option Nat} {n cap : Nat} (hn : n ≤ 1024) :
    Gives Tryz.prog 91 [slV oa 0 n cap] H (R1 (.tuple (List.toArray [slV oa 0 n cap, errV 57 none])) H) := by
  refine Gives.enter Tryz.func91 rfl (by exact Tryz.ntmps91) rfl ?_
  refine Tri.seq (Tri.region ?_)
  refine TOps.assign rfl rfl ?_
  refine TOps.assign rfl rfl ?_
  refine TOps.next ?_
  refine Tri.seq ?_
  refine Tri.seq (Tri.region ?_)
  refine TOps.move rfl rfl ?_
  refine TOps.len rfl Tryz.underlying35 rfl ?_
  refine TOps.gtr rfl rfl rfl ?_
  refine TOps.next ?_
  refine Tri.cond rfl (fun hc1 => ?_) (fun hc1 => ?_)
  · try simp only [decide_eq_true_eq, decide_eq_false_iff_not, Bool.and_eq_true, Bool.or_eq_true, Bool.not_eq_true', Bool.and_eq_false_iff, Bool.or_eq_false_iff, Bool.not_eq_false', Int.not_lt, Int.not_le, ne_eq, Decidable.not_not, Option.isSome_iff_ne_none, Option.isNone_iff_eq_none] at hc1
    exact absurd hc1 (by simp; omega)
  try simp only [decide_eq_true_eq, decide_eq_false_iff_not, Bool.and_eq_true, Bool.or_eq_true, Bool.not_eq_true', Bool.and_eq_false_iff, Bool.or_eq_false_iff, Bool.not_eq_false', Int.not_lt, Int.not_le, ne_eq, Decidable.not_not, Option.isSome_iff_ne_none, Option.isNone_iff_eq_none] at hc1
  refine Tri.fin ?_
  refine Nrm.next ?_
  refine Tri.seq (Tri.region ?_)
  refine TOps.move rfl rfl ?_
  refine TOps.assign rfl rfl ?_
  refine TOps.assign rfl rfl ?_
  refine TOps.next ?_
  refine Tri.ret2 (H' := H) Tryz.results91 (fun _ _ h => h) (.tmp rfl) (.tmp rfl) (Le.refl _) ⟨rfl, rfl⟩
def sls (L : List (Option Nat × Nat × List Nat)) : List Value := L.map fun q => slV q.1 0 q.2.2.length q.2.1
theorem sls_at {H : List Ent} {b off : Nat} {L : List (Option Nat × Nat × List Nat)} (h : Rd H b off (sls L)) {k : Nat} (hk : k < L.length) : Rd H b (off + k) [slV L[k].1 0 L[k].2.2.length L[k].2.1] :=
  Rd.part h k (by simp [sls, hk])
structure LOk (H : List Ent) (q : Option Nat × Nat × List Nat) : Prop where
  rd : RdS H q.1 0 (nats q.2.2)
  lt : ∀ x ∈ q.2.2, x < 16777216
  len : q.2.2.length ≤ 1024
theorem LOk.le {H H' : List Ent} {q : Option Nat × Nat × List Nat} (h : LOk H q) (hl : Le H' H) : LOk H' q := ⟨h.rd.le hl, h.lt, h.len⟩
theorem lists_g {H : List Ent} {b cc : Nat} {L : List (Option Nat × Nat × List Nat)} (hr : Rd H b 0 (sls L)) (hL : ∀ q ∈ L, LOk H q) (hl : L.length ≤ 1000000) :
    Gives Tryz.prog 33 [slV (some b) 0 L.length cc] H (R1 (errV 57 none) H) := by
  refine Gives.enter Tryz.func33 rfl (by exact Tryz.ntmps33) rfl ?_
  refine Tri.seq (Tri.region ?_)
  refine TOps.assign rfl rfl ?_
  refine TOps.next ?_
  refine Tri.seq ?_
  refine Tri.seq (Tri.region ?_)
  refine TOps.move rfl rfl ?_
  refine TOps.len rfl Tryz.underlying69 rfl ?_
  refine TOps.move rfl rfl ?_
  refine TOps.next ?_
  refine Tri.range (X := Unit) (fun x k => [(7, slV (some b) 0 L.length cc)]) (fun x k => H) (fun x k => True) (by omega) rfl rfl rfl (fun _ _ => ⟨rfl, rfl, rfl, rfl⟩) () trivial ⟨rfl, trivial⟩ (by repeat (first | exact Le.refl _ | assumption | apply Le.drop)) (fun k x hlt hp => ?_) (fun x ac wc hp hS hM => ?_)
  · skip
    have hrk := sls_at hr hlt
    have hq := hL _ (List.getElem_mem hlt)
    have hql := hq.len
    refine Tri.seq (Tri.region ?_)
    refine TOps.indexAddr (b := b) (off := 0) (m := L.length) (cap := cc) (off' := 0 + k) rfl rfl Tryz.underlying69 ti35 (by omega) (by omega) (by simp) rfl ?_
    refine TOps.load1 rfl ti35 hrk rfl ?_
    refine TOps.assign rfl rfl ?_
    refine TOps.next ?_
    refine Tri.seq ?_
    refine Tri.seq (Tri.region ?_)
    refine TOps.move rfl rfl ?_
    refine TOps.len rfl Tryz.underlying35 rfl ?_
    refine TOps.gtr rfl rfl rfl ?_
    refine TOps.next ?_
    refine Tri.cond rfl (fun hc1 => ?_) (fun hc1 => ?_)
    · try simp only [decide_eq_true_eq, decide_eq_false_iff_not, Bool.and_eq_true, Bool.or_eq_true, Bool.not_eq_true', Bool.and_eq_false_iff, Bool.or_eq_false_iff, Bool.not_eq_false', Int.not_lt, Int.not_le, ne_eq, Decidable.not_not, Option.isSome_iff_ne_none, Option.isNone_iff_eq_none] at hc1
      exact absurd hc1 (by simp; omega)
    try simp only [decide_eq_true_eq, decide_eq_false_iff_not, Bool.and_eq_true, Bool.or_eq_true, Bool.not_eq_true', Bool.and_eq_false_iff, Bool.or_eq_false_iff, Bool.not_eq_false', Int.not_lt, Int.not_le, ne_eq, Decidable.not_not, Option.isSome_iff_ne_none, Option.isNone_iff_eq_none] at hc1
    refine Tri.fin ?_
    refine Nrm.next ?_
    refine Tri.seq (Tri.region ?_)
    refine TOps.move rfl rfl ?_
    refine TOps.len rfl Tryz.underlying35 rfl ?_
    refine TOps.move rfl rfl ?_
    refine TOps.next ?_
    refine Tri.range (X := Unit) (fun x j => [(7, slV (some b) 0 L.length cc), (8, natV L.length), (9, natV k), (17, slV L[k].1 0 L[k].2.2.length L[k].2.1)]) (fun x j => H) (fun x j => True) (by omega) rfl rfl rfl (fun _ _ => ⟨rfl, rfl, rfl, rfl⟩) () trivial ⟨rfl, rfl, rfl, rfl, trivial⟩ (by repeat (first | exact Le.refl _ | assumption | apply Le.drop)) (fun j x hltj hpj => ?_) (fun x ac wc hpj hS hM => ?_)
    · skip
      obtain ⟨rb, hra, hsp, hrj⟩ := nats_at hq.rd hltj
      have hvj := hq.lt _ (List.getElem_mem hltj)
      refine Tri.seq (Tri.region ?_)
      refine TOps.indexAddr (b := rb) (off := 0) (m := L[k].2.2.length) (cap := L[k].2.1) (off' := 0 + j) (by rw [hra]; rfl) rfl Tryz.underlying35 ti3 (by omega) (by omega) (by simp) rfl ?_
      refine TOps.load1 rfl ti3 hrj rfl ?_
      refine TOps.assign rfl rfl ?_
      refine TOps.next ?_
      refine Tri.seq (Tri.region ?_)
      refine TOps.move rfl rfl ?_
      refine TOps.call (vs := [_]) Tryz.call34 ⟨rfl, trivial⟩ (validS_g hvj) rfl ?_
      rintro _ _ ⟨rfl, rfl⟩
      refine TOps.not rfl rfl ?_
      refine TOps.next ?_
      refine Tri.cond rfl (fun hc2 => ?_) (fun hc2 => ?_)
      · exact absurd hc2 (by first | decide | simp)
      try simp only [decide_eq_true_eq, decide_eq_false_iff_not, Bool.and_eq_true, Bool.or_eq_true, Bool.not_eq_true', Bool.and_eq_false_iff, Bool.or_eq_false_iff, Bool.not_eq_false', Int.not_lt, Int.not_le, ne_eq, Decidable.not_not, Option.isSome_iff_ne_none, Option.isNone_iff_eq_none] at hc2
      refine Tri.fin ?_
      refine Nrm.body () trivial ⟨rfl, rfl, rfl, rfl, rfl, rfl, trivial⟩ (by repeat (first | exact Le.refl _ | assumption | apply Le.drop))
    refine Nrm.of hS hM ?_
    refine Nrm.body () trivial ⟨rfl, rfl, rfl, trivial⟩ (by repeat (first | exact Le.refl _ | assumption | apply Le.drop))
  refine Nrm.of hS hM ?_
  refine Nrm.next ?_
  refine Tri.seq (Tri.region ?_)
  refine TOps.assign rfl rfl ?_
  refine TOps.next ?_
  refine Tri.ret1 (H' := H) Tryz.results33 (fun _ _ h => h) (.tmp rfl) (Le.refl _) ⟨rfl, rfl⟩
end Go.Proofs
namespace Go.Proofs
open Go.GL
set_option linter.unusedVariables false
set_option linter.unusedSimpArgs false
theorem keyNat : KeyT Tryz.prog 3 natV ok63 := KeyT.nat Tryz.underlying3
theorem zeroBool (w : World) : (zeroValue 4).run Tryz.prog w = .ok (.bool false) w := zeroAny (by kernel_rfl) w
theorem grow_g {H : List Ent} {k : Nat} (hk : k ≤ 1000000) : Gives Tryz.prog 106 [slV none 0 0 0, natV k] H (fun u H' => ∃ a cap, u = slV a 0 0 cap ∧ row a 3 1 cap [] :: H = H') := by
  refine Gives.enter Tryz.func106 rfl (by exact Tryz.ntmps106) rfl ?_
  refine Tri.seq (Tri.region ?_)
  refine TOps.assign rfl rfl ?_
  refine TOps.next ?_
  refine Tri.seq ?_
  refine Tri.seq (Tri.region ?_)
  refine TOps.move rfl rfl ?_
  refine TOps.lss rfl rfl rfl ?_
  refine TOps.next ?_
  refine Tri.cond rfl (fun hc1 => ?_) (fun hc1 => ?_)
  · exact absurd hc1 (by first | decide | simp)
  try simp only [decide_eq_true_eq, decide_eq_false_iff_not, Bool.and_eq_true, Bool.or_eq_true, Bool.not_eq_true', Bool.and_eq_false_iff, Bool.or_eq_false_iff, Bool.not_eq_false', Int.not_lt, Int.not_le, ne_eq, Decidable.not_not, Option.isSome_iff_ne_none, Option.isNone_iff_eq_none] at hc1
  refine Tri.fin ?_
  refine Nrm.next ?_
  refine Tri.seq ?_
  refine Tri.seq (Tri.region ?_)
  refine TOps.move rfl rfl ?_
  refine TOps.move rfl rfl ?_
  refine TOps.cap rfl Tryz.underlying35 rfl ?_
  refine TOps.move rfl rfl ?_
  refine TOps.len rfl Tryz.underlying35 rfl ?_
  refine TOps.sub (r := ((0 : Nat) : Int)) rfl rfl (by rw [wrapI (by omega) (by omega)]; omega) rfl ?_
  refine TOps.sub (r := (k : Int)) rfl rfl (by rw [wrapI (by omega) (by omega)]; omega) rfl ?_
  refine TOps.assign rfl rfl ?_
  refine TOps.next ?_
  refine Tri.seq (Tri.region ?_)
  refine TOps.move rfl rfl ?_
  refine TOps.gtr rfl rfl rfl ?_
  refine TOps.next ?_
  refine Tri.cond rfl (fun hc2 => ?_) (fun hc2 => ?_)
  · try simp only [decide_eq_true_eq, decide_eq_false_iff_not, Bool.and_eq_true, Bool.or_eq_true, Bool.not_eq_true', Bool.and_eq_false_iff, Bool.or_eq_false_iff, Bool.not_eq_false', Int.not_lt, Int.not_le, ne_eq, Decidable.not_not, Option.isSome_iff_ne_none, Option.isNone_iff_eq_none] at hc2
    refine Tri.region ?_
    refine TOps.move rfl rfl ?_
    refine TOps.move rfl rfl ?_
    refine TOps.cap rfl Tryz.underlying35 rfl ?_
    refine TOps.sliceHi (u := 0) rfl rfl Tryz.underlying35 ti3 (by omega) rfl ?_
    refine TOps.move rfl rfl ?_
    refine TOps.appendZeros (k := k) rfl rfl (by omega) Tryz.underlying35 Tryz.underlying3 ti3 (by omega) (by omega) rfl (fun b22 c22 => ?_)
    refine TOps.move rfl rfl ?_
    refine TOps.len rfl Tryz.underlying35 rfl ?_
    refine TOps.sliceHi (u := 0) rfl rfl Tryz.underlying35 ti3 (by omega) rfl ?_
    refine TOps.assign rfl rfl ?_
    refine TOps.fin ?_
    refine Nrm.next ?_
    refine Tri.seq (Tri.region ?_)
    refine TOps.move rfl rfl ?_
    refine TOps.assign rfl rfl ?_
    refine TOps.next ?_
    refine Tri.ret1 (H' := row (some b22) 3 1 c22 [] :: H) Tryz.results106 (fun _ _ h => h) (.tmp rfl) (Le.refl _) ⟨_, _, rfl, rfl⟩
  try simp only [decide_eq_true_eq, decide_eq_false_iff_not, Bool.and_eq_true, Bool.or_eq_true, Bool.not_eq_true', Bool.and_eq_false_iff, Bool.or_eq_false_iff, Bool.not_eq_false', Int.not_lt, Int.not_le, ne_eq, Decidable.not_not, Option.isSome_iff_ne_none, Option.isNone_iff_eq_none] at hc2
  refine Tri.fin ?_
  refine Nrm.next ?_
  refine Tri.seq (Tri.region ?_)
  refine TOps.move rfl rfl ?_
  refine TOps.assign rfl rfl ?_
  refine TOps.next ?_
  refine Tri.ret1 (H' := row none 3 1 0 [] :: H) Tryz.results106 (fun _ _ h => h) (.tmp rfl) Le.addNil ⟨_, _, rfl, rfl⟩
def flatS (L : List (Option Nat × Nat × List Nat)) : List Nat := L.flatMap fun q => q.2.2
theorem flatS_succ {L : List (Option Nat × Nat × List Nat)} {k : Nat} (hk : k < L.length) : flatS (L.take (k + 1)) = flatS (L.take k) ++ L[k].2.2 := by
  unfold flatS; rw [List.take_succ_eq_append_getElem hk, List.flatMap_append, List.flatMap_cons, List.flatMap_nil, List.append_nil]
theorem flatS_len {L : List (Option Nat × Nat × List Nat)} (h : ∀ q ∈ L, q.2.2.length ≤ 1024) (k : Nat) : (flatS (L.take k)).length ≤ k * 1024 := by
  induction k with
  | zero => simp [flatS]
  | succ k ih =>
    rcases Nat.lt_or_ge k L.length with hk | hk
    · rw [flatS_succ hk, List.length_append]
      have := h _ (List.getElem_mem hk)
      omega
    · have e : L.take (k + 1) = L.take k := by rw [List.take_of_length_le (show L.length ≤ k + 1 by omega), List.take_of_length_le hk]
      exact Nat.le_trans (Nat.le_of_eq (congrArg (fun q => (flatS q).length) e)) (Nat.le_trans ih (by omega))
set_option maxHeartbeats 1000000 in
theorem concat_g {H : List Ent} {b cc : Nat} {L : List (Option Nat × Nat × List Nat)} (hr : Rd H b 0 (sls L)) (hL : ∀ q ∈ L, LOk H q) (hl : L.length ≤ 100) :
    Gives Tryz.prog 101 [slV (some b) 0 L.length cc] H (NewL (fun q => q = flatS L) H) := by
  have hll : ∀ k, (flatS (L.take k)).length ≤ k * 1024 := flatS_len fun q hq => (hL q hq).len
  refine Gives.enter Tryz.func101 rfl (by exact Tryz.ntmps101) rfl ?_
  refine Tri.seq (Tri.region ?_)
  refine TOps.assign rfl rfl ?_
  refine TOps.next ?_
  refine Tri.seq (Tri.region ?_)
  refine TOps.assign rfl rfl ?_
  refine TOps.next ?_
  refine Tri.seq ?_
  refine Tri.seq (Tri.region ?_)
  refine TOps.move rfl rfl ?_
  refine TOps.len rfl Tryz.underlying69 rfl ?_
  refine TOps.move rfl rfl ?_
  refine TOps.next ?_
  refine Tri.range (X := Unit) (fun x k => [(0, slV (some b) 0 L.length cc), (3, natV (flatS (L.take k)).length), (9, slV (some b) 0 L.length cc)]) (fun x k => H) (fun x k => True) (by omega) rfl rfl rfl (fun _ _ => ⟨rfl, rfl, rfl, rfl⟩) () trivial ⟨rfl, rfl, rfl, trivial⟩ (by repeat (first | exact Le.refl _ | assumption | apply Le.drop)) (fun k x hlt hp => ?_) (fun x ac wc hp hS hM => ?_)
  · skip
    have hrk := sls_at hr hlt
    have h1 := hll k
    have h2 := (hL _ (List.getElem_mem hlt)).len
    refine Tri.seq (Tri.region ?_)
    refine TOps.indexAddr (b := b) (off := 0) (m := L.length) (cap := cc) (off' := 0 + k) rfl rfl Tryz.underlying69 ti35 (by omega) (by omega) (by simp) rfl ?_
    refine TOps.load1 rfl ti35 hrk rfl ?_
    refine TOps.assign rfl rfl ?_
    refine TOps.next ?_
    refine Tri.seq (Tri.region ?_)
    refine TOps.move rfl rfl ?_
    refine TOps.move rfl rfl ?_
    refine TOps.len rfl Tryz.underlying35 rfl ?_
    refine TOps.add (r := ((flatS (L.take (k + 1))).length : Int)) rfl rfl (by rw [wrapI (by omega) (by omega), flatS_succ hlt, List.length_append]; omega) rfl ?_
    refine TOps.assign rfl rfl ?_
    refine TOps.next ?_
    refine Tri.seq (Tri.region ?_)
    refine TOps.move rfl rfl ?_
    refine TOps.lss rfl rfl rfl ?_
    refine TOps.next ?_
    refine Tri.cond rfl (fun hc1 => ?_) (fun hc1 => ?_)
    · exact absurd hc1 (by first | decide | simp)
    try simp only [decide_eq_true_eq, decide_eq_false_iff_not, Bool.and_eq_true, Bool.or_eq_true, Bool.not_eq_true', Bool.and_eq_false_iff, Bool.or_eq_false_iff, Bool.not_eq_false', Int.not_lt, Int.not_le, ne_eq, Decidable.not_not, Option.isSome_iff_ne_none, Option.isNone_iff_eq_none] at hc1
    refine Tri.fin ?_
    refine Nrm.body () trivial ⟨rfl, rfl, rfl, rfl, rfl, trivial⟩ (by repeat (first | exact Le.refl _ | assumption | apply Le.drop))
  simp only [List.take_length] at hS hM hp
  have h0 := hll L.length
  rw [List.take_length] at h0
  refine Nrm.of hS hM ?_
  refine Nrm.next ?_
  refine Tri.seq (Tri.region ?_)
  refine TOps.move rfl rfl ?_
  refine TOps.call (vs := [_, _]) Tryz.call106 ⟨rfl, rfl, trivial⟩ (grow_g (k := (flatS L).length) (by omega)) rfl ?_
  rintro _ _ ⟨ga, gc, rfl, rfl⟩
  refine TOps.assign rfl rfl ?_
  refine TOps.next ?_
  refine Tri.seq ?_
  refine Tri.seq (Tri.region ?_)
  refine TOps.move rfl rfl ?_
  refine TOps.len rfl Tryz.underlying69 rfl ?_
  refine TOps.move rfl rfl ?_
  refine TOps.next ?_
  refine Tri.range (X := Option Nat × Nat) (fun x k => [(6, slV x.1 0 (flatS (L.take k)).length x.2), (25, slV (some b) 0 L.length cc)]) (fun x k => row x.1 3 1 x.2 (nats (flatS (L.take k))) :: H) (fun x k => True) (by omega) rfl rfl rfl (fun _ _ => ⟨rfl, rfl, rfl, rfl⟩) (ga, gc) trivial ⟨rfl, rfl, trivial⟩ (by repeat (first | exact Le.refl _ | assumption | apply Le.drop)) (fun k x hlt hp => ?_) (fun x ac wc hp hS hM => ?_)
  · skip
    obtain ⟨xa, xc⟩ := x
    dsimp only
    have hrk := sls_at hr hlt
    have h1 := hll k
    have hq := hL _ (List.getElem_mem hlt)
    have h2 := hq.len
    refine Tri.seq (Tri.region ?_)
    refine TOps.indexAddr (b := b) (off := 0) (m := L.length) (cap := cc) (off' := 0 + k) rfl rfl Tryz.underlying69 ti35 (by omega) (by omega) (by simp) rfl ?_
    refine TOps.load1 rfl ti35 hrk.up rfl ?_
    refine TOps.assign rfl rfl ?_
    refine TOps.next ?_
    refine Tri.region ?_
    refine TOps.move rfl rfl ?_
    refine TOps.move rfl rfl ?_
    refine TOps.append (ys := nats L[k].2.2) rfl rfl Tryz.underlying35 ti3 rfl (fun _ _ => Upd.here) hq.rd.up (by simp [nats]) (by simp [nats]) (nats_one _) (by omega) (by omega) rfl (fun a' cap' h0 => ?_)
    rw [← nats_app, ← flatS_succ hlt, show (flatS (L.take k)).length + L[k].2.2.length = (flatS (L.take (k + 1))).length by rw [flatS_succ hlt, List.length_append]]
    refine TOps.assign rfl rfl ?_
    refine TOps.fin ?_
    refine Nrm.body (a', cap') trivial ⟨rfl, rfl, rfl, rfl, trivial⟩ (by repeat (first | exact Le.refl _ | assumption | apply Le.drop))
  simp only [List.take_length] at hS hM hp
  refine Nrm.of hS hM ?_
  refine Nrm.next ?_
  refine Tri.seq (Tri.region ?_)
  refine TOps.move rfl rfl ?_
  refine TOps.assign rfl rfl ?_
  refine TOps.next ?_
  refine Tri.mem (pr := flatS L ≠ [] → ∃ b, x.1 = some b) (fun w hM h => row_some (List.Mem.head _) hM (ne_nats h)) (fun hsome => ?_)
  refine Tri.ret1 (H' := row x.1 3 1 x.2 (nats (flatS L)) :: H) Tryz.results101 (fun _ _ h => h) (.tmp rfl) (Le.refl _) ⟨x.1, x.2, flatS L, rfl, rfl, hsome, rfl⟩
def NewT (p : List Nat → Prop) (H : List Ent) : Value → List Ent → Prop := fun u H' => ∃ a cap l, p l ∧ u = .tuple (List.toArray [slV a 0 l.length cap, errV 57 none]) ∧ (l ≠ [] → ∃ b, a = some b) ∧ row a 3 1 cap (nats l) :: H = H'
structure SOk (H : List Ent) (a : Option Nat) (l : List Nat) : Prop where
  rd : RdS H a 0 (nats l)
  lt : ∀ x ∈ l, x < 256
  len : l.length ≤ 1024
theorem SOk.le {H H' : List Ent} {a : Option Nat} {l : List Nat} (h : SOk H a l) (hl : Le H' H) : SOk H' a l := ⟨h.rd.le hl, h.lt, h.len⟩
theorem SOk.b {H : List Ent} {a : Option Nat} {l : List Nat} (h : SOk H a l) : ∀ x ∈ l, x < 16777216 := fun x hx => by have := h.lt x hx; omega
theorem SOk.l {H : List Ent} {a : Option Nat} {l : List Nat} {c : Nat} (h : SOk H a l) : LOk H (a, c, l) := ⟨h.rd, h.b, h.len⟩
theorem MinOf.fam {l q : List Nat} (h : MinOf l q) (hl : ∀ x ∈ l, x < 256) : Fam q (fun s => up l s) := ⟨h.can, fun x hx => hl x (h.sub x hx), h.upw⟩
theorem up_flat2 {a b : Option Nat × Nat × List Nat} (s : Nat) : up (flatS [a, b]) s ↔ up a.2.2 s ∨ up b.2.2 s := by
  rw [show flatS [a, b] = a.2.2 ++ b.2.2 by simp [flatS], up_append]
theorem plus_g {H : List Ent} {a b : Option Nat} {ca cb : Nat} {l m : List Nat} (ha : SOk H a l) (hb : SOk H b m) :
    Gives Tryz.prog 87 [slV a 0 l.length ca, slV b 0 m.length cb] H (NewT (fun q => Fam q (fun s => up l s ∨ up m s)) H) := by
  have hL : ∀ q ∈ [(a, ca, l), (b, cb, m)], LOk H q := by
    intro q hq
    rcases List.mem_cons.1 hq with rfl | hq
    · exact ha.l
    · rw [List.mem_singleton] at hq; subst hq; exact hb.l
  have hl1 := ha.len
  have hl2 := hb.len
  have hlt : ∀ x ∈ flatS [(a, ca, l), (b, cb, m)], x < 256 := by
    intro x hx
    rw [show flatS [(a, ca, l), (b, cb, m)] = l ++ m by simp [flatS]] at hx
    exact (List.mem_append.1 hx).elim (ha.lt x) (hb.lt x)
  refine Gives.enter Tryz.func87 rfl (by exact Tryz.ntmps87) rfl ?_
  refine Tri.seq (Tri.region ?_)
  refine TOps.assign rfl rfl ?_
  refine TOps.assign rfl rfl ?_
  refine TOps.next ?_
  refine Tri.seq ?_
  refine Tri.seq (Tri.region ?_)
  refine TOps.move rfl rfl ?_
  refine TOps.move rfl rfl ?_
  refine TOps.buildSlice (vs := [_, _]) (xs := [_, _]) Tryz.underlying69 ti35 ⟨rfl, rfl, rfl, rfl, trivial⟩ rfl rfl rfl rfl rfl rfl (by decide) rfl (fun b9 => ?_)
  refine TOps.call (vs := [_]) Tryz.call33 ⟨rfl, trivial⟩ (lists_g (L := [(a, ca, l), (b, cb, m)]) (Rd.all (List.Mem.head _)) (fun q hq => (hL q hq).le (Le.drop (Le.refl _))) (by simp)) rfl ?_
  rintro _ _ ⟨rfl, rfl⟩
  refine TOps.assign rfl rfl ?_
  refine TOps.next ?_
  refine Tri.seq (Tri.region ?_)
  refine TOps.move rfl rfl ?_
  refine TOps.neqNil (T := 57) (o := none) rfl Tryz.underlying29 rfl ?_
  refine TOps.next ?_
  refine Tri.cond rfl (fun hc1 => ?_) (fun hc1 => ?_)
  · exact absurd hc1 (by first | decide | simp)
  try simp only [decide_eq_true_eq, decide_eq_false_iff_not, Bool.and_eq_true, Bool.or_eq_true, Bool.not_eq_true', Bool.and_eq_false_iff, Bool.or_eq_false_iff, Bool.not_eq_false', Int.not_lt, Int.not_le, ne_eq, Decidable.not_not, Option.isSome_iff_ne_none, Option.isNone_iff_eq_none] at hc1
  refine Tri.fin ?_
  refine Nrm.next ?_
  refine Tri.seq (Tri.region ?_)
  refine TOps.move rfl rfl ?_
  refine TOps.move rfl rfl ?_
  refine TOps.buildSlice (vs := [_, _]) (xs := [_, _]) Tryz.underlying69 ti35 ⟨rfl, rfl, rfl, rfl, trivial⟩ rfl rfl rfl rfl rfl rfl (by decide) rfl (fun b16 => ?_)
  refine TOps.call (vs := [_]) Tryz.call101 ⟨rfl, trivial⟩ (concat_g (L := [(a, ca, l), (b, cb, m)]) (Rd.all (List.Mem.head _)) (fun q hq => (hL q hq).le (Le.drop (Le.drop (Le.refl _)))) (by simp)) rfl ?_
  rintro _ _ ⟨a1, c1, l1, e1, rfl, h1, rfl⟩
  subst e1
  refine TOps.call (vs := [_]) Tryz.call61 ⟨rfl, trivial⟩ (minimal_g (RdS.ofRowA (List.Mem.head _) (fun h => h1 (nats_ne h))) (fun x hx => by have := hlt x hx; omega) (by rw [show flatS [(a, ca, l), (b, cb, m)] = l ++ m by simp [flatS], List.length_append]; omega)) rfl ?_
  rintro _ _ ⟨a2, c2, l2, e2, rfl, h2, rfl⟩
  have hf := e2.fam hlt
  have hl2' := hf.len
  refine TOps.call (vs := [_]) Tryz.call91 ⟨rfl, trivial⟩ (sized_g (v := natV 0) (by omega)) rfl ?_
  rintro _ _ ⟨rfl, rfl⟩
  refine TOps.extract rfl rfl rfl ?_
  refine TOps.extract rfl rfl rfl ?_
  refine TOps.assign rfl rfl ?_
  refine TOps.assign rfl rfl ?_
  refine TOps.next ?_
  refine Tri.ret2 (H' := row a2 3 1 c2 (nats l2) :: H) Tryz.results87 (fun _ _ h => h) (.tmp rfl) (.tmp rfl) (Sp.le (by repeat (first | exact Sp.refl _ | exact Sp.sub (by assumption) | refine Sp.cons (by repeat (first | exact Pick.here | apply Pick.there)) ?_ | exact Sp.nil | apply Sp.skip))) ⟨a2, c2, l2, hf.congr (fun s => up_flat2 s), rfl, h2, rfl⟩
theorem minimalF_g {H : List Ent} {a : Option Nat} {ca : Nat} {l : List Nat} (ha : SOk H a l) :
    Gives Tryz.prog 62 [slV a 0 l.length ca] H (NewT (fun q => Fam q (fun s => up l s)) H) := by
  have hl1 := ha.len
  refine Gives.enter Tryz.func62 rfl (by exact Tryz.ntmps62) rfl ?_
  refine Tri.seq (Tri.region ?_)
  refine TOps.assign rfl rfl ?_
  refine TOps.assign rfl rfl ?_
  refine TOps.next ?_
  refine Tri.seq ?_
  refine Tri.seq (Tri.region ?_)
  refine TOps.move rfl rfl ?_
  refine TOps.buildSlice (vs := [_]) (xs := [_]) Tryz.underlying69 ti35 ⟨rfl, rfl, trivial⟩ rfl rfl rfl rfl rfl rfl (by decide) rfl (fun b6 => ?_)
  refine TOps.call (vs := [_]) Tryz.call33 ⟨rfl, trivial⟩ (lists_g (L := [(a, ca, l)]) (Rd.all (List.Mem.head _)) (fun q hq => by rw [List.mem_singleton] at hq; subst hq; exact ha.l.le (Le.drop (Le.refl _))) (by simp)) rfl ?_
  rintro _ _ ⟨rfl, rfl⟩
  refine TOps.assign rfl rfl ?_
  refine TOps.next ?_
  refine Tri.seq (Tri.region ?_)
  refine TOps.move rfl rfl ?_
  refine TOps.neqNil (T := 57) (o := none) rfl Tryz.underlying29 rfl ?_
  refine TOps.next ?_
  refine Tri.cond rfl (fun hc1 => ?_) (fun hc1 => ?_)
  · exact absurd hc1 (by first | decide | simp)
  try simp only [decide_eq_true_eq, decide_eq_false_iff_not, Bool.and_eq_true, Bool.or_eq_true, Bool.not_eq_true', Bool.and_eq_false_iff, Bool.or_eq_false_iff, Bool.not_eq_false', Int.not_lt, Int.not_le, ne_eq, Decidable.not_not, Option.isSome_iff_ne_none, Option.isNone_iff_eq_none] at hc1
  refine Tri.fin ?_
  refine Nrm.next ?_
  refine Tri.seq (Tri.region ?_)
  refine TOps.move rfl rfl ?_
  refine TOps.call (vs := [_]) Tryz.call61 ⟨rfl, trivial⟩ (minimal_g (ha.rd.le (Le.drop (Le.refl _))) ha.b (by omega)) rfl ?_
  rintro _ _ ⟨a2, c2, l2, e2, rfl, h2, rfl⟩
  refine TOps.assign rfl rfl ?_
  refine TOps.assign rfl rfl ?_
  refine TOps.next ?_
  refine Tri.ret2 (H' := row a2 3 1 c2 (nats l2) :: H) Tryz.results62 (fun _ _ h => h) (.tmp rfl) (.tmp rfl) (Sp.le (by repeat (first | exact Sp.refl _ | exact Sp.sub (by assumption) | refine Sp.cons (by repeat (first | exact Pick.here | apply Pick.there)) ?_ | exact Sp.nil | apply Sp.skip))) ⟨a2, c2, l2, e2.fam ha.lt, rfl, h2, rfl⟩
theorem equal_g {H : List Ent} {a b : Option Nat} {ca cb : Nat} {l m : List Nat} (ha : RdS H a 0 (nats l)) (hb : RdS H b 0 (nats m)) (hl : l.length ≤ 1000000) :
    Gives Tryz.prog 60 [slV a 0 l.length ca, slV b 0 m.length cb] H (R1 (.bool (decide (l = m))) H) := by
  refine Gives.enter Tryz.func60 rfl (by exact Tryz.ntmps60) rfl ?_
  refine Tri.seq (Tri.region ?_)
  refine TOps.assign rfl rfl ?_
  refine TOps.next ?_
  refine Tri.seq ?_
  refine Tri.seq (Tri.region ?_)
  refine TOps.move rfl rfl ?_
  refine TOps.len rfl Tryz.underlying35 rfl ?_
  refine TOps.move rfl rfl ?_
  refine TOps.len rfl Tryz.underlying35 rfl ?_
  refine TOps.neqI rfl rfl rfl ?_
  refine TOps.next ?_
  refine Tri.cond rfl (fun hc1 => ?_) (fun hc1 => ?_)
  · try simp only [decide_eq_true_eq, decide_eq_false_iff_not, Bool.and_eq_true, Bool.or_eq_true, Bool.not_eq_true', Bool.and_eq_false_iff, Bool.or_eq_false_iff, Bool.not_eq_false', Int.not_lt, Int.not_le, ne_eq, Decidable.not_not, Option.isSome_iff_ne_none, Option.isNone_iff_eq_none] at hc1
    refine Tri.seq (Tri.region ?_)
    refine TOps.assign rfl rfl ?_
    refine TOps.next ?_
    refine Tri.ret1 (H' := H) Tryz.results60 (fun _ _ h => h) (.tmp rfl) (Le.refl _) ⟨by rw [decide_eq_false (fun h => hc1 (by rw [h]))], rfl⟩
  try simp only [decide_eq_true_eq, decide_eq_false_iff_not, Bool.and_eq_true, Bool.or_eq_true, Bool.not_eq_true', Bool.and_eq_false_iff, Bool.or_eq_false_iff, Bool.not_eq_false', Int.not_lt, Int.not_le, ne_eq, Decidable.not_not, Option.isSome_iff_ne_none, Option.isNone_iff_eq_none] at hc1
  have hlm : l.length = m.length := by omega
  refine Tri.fin ?_
  refine Nrm.next ?_
  refine Tri.seq ?_
  refine Tri.seq (Tri.region ?_)
  refine TOps.move rfl rfl ?_
  refine TOps.len rfl Tryz.underlying35 rfl ?_
  refine TOps.move rfl rfl ?_
  refine TOps.next ?_
  refine Tri.range (X := Unit) (fun x k => [(0, slV a 0 l.length ca), (1, slV b 0 m.length cb)]) (fun x k => H) (fun x k => l.take k = m.take k) (by omega) rfl rfl rfl (fun _ _ => ⟨rfl, rfl, rfl, rfl⟩) () rfl ⟨rfl, rfl, trivial⟩ (by repeat (first | exact Le.refl _ | assumption | apply Le.drop)) (fun k x hlt hp => ?_) (fun x ac wc hp hS hM => ?_)
  · skip
    obtain ⟨rb, hra, hsp, hrk⟩ := nats_at ha hlt
    obtain ⟨rb2, hra2, hsp2, hrk2⟩ := nats_at hb (show k < m.length by omega)
    have hkm : k < m.length := by omega
    obtain ⟨bq, hbq⟩ : ∃ bq, bq = !decide (l[k] = m[k]) := ⟨_, rfl⟩
    refine Tri.seq (Tri.region ?_)
    refine TOps.move rfl rfl ?_
    refine TOps.assign rfl rfl ?_
    refine TOps.next ?_
    refine Tri.seq ?_
    refine Tri.drawC rfl [(0, slV a 0 l.length ca), (1, slV b 0 m.length cb), (5, natV k), (12, natV l.length), (13, natV k)] [] [_, _, _, _, _, _, _, _, _] (H) [8] rfl ⟨rfl, rfl, rfl, rfl, rfl, trivial⟩ trivial (by repeat (first | exact Le.refl _ | assumption | apply Le.drop)) (by
      refine ⟨?_, ?_, ?_, ?_, ?_, ?_, ?_, ?_, ?_, trivial⟩
      · refine ⟨fun x S c he hw hd hc hcu hm _ => ?_, trivial⟩
        refine TOps.move (he _ _ rfl) rfl ?_
        exact TOps.fd x rfl rfl
      · refine ⟨fun x S c he hw hd hc hcu hm _ => ?_, trivial⟩
        refine TOps.move (he _ _ rfl) rfl ?_
        exact TOps.fd x rfl rfl
      · refine ⟨fun x S c he hw hd hc hcu hm _ => ?_, trivial⟩
        obtain ⟨h0, h1, -⟩ := hd
        refine TOps.indexAddr (b := rb) (off := 0) (m := l.length) (cap := ca) (off' := 0 + k) (by rw [← hra]; exact h0) h1 Tryz.underlying35 ti3 (by omega) (by omega) (by simp) rfl ?_
        exact TOps.fd x rfl rfl
      · refine ⟨fun x S c he hw hd hc hcu hm _ => ?_, trivial⟩
        obtain ⟨h2, -⟩ := hd
        refine TOps.load1 h2 ti3 hrk rfl ?_
        exact TOps.fd x rfl rfl
      · refine ⟨fun x S c he hw hd hc hcu hm _ => ?_, trivial⟩
        refine TOps.move (he _ _ rfl) rfl ?_
        exact TOps.fd x rfl rfl
      · refine ⟨fun x S c he hw hd hc hcu hm _ => ?_, trivial⟩
        refine TOps.move (he _ _ rfl) rfl ?_
        exact TOps.fd x rfl rfl
      · refine ⟨fun x S c he hw hd hc hcu hm _ => ?_, trivial⟩
        obtain ⟨h4, h5, -⟩ := hd
        refine TOps.indexAddr (b := rb2) (off := 0) (m := m.length) (cap := cb) (off' := 0 + k) (by rw [← hra2]; exact h4) h5 Tryz.underlying35 ti3 (by omega) (by omega) (by simp) rfl ?_
        exact TOps.fd x rfl rfl
      · refine ⟨fun x S c he hw hd hc hcu hm _ => ?_, trivial⟩
        obtain ⟨h6, -⟩ := hd
        refine TOps.load1 h6 ti3 hrk2 rfl ?_
        exact TOps.fd x rfl rfl
      · refine ⟨fun x S c he hw hd hc hcu hm _ => ?_, trivial⟩
        obtain ⟨h3, h7, -⟩ := hd
        refine TOps.neqIr (r := bq) h3 h7 (by rw [hbq, ← decide_not]; exact decide_eq_decide.2 (by omega)) rfl ?_
        exact TOps.fd x rfl rfl
      ) ?_
    refine Nrm.next ?_
    refine Tri.cond rfl (fun hc2 => ?_) (fun hc2 => ?_)
    · try simp only [decide_eq_true_eq, decide_eq_false_iff_not, Bool.and_eq_true, Bool.or_eq_true, Bool.not_eq_true', Bool.and_eq_false_iff, Bool.or_eq_false_iff, Bool.not_eq_false', Int.not_lt, Int.not_le, ne_eq, Decidable.not_not, Option.isSome_iff_ne_none, Option.isNone_iff_eq_none] at hc2
      rw [hbq, Bool.not_eq_true', decide_eq_false_iff_not] at hc2
      refine Tri.seq (Tri.region ?_)
      refine TOps.assign rfl rfl ?_
      refine TOps.next ?_
      refine Tri.ret1 (H' := H) Tryz.results60 (fun _ _ h => h) (.tmp rfl) (Le.refl _) ⟨by rw [decide_eq_false (fun h => hc2 (by subst h; rfl))], rfl⟩
    try simp only [decide_eq_true_eq, decide_eq_false_iff_not, Bool.and_eq_true, Bool.or_eq_true, Bool.not_eq_true', Bool.and_eq_false_iff, Bool.or_eq_false_iff, Bool.not_eq_false', Int.not_lt, Int.not_le, ne_eq, Decidable.not_not, Option.isSome_iff_ne_none, Option.isNone_iff_eq_none] at hc2
    rw [hbq, Bool.not_eq_false', decide_eq_true_eq] at hc2
    refine Tri.fin ?_
    refine Nrm.body () (pref_succ hlt hlm hp hc2) ⟨rfl, rfl, rfl, rfl, trivial⟩ (by repeat (first | exact Le.refl _ | assumption | apply Le.drop))
  rw [List.take_length, hlm, List.take_length] at hp
  refine Nrm.of hS hM ?_
  refine Nrm.next ?_
  refine Tri.seq (Tri.region ?_)
  refine TOps.assign rfl rfl ?_
  refine TOps.next ?_
  refine Tri.ret1 (H' := H) Tryz.results60 (fun _ _ h => h) (.tmp rfl) (Le.refl _) ⟨by rw [decide_eq_true hp], rfl⟩
theorem same_g {H : List Ent} {a b : Option Nat} {ca cb : Nat} {l m : List Nat} (ha : SOk H a l) (hb : SOk H b m) :
    Gives Tryz.prog 37 [slV a 0 l.length ca, slV b 0 m.length cb] H (fun u H' => ∃ q r, Fam q (fun s => up l s) ∧ Fam r (fun s => up m s) ∧ u = .tuple (List.toArray [.bool (decide (q = r)), errV 57 none]) ∧ H = H') := by
  have hL : ∀ q ∈ [(a, ca, l), (b, cb, m)], LOk H q := by
    intro q hq
    rcases List.mem_cons.1 hq with rfl | hq
    · exact ha.l
    · rw [List.mem_singleton] at hq; subst hq; exact hb.l
  have hl1 := ha.len
  have hl2 := hb.len
  refine Gives.enter Tryz.func37 rfl (by exact Tryz.ntmps37) rfl ?_
  refine Tri.seq (Tri.region ?_)
  refine TOps.assign rfl rfl ?_
  refine TOps.assign rfl rfl ?_
  refine TOps.next ?_
  refine Tri.seq ?_
  refine Tri.seq (Tri.region ?_)
  refine TOps.move rfl rfl ?_
  refine TOps.move rfl rfl ?_
  refine TOps.buildSlice (vs := [_, _]) (xs := [_, _]) Tryz.underlying69 ti35 ⟨rfl, rfl, rfl, rfl, trivial⟩ rfl rfl rfl rfl rfl rfl (by decide) rfl (fun b9 => ?_)
  refine TOps.call (vs := [_]) Tryz.call33 ⟨rfl, trivial⟩ (lists_g (L := [(a, ca, l), (b, cb, m)]) (Rd.all (List.Mem.head _)) (fun q hq => (hL q hq).le (Le.drop (Le.refl _))) (by simp)) rfl ?_
  rintro _ _ ⟨rfl, rfl⟩
  refine TOps.assign rfl rfl ?_
  refine TOps.next ?_
  refine Tri.seq (Tri.region ?_)
  refine TOps.move rfl rfl ?_
  refine TOps.neqNil (T := 57) (o := none) rfl Tryz.underlying29 rfl ?_
  refine TOps.next ?_
  refine Tri.cond rfl (fun hc1 => ?_) (fun hc1 => ?_)
  · exact absurd hc1 (by first | decide | simp)
  try simp only [decide_eq_true_eq, decide_eq_false_iff_not, Bool.and_eq_true, Bool.or_eq_true, Bool.not_eq_true', Bool.and_eq_false_iff, Bool.or_eq_false_iff, Bool.not_eq_false', Int.not_lt, Int.not_le, ne_eq, Decidable.not_not, Option.isSome_iff_ne_none, Option.isNone_iff_eq_none] at hc1
  refine Tri.fin ?_
  refine Nrm.next ?_
  refine Tri.seq (Tri.region ?_)
  refine TOps.move rfl rfl ?_
  refine TOps.call (vs := [_]) Tryz.call61 ⟨rfl, trivial⟩ (minimal_g (ha.rd.le (Le.drop (Le.refl _))) ha.b (by omega)) rfl ?_
  rintro _ _ ⟨a2, c2, l2, e2, rfl, h2, rfl⟩
  refine TOps.move rfl rfl ?_
  refine TOps.call (vs := [_]) Tryz.call61 ⟨rfl, trivial⟩ (minimal_g (hb.rd.le (Le.drop (Le.drop (Le.refl _)))) hb.b (by omega)) rfl ?_
  rintro _ _ ⟨a3, c3, l3, e3, rfl, h3, rfl⟩
  have f2 := e2.fam ha.lt
  have f3 := e3.fam hb.lt
  have f4 := f2.len
  refine TOps.call (vs := [_, _]) Tryz.call60 ⟨rfl, rfl, trivial⟩ (equal_g (RdS.ofRowA (List.Mem.tail _ (List.Mem.head _)) (fun h => h2 (nats_ne h))) (RdS.ofRowA (List.Mem.head _) (fun h => h3 (nats_ne h))) (by omega)) rfl ?_
  rintro _ _ ⟨rfl, rfl⟩
  refine TOps.assign rfl rfl ?_
  refine TOps.assign rfl rfl ?_
  refine TOps.next ?_
  refine Tri.ret2 (H' := H) Tryz.results37 (fun _ _ h => h) (.tmp rfl) (.tmp rfl) (Le.drop (Le.drop (Le.drop (Le.refl _)))) ⟨l2, l3, f2, f3, rfl, rfl⟩
theorem meets_g {H : List Ent} {a : Option Nat} {ca x : Nat} {l : List Nat} (ha : SOk H a l) (hx : x < 256) :
    Gives Tryz.prog 13 [slV a 0 l.length ca, natV x] H (R1 (.tuple (List.toArray [.bool (!(l.any (fun y => decide (y &&& x = 0)))), errV 57 none])) H) := by
  have hl1 := ha.len
  refine Gives.enter Tryz.func13 rfl (by exact Tryz.ntmps13) rfl ?_
  refine Tri.seq (Tri.region ?_)
  refine TOps.box1 rfl rfl ti3 rfl (fun b3 => ?_)
  refine TOps.assign rfl rfl ?_
  refine TOps.assign rfl rfl ?_
  refine TOps.next ?_
  refine Tri.seq ?_
  refine Tri.seq (Tri.region ?_)
  refine TOps.move rfl rfl ?_
  refine TOps.buildSlice (vs := [_]) (xs := [_]) Tryz.underlying69 ti35 ⟨rfl, rfl, trivial⟩ rfl rfl rfl rfl rfl rfl (by decide) rfl (fun b8 => ?_)
  refine TOps.call (vs := [_]) Tryz.call33 ⟨rfl, trivial⟩ (lists_g (L := [(a, ca, l)]) (Rd.all (List.Mem.head _)) (fun q hq => by rw [List.mem_singleton] at hq; subst hq; exact ha.l.le (Le.drop (Le.drop (Le.refl _)))) (by simp)) rfl ?_
  rintro _ _ ⟨rfl, rfl⟩
  refine TOps.assign rfl rfl ?_
  refine TOps.next ?_
  refine Tri.seq (Tri.region ?_)
  refine TOps.move rfl rfl ?_
  refine TOps.neqNil (T := 57) (o := none) rfl Tryz.underlying29 rfl ?_
  refine TOps.next ?_
  refine Tri.cond rfl (fun hc1 => ?_) (fun hc1 => ?_)
  · exact absurd hc1 (by first | decide | simp)
  try simp only [decide_eq_true_eq, decide_eq_false_iff_not, Bool.and_eq_true, Bool.or_eq_true, Bool.not_eq_true', Bool.and_eq_false_iff, Bool.or_eq_false_iff, Bool.not_eq_false', Int.not_lt, Int.not_le, ne_eq, Decidable.not_not, Option.isSome_iff_ne_none, Option.isNone_iff_eq_none] at hc1
  refine Tri.fin ?_
  refine Nrm.next ?_
  refine Tri.seq ?_
  refine Tri.seq (Tri.region ?_)
  refine TOps.load1 (v := natV x) rfl ti3 (Rd.all (by repeat (first | exact List.Mem.head _ | apply List.Mem.tail))) rfl ?_
  refine TOps.call (vs := [_]) Tryz.call34 ⟨rfl, trivial⟩ (validS_g (by omega)) rfl ?_
  rintro _ _ ⟨rfl, rfl⟩
  refine TOps.not rfl rfl ?_
  refine TOps.next ?_
  refine Tri.cond rfl (fun hc2 => ?_) (fun hc2 => ?_)
  · exact absurd hc2 (by first | decide | simp)
  try simp only [decide_eq_true_eq, decide_eq_false_iff_not, Bool.and_eq_true, Bool.or_eq_true, Bool.not_eq_true', Bool.and_eq_false_iff, Bool.or_eq_false_iff, Bool.not_eq_false', Int.not_lt, Int.not_le, ne_eq, Decidable.not_not, Option.isSome_iff_ne_none, Option.isNone_iff_eq_none] at hc2
  refine Tri.fin ?_
  refine Nrm.next ?_
  refine Tri.seq (Tri.region ?_)
  refine TOps.move rfl rfl ?_
  refine TOps.makeFunc (vs := [_]) ⟨rfl, trivial⟩ rfl ?_
  refine TOps.call (vs := [_, _]) Tryz.call35 ⟨rfl, rfl, trivial⟩ (hasNats_g (t := fun y => decide (y &&& x = 0)) (ha.rd.le (Le.drop (Le.drop (Le.refl _)))) Tryz.call36 (fun y hy => meets1_g (ha.b y hy) (by omega) (Rd.all (by repeat (first | exact List.Mem.head _ | apply List.Mem.tail)))) (by omega)) rfl ?_
  rintro _ _ ⟨rfl, rfl⟩
  refine TOps.not rfl rfl ?_
  refine TOps.assign rfl rfl ?_
  refine TOps.assign rfl rfl ?_
  refine TOps.next ?_
  refine Tri.ret2 (H' := H) Tryz.results13 (fun _ _ h => h) (.tmp rfl) (.tmp rfl) (Le.drop (Le.drop (Le.refl _))) ⟨rfl, rfl⟩
end Go.Proofs
namespace Go.Proofs
open Go.GL
set_option linter.unusedVariables false
set_option linter.unusedSimpArgs false
set_option maxHeartbeats 2000000 in
theorem product_g {H : List Ent} {a b : Option Nat} {ca cb : Nat} {l m : List Nat} (ha : SOk H a l) (hb : SOk H b m) :
    Gives Tryz.prog 64 [slV a 0 l.length ca, slV b 0 m.length cb] H (NewT (fun q => Fam q (fun s => up l s ∧ up m s)) H) := by
  have hL : ∀ q ∈ [(a, ca, l), (b, cb, m)], LOk H q := by
    intro q hq
    rcases List.mem_cons.1 hq with rfl | hq
    · exact ha.l
    · rw [List.mem_singleton] at hq; subst hq; exact hb.l
  have hl1 := ha.len
  have hl2 := hb.len
  refine Gives.enter Tryz.func64 rfl (by exact Tryz.ntmps64) rfl ?_
  refine Tri.seq (Tri.region ?_)
  refine TOps.assign rfl rfl ?_
  refine TOps.assign rfl rfl ?_
  refine TOps.next ?_
  refine Tri.seq ?_
  refine Tri.seq (Tri.region ?_)
  refine TOps.move rfl rfl ?_
  refine TOps.move rfl rfl ?_
  refine TOps.buildSlice (vs := [_, _]) (xs := [_, _]) Tryz.underlying69 ti35 ⟨rfl, rfl, rfl, rfl, trivial⟩ rfl rfl rfl rfl rfl rfl (by decide) rfl (fun b16 => ?_)
  refine TOps.call (vs := [_]) Tryz.call33 ⟨rfl, trivial⟩ (lists_g (L := [(a, ca, l), (b, cb, m)]) (Rd.all (List.Mem.head _)) (fun q hq => (hL q hq).le (Le.drop (Le.refl _))) (by simp)) rfl ?_
  rintro _ _ ⟨rfl, rfl⟩
  refine TOps.assign rfl rfl ?_
  refine TOps.next ?_
  refine Tri.seq (Tri.region ?_)
  refine TOps.move rfl rfl ?_
  refine TOps.neqNil (T := 57) (o := none) rfl Tryz.underlying29 rfl ?_
  refine TOps.next ?_
  refine Tri.cond rfl (fun hc1 => ?_) (fun hc1 => ?_)
  · exact absurd hc1 (by first | decide | simp)
  try simp only [decide_eq_true_eq, decide_eq_false_iff_not, Bool.and_eq_true, Bool.or_eq_true, Bool.not_eq_true', Bool.and_eq_false_iff, Bool.or_eq_false_iff, Bool.not_eq_false', Int.not_lt, Int.not_le, ne_eq, Decidable.not_not, Option.isSome_iff_ne_none, Option.isNone_iff_eq_none] at hc1
  refine Tri.fin ?_
  refine Nrm.next ?_
  refine Tri.seq (Tri.region ?_)
  refine TOps.move rfl rfl ?_
  refine TOps.call (vs := [_]) Tryz.call61 ⟨rfl, trivial⟩ (minimal_g (ha.rd.le (Le.drop (Le.refl _))) ha.b (by omega)) rfl ?_
  rintro _ _ ⟨xa, xc, p, e2, rfl, h2, rfl⟩
  refine TOps.move rfl rfl ?_
  refine TOps.call (vs := [_]) Tryz.call61 ⟨rfl, trivial⟩ (minimal_g (hb.rd.le (Le.drop (Le.drop (Le.refl _)))) hb.b (by omega)) rfl ?_
  rintro _ _ ⟨ya, yc, q, e3, rfl, h3, rfl⟩
  have f2 := e2.fam ha.lt
  have f3 := e3.fam hb.lt
  have lp := f2.len
  have lq := f3.len
  have tp : ∀ x ∈ p, x < 2 ^ 8 := f2.lt
  have tq : ∀ x ∈ q, x < 2 ^ 8 := f3.lt
  refine TOps.assign rfl rfl ?_
  refine TOps.assign rfl rfl ?_
  refine TOps.next ?_
  refine Tri.seq (Tri.region ?_)
  refine TOps.makeT natV Value.bool rfl (fun b25 => ?_)
  refine TOps.assign rfl rfl ?_
  refine TOps.next ?_
  refine Tri.seq (Tri.region ?_)
  refine TOps.assign rfl rfl ?_
  refine TOps.next ?_
  refine Tri.seq ?_
  refine Tri.seq (Tri.region ?_)
  refine TOps.move rfl rfl ?_
  refine TOps.len rfl Tryz.underlying35 rfl ?_
  refine TOps.move rfl rfl ?_
  refine TOps.next ?_
  refine Tri.range (X := Option Nat × Nat × List Nat) (fun x k => [(1, slV ya 0 q.length yc), (7, .map (some b25)), (8, slV x.1 0 x.2.2.length x.2.1), (26, slV xa 0 p.length xc)]) (fun x k => row x.1 3 1 x.2.1 (nats (x.2.2)) :: tmap natV Value.bool b25 (seenM (x.2.2)) :: row ya 3 1 yc (nats q) :: row xa 3 1 xc (nats p) :: H) (fun x k => (x.2.2 ≠ [] → ∃ b, x.1 = some b) ∧ PU 8 p q k 0 x.2.2) (by omega) rfl rfl rfl (fun _ _ => ⟨rfl, rfl, rfl, rfl⟩) (none, 0, []) ⟨fun h => absurd rfl h, PU.start⟩ ⟨rfl, rfl, rfl, rfl, trivial⟩ (Le.addNil.trans (Sp.le (by repeat (first | exact Sp.refl _ | exact Sp.sub (by assumption) | refine Sp.cons (by repeat (first | exact Pick.here | apply Pick.there)) ?_ | exact Sp.nil | apply Sp.skip)))) (fun k x hlt hp => ?_) (fun x ac wc hp hS hM => ?_)
  · skip
    obtain ⟨ua, uc, us⟩ := x
    obtain ⟨p1, p2⟩ := hp
    dsimp only at p1 p2 ⊢
    obtain ⟨b1, rfl⟩ := h2 (by intro h; rw [h] at hlt; exact absurd hlt (Nat.not_lt_zero k))
    have hrk : Rd (row ua 3 1 uc (nats (us)) :: tmap natV Value.bool b25 (seenM (us)) :: row ya 3 1 yc (nats q) :: row (some b1) 3 1 xc (nats p) :: H) b1 (0 + k) [natV p[k]] := Rd.part (Rd.all (by repeat (first | exact List.Mem.head _ | apply List.Mem.tail))) k (by simp [nats, hlt])
    have hpk := tp _ (List.getElem_mem hlt)
    refine Tri.seq (Tri.region ?_)
    refine TOps.indexAddr (b := b1) (off := 0) (m := p.length) (cap := xc) (off' := 0 + k) rfl rfl Tryz.underlying35 ti3 (by omega) (by omega) (by simp) rfl ?_
    refine TOps.load1 rfl ti3 hrk rfl ?_
    refine TOps.assign rfl rfl ?_
    refine TOps.next ?_
    refine Tri.seq (Tri.region ?_)
    refine TOps.move rfl rfl ?_
    refine TOps.len rfl Tryz.underlying35 rfl ?_
    refine TOps.move rfl rfl ?_
    refine TOps.next ?_
    refine Tri.range (X := Option Nat × Nat × List Nat) (fun w j => [(1, slV ya 0 q.length yc), (7, .map (some b25)), (8, slV w.1 0 w.2.2.length w.2.1), (10, natV p[k]), (26, slV (some b1) 0 p.length xc), (27, natV p.length), (28, natV k), (32, slV ya 0 q.length yc)]) (fun w j => row w.1 3 1 w.2.1 (nats (w.2.2)) :: tmap natV Value.bool b25 (seenM (w.2.2)) :: row ya 3 1 yc (nats q) :: row (some b1) 3 1 xc (nats p) :: H) (fun w j => (w.2.2 ≠ [] → ∃ b, w.1 = some b) ∧ PU 8 p q k j w.2.2) (by omega) rfl rfl rfl (fun _ _ => ⟨rfl, rfl, rfl, rfl⟩) (ua, uc, us) ⟨p1, p2⟩ ⟨rfl, rfl, rfl, rfl, rfl, rfl, rfl, rfl, trivial⟩ (by repeat (first | exact Le.refl _ | assumption | apply Le.drop)) (fun j w hltj hpj => ?_) (fun w ac wc hpj hS hM => ?_)
    · skip
      obtain ⟨wa, wc, ws⟩ := w
      obtain ⟨w1, w2⟩ := hpj
      dsimp only at w1 w2 ⊢
      obtain ⟨b3, rfl⟩ := h3 (by intro h; rw [h] at hltj; exact absurd hltj (Nat.not_lt_zero j))
      have hrj : Rd (row wa 3 1 wc (nats (ws)) :: tmap natV Value.bool b25 (seenM (ws)) :: row (some b3) 3 1 yc (nats q) :: row (some b1) 3 1 xc (nats p) :: H) b3 (0 + j) [natV q[j]] := Rd.part (Rd.all (by repeat (first | exact List.Mem.head _ | apply List.Mem.tail))) j (by simp [nats, hltj])
      have hqj := tq _ (List.getElem_mem hltj)
      have w3 := w2.step hlt hltj tp tq
      have w4 := w2.len
      have w5 : ∀ u ∈ ws, u < 16777216 := fun u hu => by have := w2.lt u hu; omega
      have w6 : (p[k] ||| q[j]) < 2 ^ 8 := Nat.or_lt_two_pow hpk hqj
      obtain ⟨u, hu⟩ : ∃ u, u = p[k] ||| q[j] := ⟨_, rfl⟩
      rw [← hu] at w3 w6
      refine Tri.seq (Tri.region ?_)
      refine TOps.indexAddr (b := b3) (off := 0) (m := q.length) (cap := yc) (off' := 0 + j) rfl rfl Tryz.underlying35 ti3 (by omega) (by omega) (by simp) rfl ?_
      refine TOps.load1 rfl ti3 hrj rfl ?_
      refine TOps.assign rfl rfl ?_
      refine TOps.next ?_
      refine Tri.seq (Tri.region ?_)
      refine TOps.move rfl rfl ?_
      refine TOps.move rfl rfl ?_
      refine TOps.or (r := (u : Int)) rfl rfl (by rw [hu]; exact ior_nat (by omega) (by omega)) rfl ?_
      refine TOps.assign rfl rfl ?_
      refine TOps.next ?_
      refine Tri.seq (Tri.region ?_)
      refine TOps.move rfl rfl ?_
      refine TOps.move rfl rfl ?_
      refine TOps.lookT1 (k := u) (vE := Value.bool) (z := .bool false) keyNat rfl rfl Tryz.underlying114 zeroBool (by repeat (first | exact List.Mem.head _ | apply List.Mem.tail)) (seenM_ok w2.nd w5) (by unfold ok63; omega) rfl ?_
      rw [seenM_look w2.nd w5]
      refine TOps.not rfl rfl ?_
      refine TOps.next ?_
      refine Tri.cond rfl (fun hc2 => ?_) (fun hc2 => ?_)
      · try simp only [decide_eq_true_eq, decide_eq_false_iff_not, Bool.and_eq_true, Bool.or_eq_true, Bool.not_eq_true', Bool.and_eq_false_iff, Bool.or_eq_false_iff, Bool.not_eq_false', Int.not_lt, Int.not_le, ne_eq, Decidable.not_not, Option.isSome_iff_ne_none, Option.isNone_iff_eq_none] at hc2
        rw [if_neg hc2] at w3
        refine Tri.seq (Tri.region ?_)
        refine TOps.move rfl rfl ?_
        refine TOps.move rfl rfl ?_
        refine TOps.putT (k := u) (vE := Value.bool) (v := true) keyNat rfl rfl rfl Tryz.underlying114 (Upd.there Upd.here) (seenM_ok w2.nd w5) (by unfold ok63; omega) ?_
        rw [seenM_put hc2]
        refine TOps.next ?_
        refine Tri.region ?_
        refine TOps.move rfl rfl ?_
        refine TOps.move rfl rfl ?_
        refine TOps.buildSlice (vs := [_]) (xs := [_]) Tryz.underlying35 ti3 ⟨rfl, rfl, trivial⟩ rfl rfl rfl rfl rfl rfl (by decide) rfl (fun b49 => ?_)
        refine TOps.appendLit rfl rfl Tryz.underlying35 ti3 rfl (fun _ _ => (by repeat (first | exact Upd.here | apply Upd.there))) rfl (by simp [nats]) rfl (by omega) (by omega) (by simp) rfl (fun b50 c50 => ?_)
        rw [show nats ws ++ [Value.int .i64 (u : Int)] = nats (ws ++ [u]) by simp [nats], show ws.length + 1 = (ws ++ [u]).length by simp]
        refine TOps.assign rfl rfl ?_
        refine TOps.fin ?_
        first
         | refine Nrm.body (some b50, c50, ws ++ [u]) ⟨fun _ => ⟨_, rfl⟩, w3⟩ ⟨rfl, rfl, rfl, rfl, rfl, rfl, rfl, rfl, rfl, rfl, trivial⟩ (by repeat (first | exact Le.refl _ | assumption | apply Le.drop))
         | refine Nrm.body (wa, wc, ws) ⟨w1, w3⟩ ⟨rfl, rfl, rfl, rfl, rfl, rfl, rfl, rfl, rfl, rfl, trivial⟩ (by repeat (first | exact Le.refl _ | assumption | apply Le.drop))
      try simp only [decide_eq_true_eq, decide_eq_false_iff_not, Bool.and_eq_true, Bool.or_eq_true, Bool.not_eq_true', Bool.and_eq_false_iff, Bool.or_eq_false_iff, Bool.not_eq_false', Int.not_lt, Int.not_le, ne_eq, Decidable.not_not, Option.isSome_iff_ne_none, Option.isNone_iff_eq_none] at hc2
      rw [if_pos hc2] at w3
      refine Tri.fin ?_
      first
       | refine Nrm.body (some b50, c50, ws ++ [u]) ⟨fun _ => ⟨_, rfl⟩, w3⟩ ⟨rfl, rfl, rfl, rfl, rfl, rfl, rfl, rfl, rfl, rfl, trivial⟩ (by repeat (first | exact Le.refl _ | assumption | apply Le.drop))
       | refine Nrm.body (wa, wc, ws) ⟨w1, w3⟩ ⟨rfl, rfl, rfl, rfl, rfl, rfl, rfl, rfl, rfl, rfl, trivial⟩ (by repeat (first | exact Le.refl _ | assumption | apply Le.drop))
    obtain ⟨wa, wc, ws⟩ := w
    obtain ⟨w1, w2⟩ := hpj
    dsimp only at w1 w2 hS hM
    refine Nrm.of hS hM ?_
    refine Nrm.body (wa, wc, ws) ⟨w1, w2.row hlt⟩ ⟨rfl, rfl, rfl, rfl, rfl, rfl, trivial⟩ (by repeat (first | exact Le.refl _ | assumption | apply Le.drop))
  obtain ⟨ua, uc, us⟩ := x
  obtain ⟨p1, p2⟩ := hp
  dsimp only at p1 p2 hS hM
  have p3 := p2.len
  refine Nrm.of hS hM ?_
  refine Nrm.next ?_
  refine Tri.seq (Tri.region ?_)
  refine TOps.move rfl rfl ?_
  refine TOps.call (vs := [_]) Tryz.call61 ⟨rfl, trivial⟩ (minimal_g (RdS.ofRowA (List.Mem.head _) (fun h => p1 (nats_ne h))) (fun u hu => by have := p2.lt u hu; omega) (by omega)) rfl ?_
  rintro _ _ ⟨va, vc, v, e4, rfl, h4, rfl⟩
  have f4 := e4.fam p2.lt
  have lv := f4.len
  refine TOps.call (vs := [_]) Tryz.call91 ⟨rfl, trivial⟩ (sized_g (v := natV 0) (by omega)) rfl ?_
  rintro _ _ ⟨rfl, rfl⟩
  refine TOps.extract rfl rfl rfl ?_
  refine TOps.extract rfl rfl rfl ?_
  refine TOps.assign rfl rfl ?_
  refine TOps.assign rfl rfl ?_
  refine TOps.next ?_
  refine Tri.ret2 (H' := row va 3 1 vc (nats v) :: H) Tryz.results64 (fun _ _ h => h) (.tmp rfl) (.tmp rfl) (Sp.le (by repeat (first | exact Sp.refl _ | exact Sp.sub (by assumption) | refine Sp.cons (by repeat (first | exact Pick.here | apply Pick.there)) ?_ | exact Sp.nil | apply Sp.skip))) ⟨va, vc, v, f4.congr (fun s => by rw [p2.up s, f2.upw s, f3.upw s]), rfl, h4, rfl⟩
end Go.Proofs
namespace Go.Proofs
open Go.GL
set_option linter.unusedVariables false
set_option linter.unusedSimpArgs false
theorem setHas_g {H : List Ent} {s i : Nat} (hs : s < 16777216) (hi : i < 24) : Gives Tryz.prog 63 [natV s, natV i] H (R1 (.bool (s.testBit i)) H) := by
  refine Gives.enter Tryz.func63 rfl (by exact Tryz.ntmps63) rfl ?_
  refine Tri.seq (Tri.region ?_)
  refine TOps.assign rfl rfl ?_
  refine TOps.next ?_
  refine Tri.seq (Tri.region ?_)
  refine TOps.move rfl rfl ?_
  refine TOps.geq rfl rfl rfl ?_
  refine TOps.move rfl rfl ?_
  refine' TOps.andB 2 rfl rfl rfl rfl (fun hg1_2 => ?_) ?_; rotate_left
  · have hg1_2' := hg1_2
    try simp only [decide_eq_true_eq, decide_eq_false_iff_not, Bool.and_eq_true, Bool.or_eq_true, Bool.not_eq_true', Bool.and_eq_false_iff, Bool.or_eq_false_iff, Bool.not_eq_false', Int.not_lt, Int.not_le, ne_eq, Decidable.not_not] at hg1_2'
    refine TOps.strip 2 true rfl rfl hg1_2 rfl ?_
    refine TOps.move rfl rfl ?_
    refine TOps.lss rfl rfl rfl ?_
    refine TOps.blk rfl (by repeat (first | exact Ext.refl _ | refine Ext.cons rfl ?_)) (by repeat (first | exact Le.refl _ | apply Le.drop))
  refine TOps.move rfl rfl ?_
  refine' TOps.andB 5 rfl rfl rfl rfl (fun hg1_6 => ?_) ?_; rotate_left
  · have hg1_6' := hg1_6
    try simp only [decide_eq_true_eq, decide_eq_false_iff_not, Bool.and_eq_true, Bool.or_eq_true, Bool.not_eq_true', Bool.and_eq_false_iff, Bool.or_eq_false_iff, Bool.not_eq_false', Int.not_lt, Int.not_le, ne_eq, Decidable.not_not] at hg1_6'
    refine TOps.strip 6 true rfl rfl hg1_6 rfl ?_
    refine TOps.move rfl rfl ?_
    refine TOps.move rfl rfl ?_
    refine TOps.shr (r := ((s >>> i : Nat) : Int)) rfl rfl (by omega) (by rw [Int.toNat_natCast]; exact ishr_nat (by omega)) rfl ?_
    refine TOps.and (r := ((s >>> i &&& 1 : Nat) : Int)) rfl rfl (iand_nat (Nat.lt_of_le_of_lt (Nat.shiftRight_le _ _) (by omega)) (by decide)) rfl ?_
    refine TOps.eqlIr (r := s.testBit i) rfl rfl (bitU_one s i) rfl ?_
    refine TOps.blk rfl (by repeat (first | exact Ext.refl _ | refine Ext.cons rfl ?_)) (by repeat (first | exact Le.refl _ | apply Le.drop))
  refine TOps.assign rfl rfl ?_
  refine TOps.next ?_
  refine Tri.ret1 (H' := H) Tryz.results63 (fun _ _ h => h) (.tmp rfl) (Le.refl _) ⟨?_, rfl⟩
  rw [decide_eq_true (show (0 : Int) ≤ ((i : Nat) : Int) by omega), decide_eq_true (show ((i : Nat) : Int) < 24 by omega)]; rfl
set_option maxHeartbeats 2000000 in
theorem all_g {H : List Ent} {a : Option Nat} {ca : Nat} {l : List Nat} (ha : SOk H a l) :
    Gives Tryz.prog 38 [slV a 0 l.length ca] H (NewT (fun q => Fam q (fun t => ∀ s ∈ l, t &&& s ≠ 0)) H) := by
  refine Gives.enter Tryz.func38 rfl (by exact Tryz.ntmps38) rfl ?_
  refine Tri.seq (Tri.region ?_)
  refine TOps.assign rfl rfl ?_
  refine TOps.assign rfl rfl ?_
  refine TOps.next ?_
  refine Tri.seq (Tri.region ?_)
  refine TOps.move rfl rfl ?_
  refine TOps.call (vs := [_]) Tryz.call62 ⟨rfl, trivial⟩ (minimalF_g ha) rfl ?_
  rintro _ _ ⟨ma, mc, m, f1, rfl, h1, rfl⟩
  have lm := f1.len
  refine TOps.move rfl rfl ?_
  refine TOps.extract rfl rfl rfl ?_
  refine TOps.extract rfl rfl rfl ?_
  refine TOps.assign rfl rfl ?_
  refine TOps.assign rfl rfl ?_
  refine TOps.next ?_
  refine Tri.seq ?_
  refine Tri.seq (Tri.region ?_)
  refine TOps.move rfl rfl ?_
  refine TOps.neqNil (T := 57) (o := none) rfl Tryz.underlying29 rfl ?_
  refine TOps.next ?_
  refine Tri.cond rfl (fun hc1 => ?_) (fun hc1 => ?_)
  · exact absurd hc1 (by first | decide | simp)
  try simp only [decide_eq_true_eq, decide_eq_false_iff_not, Bool.and_eq_true, Bool.or_eq_true, Bool.not_eq_true', Bool.and_eq_false_iff, Bool.or_eq_false_iff, Bool.not_eq_false', Int.not_lt, Int.not_le, ne_eq, Decidable.not_not, Option.isSome_iff_ne_none, Option.isNone_iff_eq_none] at hc1
  refine Tri.fin ?_
  refine Nrm.next ?_
  refine Tri.seq (Tri.region ?_)
  refine TOps.buildSlice (vs := [_]) (xs := [_]) Tryz.underlying35 ti3 ⟨rfl, rfl, trivial⟩ rfl rfl rfl rfl rfl rfl (by decide) rfl (fun b19 => ?_)
  refine TOps.assign rfl rfl ?_
  refine TOps.next ?_
  refine Tri.seq ?_
  refine Tri.seq (Tri.region ?_)
  refine TOps.move rfl rfl ?_
  refine TOps.len rfl Tryz.underlying35 rfl ?_
  refine TOps.move rfl rfl ?_
  refine TOps.next ?_
  refine Tri.range (X := Option Nat × Nat × List Nat) (fun x k => [(5, errV 57 none), (6, slV x.1 0 x.2.2.length x.2.1), (20, slV ma 0 m.length mc)]) (fun x k => row x.1 3 1 x.2.1 (nats (x.2.2)) :: row ma 3 1 mc (nats m) :: H) (fun x k => (x.2.2 ≠ [] → ∃ b, x.1 = some b) ∧ Fam x.2.2 (fun t => ∀ s ∈ m.take k, t &&& s ≠ 0)) (by omega) rfl rfl rfl (fun _ _ => ⟨rfl, rfl, rfl, rfl⟩) (some b19, 1, [0]) ⟨fun _ => ⟨_, rfl⟩, Fam.zero.congr (fun s => ⟨fun _ x hx => (by simp at hx), fun _ => trivial⟩)⟩ ⟨rfl, rfl, rfl, trivial⟩ (by repeat (first | exact Le.refl _ | assumption | apply Le.drop)) (fun k x hlt hp => ?_) (fun x ac wc hp hS hM => ?_)
  · skip
    obtain ⟨oa, oc, out⟩ := x
    obtain ⟨p1, p2⟩ := hp
    dsimp only at p1 p2 ⊢
    obtain ⟨b1, rfl⟩ := h1 (by intro h; rw [h] at hlt; exact absurd hlt (Nat.not_lt_zero k))
    have hrk : Rd (row oa 3 1 oc (nats (out)) :: row (some b1) 3 1 mc (nats m) :: H) b1 (0 + k) [natV m[k]] := Rd.part (Rd.all (by repeat (first | exact List.Mem.head _ | apply List.Mem.tail))) k (by simp [nats, hlt])
    have hmk := f1.lt _ (List.getElem_mem hlt)
    obtain ⟨sk, hsk⟩ : ∃ sk, sk = m[k] := ⟨_, rfl⟩
    rw [← hsk] at hrk hmk
    have lo := p2.len
    refine Tri.seq (Tri.region ?_)
    refine TOps.indexAddr (b := b1) (off := 0) (m := m.length) (cap := mc) (off' := 0 + k) rfl rfl Tryz.underlying35 ti3 (by omega) (by omega) (by simp) rfl ?_
    refine TOps.load1 rfl ti3 hrk rfl ?_
    refine TOps.assign rfl rfl ?_
    refine TOps.next ?_
    refine Tri.seq (Tri.region ?_)
    refine TOps.assign rfl rfl ?_
    refine TOps.next ?_
    refine Tri.seq ?_
    refine Tri.seq (Tri.region ?_)
    refine TOps.move rfl rfl ?_
    refine TOps.next ?_
    refine Tri.block ?_
    refine Tri.loop (X := Nat × Option Nat × Nat) (fun x => [(6, slV oa 0 out.length oc), (8, natV sk), (9, slV x.2.1 0 (singL sk x.1).length x.2.2), (20, slV (some b1) 0 m.length mc), (21, natV m.length), (22, natV k), (26, natV x.1)]) (fun x => row x.2.1 3 1 x.2.2 (nats ((singL sk x.1))) :: row oa 3 1 oc (nats (out)) :: row (some b1) 3 1 mc (nats m) :: H) (fun x => x.1 ≤ 24 ∧ (singL sk x.1 ≠ [] → ∃ b, x.2.1 = some b)) (fun x => 24 - x.1) (0, none, 0) ⟨Nat.zero_le _, fun h => absurd rfl h⟩ ⟨rfl, rfl, rfl, rfl, rfl, rfl, rfl, trivial⟩ Le.addNil (fun x hp => ?_)
    obtain ⟨j, wa, wc⟩ := x
    obtain ⟨hj24, hpj⟩ := hp
    dsimp only at hj24 hpj ⊢
    have hsl := singL_len sk j
    refine Tri.seq (Tri.region ?_)
    refine TOps.lss rfl rfl rfl ?_
    refine TOps.next ?_
    refine Tri.seq ?_
    refine Tri.cond rfl (fun hc2 => ?_) (fun hc2 => ?_)
    · try simp only [decide_eq_true_eq, decide_eq_false_iff_not, Bool.and_eq_true, Bool.or_eq_true, Bool.not_eq_true', Bool.and_eq_false_iff, Bool.or_eq_false_iff, Bool.not_eq_false', Int.not_lt, Int.not_le, ne_eq, Decidable.not_not, Option.isSome_iff_ne_none, Option.isNone_iff_eq_none] at hc2
      have hltj : j < 24 := by omega
      have hp2 : 2 ^ j < 2 ^ 24 := Nat.pow_lt_pow_right (by decide) hltj
      refine Tri.fin ?_
      refine Nrm.next ?_
      refine Tri.seq ?_
      refine Tri.block ?_
      refine Tri.seq (Tri.region ?_)
      refine TOps.move rfl rfl ?_
      refine TOps.assign rfl rfl ?_
      refine TOps.next ?_
      refine Tri.seq (Tri.region ?_)
      refine TOps.move rfl rfl ?_
      refine TOps.move rfl rfl ?_
      refine TOps.call (vs := [_, _]) Tryz.call63 ⟨rfl, rfl, trivial⟩ (setHas_g (by omega) hltj) rfl ?_
      rintro _ _ ⟨rfl, rfl⟩
      refine TOps.next ?_
      refine Tri.cond rfl (fun hc3 => ?_) (fun hc3 => ?_)
      · try simp only [decide_eq_true_eq, decide_eq_false_iff_not, Bool.and_eq_true, Bool.or_eq_true, Bool.not_eq_true', Bool.and_eq_false_iff, Bool.or_eq_false_iff, Bool.not_eq_false', Int.not_lt, Int.not_le, ne_eq, Decidable.not_not, Option.isSome_iff_ne_none, Option.isNone_iff_eq_none] at hc3
        refine Tri.region ?_
        refine TOps.move rfl rfl ?_
        refine TOps.move rfl rfl ?_
        refine TOps.shl (r := ((2 ^ j : Nat) : Int)) rfl rfl (by omega) (ishl_one (by omega)) rfl ?_
        refine TOps.buildSlice (vs := [_]) (xs := [_]) Tryz.underlying35 ti3 ⟨rfl, rfl, trivial⟩ rfl rfl rfl rfl rfl rfl (by decide) rfl (fun b35 => ?_)
        refine TOps.appendLit rfl rfl Tryz.underlying35 ti3 rfl (fun _ _ => (by repeat (first | exact Upd.here | apply Upd.there))) rfl (by simp [nats]) rfl (by omega) (by omega) (by simp) rfl (fun b36 c36 => ?_)
        have e1 : singL sk (j + 1) = singL sk j ++ [2 ^ j] := by rw [singL_succ, if_pos hc3]
        rw [show nats (singL sk j) ++ [Value.int .i64 ((2 ^ j : Nat) : Int)] = nats (singL sk (j + 1)) by rw [e1]; simp [nats], show (singL sk j).length + 1 = (singL sk (j + 1)).length by rw [e1]; simp]
        refine TOps.assign rfl rfl ?_
        refine TOps.fin ?_
        refine Nrm.unB ?_
        refine Nrm.next ?_
        refine Tri.region ?_
        refine TOps.add rfl rfl (wrapI (by omega) (by omega)) rfl ?_
        refine TOps.move rfl rfl ?_
        refine TOps.fin ?_
        first
         | refine Nrm.loop (j + 1, some b36, c36) ⟨hltj, fun _ => ⟨_, rfl⟩⟩ (by simp only; omega) ⟨rfl, rfl, rfl, rfl, rfl, rfl, rfl, trivial⟩ (by repeat (first | exact Le.refl _ | assumption | apply Le.drop))
         | refine Nrm.loop (j + 1, wa, wc) ⟨hltj, hpj⟩ (by simp only; omega) ⟨rfl, rfl, rfl, rfl, rfl, rfl, rfl, trivial⟩ (by repeat (first | exact Le.refl _ | assumption | apply Le.drop))
      try simp only [decide_eq_true_eq, decide_eq_false_iff_not, Bool.and_eq_true, Bool.or_eq_true, Bool.not_eq_true', Bool.and_eq_false_iff, Bool.or_eq_false_iff, Bool.not_eq_false', Int.not_lt, Int.not_le, ne_eq, Decidable.not_not, Option.isSome_iff_ne_none, Option.isNone_iff_eq_none] at hc3
      have e2 : singL sk (j + 1) = singL sk j := by rw [singL_succ, if_neg (by rw [hc3]; decide)]
      rw [← e2] at hpj ⊢
      refine Tri.fin ?_
      refine Nrm.unB ?_
      refine Nrm.next ?_
      refine Tri.region ?_
      refine TOps.add rfl rfl (wrapI (by omega) (by omega)) rfl ?_
      refine TOps.move rfl rfl ?_
      refine TOps.fin ?_
      first
       | refine Nrm.loop (j + 1, some b36, c36) ⟨hltj, fun _ => ⟨_, rfl⟩⟩ (by simp only; omega) ⟨rfl, rfl, rfl, rfl, rfl, rfl, rfl, trivial⟩ (by repeat (first | exact Le.refl _ | assumption | apply Le.drop))
       | refine Nrm.loop (j + 1, wa, wc) ⟨hltj, hpj⟩ (by simp only; omega) ⟨rfl, rfl, rfl, rfl, rfl, rfl, rfl, trivial⟩ (by repeat (first | exact Le.refl _ | assumption | apply Le.drop))
    try simp only [decide_eq_true_eq, decide_eq_false_iff_not, Bool.and_eq_true, Bool.or_eq_true, Bool.not_eq_true', Bool.and_eq_false_iff, Bool.or_eq_false_iff, Bool.not_eq_false', Int.not_lt, Int.not_le, ne_eq, Decidable.not_not, Option.isSome_iff_ne_none, Option.isNone_iff_eq_none] at hc2
    obtain rfl : j = 24 := by omega
    have hsl := singL_len sk 24
    first | refine Tri.exitW ?_ | (refine Tri.exitTo ?_; repeat (with_reducible first | refine ExitTo.blk ?_ | refine ExitTo.blkNe rfl ?_ | refine ExitTo.body ?_ | refine ExitTo.brk rfl ?_ | refine ExitTo.bodyNe rfl rfl ?_ | refine ExitTo.seq ?_ | refine ExitTo.loop ?_))
    refine Nrm.next ?_
    refine Tri.seq (Tri.region ?_)
    refine TOps.move rfl rfl ?_
    refine TOps.move rfl rfl ?_
    refine TOps.call (vs := [_, _]) Tryz.call64 ⟨rfl, rfl, trivial⟩ (product_g (l := out) (m := singL sk 24) ⟨RdS.ofRowA (List.Mem.tail _ (List.Mem.head _)) (fun h => p1 (nats_ne h)), p2.lt, by omega⟩ ⟨RdS.ofRowA (List.Mem.head _) (fun h => hpj (nats_ne h)), singL_lt hmk 24, by omega⟩) rfl ?_
    rintro _ _ ⟨va, vc, v, f4, rfl, h4, rfl⟩
    refine TOps.move rfl rfl ?_
    refine TOps.extract rfl rfl rfl ?_
    refine TOps.extract rfl rfl rfl ?_
    refine TOps.assign rfl rfl ?_
    refine TOps.assign rfl rfl ?_
    refine TOps.next ?_
    refine Tri.seq (Tri.region ?_)
    refine TOps.move rfl rfl ?_
    refine TOps.neqNil (T := 57) (o := none) rfl Tryz.underlying29 rfl ?_
    refine TOps.next ?_
    refine Tri.cond rfl (fun hc4 => ?_) (fun hc4 => ?_)
    · exact absurd hc4 (by first | decide | simp)
    try simp only [decide_eq_true_eq, decide_eq_false_iff_not, Bool.and_eq_true, Bool.or_eq_true, Bool.not_eq_true', Bool.and_eq_false_iff, Bool.or_eq_false_iff, Bool.not_eq_false', Int.not_lt, Int.not_le, ne_eq, Decidable.not_not, Option.isSome_iff_ne_none, Option.isNone_iff_eq_none] at hc4
    refine Tri.fin ?_
    refine Nrm.body (va, vc, v) ⟨h4, f4.congr (fun s => by rw [p2.upw s, up_sing hmk, List.take_succ_eq_append_getElem hlt, ← hsk]; simp [or_imp, forall_and])⟩ ⟨rfl, rfl, rfl, rfl, rfl, trivial⟩ (Sp.le (by repeat (first | exact Sp.refl _ | exact Sp.sub (by assumption) | refine Sp.cons (by repeat (first | exact Pick.here | apply Pick.there)) ?_ | exact Sp.nil | apply Sp.skip)))
  obtain ⟨oa, oc, out⟩ := x
  obtain ⟨p1, p2⟩ := hp
  rw [List.take_length] at p2
  dsimp only at p1 p2 hS hM
  refine Nrm.of hS hM ?_
  refine Nrm.next ?_
  refine Tri.seq (Tri.region ?_)
  refine TOps.move rfl rfl ?_
  refine TOps.assign rfl rfl ?_
  refine TOps.assign rfl rfl ?_
  refine TOps.next ?_
  refine Tri.ret2 (H' := row oa 3 1 oc (nats (out)) :: H) Tryz.results38 (fun _ _ h => h) (.tmp rfl) (.tmp rfl) (Sp.le (by repeat (first | exact Sp.refl _ | exact Sp.sub (by assumption) | refine Sp.cons (by repeat (first | exact Pick.here | apply Pick.there)) ?_ | exact Sp.nil | apply Sp.skip))) ⟨oa, oc, out, p2.congr (fun s => f1.meets s), rfl, p1, rfl⟩
theorem hdual_g {H : List Ent} {a b : Option Nat} {ca cb : Nat} {l m : List Nat} (ha : SOk H a l) (hb : SOk H b m) :
    Gives Tryz.prog 14 [slV a 0 l.length ca, slV b 0 m.length cb] H (fun u H' => ∃ q r, Fam q (fun t => ∀ s ∈ l, t &&& s ≠ 0) ∧ Fam r (fun s => up m s) ∧ u = .tuple (List.toArray [.bool (decide (q = r)), errV 57 none]) ∧ H = H') := by
  refine Gives.enter Tryz.func14 rfl (by exact Tryz.ntmps14) rfl ?_
  refine Tri.seq (Tri.region ?_)
  refine TOps.assign rfl rfl ?_
  refine TOps.assign rfl rfl ?_
  refine TOps.next ?_
  refine Tri.seq ?_
  refine Tri.seq (Tri.region ?_)
  refine TOps.move rfl rfl ?_
  refine TOps.move rfl rfl ?_
  refine TOps.call (vs := [_, _]) Tryz.call37 ⟨rfl, rfl, trivial⟩ (same_g ha hb) rfl ?_
  rintro _ _ ⟨q0, r0, g1, g2, rfl, rfl⟩
  refine TOps.move rfl rfl ?_
  refine TOps.extract rfl rfl rfl ?_
  refine TOps.extract rfl rfl rfl ?_
  refine TOps.assign rfl rfl ?_
  refine TOps.assign rfl rfl ?_
  refine TOps.next ?_
  refine Tri.seq (Tri.region ?_)
  refine TOps.move rfl rfl ?_
  refine TOps.neqNil (T := 57) (o := none) rfl Tryz.underlying29 rfl ?_
  refine TOps.next ?_
  refine Tri.cond rfl (fun hc1 => ?_) (fun hc1 => ?_)
  · exact absurd hc1 (by first | decide | simp)
  try simp only [decide_eq_true_eq, decide_eq_false_iff_not, Bool.and_eq_true, Bool.or_eq_true, Bool.not_eq_true', Bool.and_eq_false_iff, Bool.or_eq_false_iff, Bool.not_eq_false', Int.not_lt, Int.not_le, ne_eq, Decidable.not_not, Option.isSome_iff_ne_none, Option.isNone_iff_eq_none] at hc1
  refine Tri.fin ?_
  refine Nrm.next ?_
  refine Tri.seq (Tri.region ?_)
  refine TOps.move rfl rfl ?_
  refine TOps.call (vs := [_]) Tryz.call38 ⟨rfl, trivial⟩ (all_g ha) rfl ?_
  rintro _ _ ⟨va, vc, v, f4, rfl, h4, rfl⟩
  have lv := f4.len
  refine TOps.move rfl rfl ?_
  refine TOps.extract rfl rfl rfl ?_
  refine TOps.extract rfl rfl rfl ?_
  refine TOps.assign rfl rfl ?_
  refine TOps.assign rfl rfl ?_
  refine TOps.next ?_
  refine Tri.seq ?_
  refine Tri.seq (Tri.region ?_)
  refine TOps.move rfl rfl ?_
  refine TOps.neqNil (T := 57) (o := none) rfl Tryz.underlying29 rfl ?_
  refine TOps.next ?_
  refine Tri.cond rfl (fun hc2 => ?_) (fun hc2 => ?_)
  · exact absurd hc2 (by first | decide | simp)
  try simp only [decide_eq_true_eq, decide_eq_false_iff_not, Bool.and_eq_true, Bool.or_eq_true, Bool.not_eq_true', Bool.and_eq_false_iff, Bool.or_eq_false_iff, Bool.not_eq_false', Int.not_lt, Int.not_le, ne_eq, Decidable.not_not, Option.isSome_iff_ne_none, Option.isNone_iff_eq_none] at hc2
  refine Tri.fin ?_
  refine Nrm.next ?_
  refine Tri.seq (Tri.region ?_)
  refine TOps.move rfl rfl ?_
  refine TOps.move rfl rfl ?_
  refine TOps.call (vs := [_, _]) Tryz.call37 ⟨rfl, rfl, trivial⟩ (same_g (l := v) ⟨RdS.ofRowA (List.Mem.head _) (fun h => h4 (nats_ne h)), f4.lt, by omega⟩ (hb.le (Le.drop (Le.refl _)))) rfl ?_
  rintro _ _ ⟨q1, r1, g3, g4, rfl, rfl⟩
  refine TOps.extract rfl rfl rfl ?_
  refine TOps.extract rfl rfl rfl ?_
  refine TOps.assign rfl rfl ?_
  refine TOps.assign rfl rfl ?_
  refine TOps.next ?_
  refine Tri.ret2 (H' := H) Tryz.results14 (fun _ _ h => h) (.tmp rfl) (.tmp rfl) (Le.drop (Le.refl _)) ⟨q1, r1, g3.congr f4.upw, g4, rfl, rfl⟩
end Go.Proofs
namespace Go.Proofs
open Go.GL
set_option linter.unusedVariables false
set_option linter.unusedSimpArgs false
def NewE (p : List Nat → Prop) (bad : Prop) (H : List Ent) : Value → List Ent → Prop := fun u H' => ∃ a cap l e, u = .tuple (List.toArray [slV a 0 l.length cap, errV 57 e]) ∧ (e = none → p l) ∧ (e ≠ none → e = some 4 ∧ bad) ∧ (l ≠ [] → ∃ b, a = some b) ∧ row a 3 1 cap (nats l) :: H = H'
def valU (F : Fm) (v s : Nat) : Bool := F.value ((s % 2 ^ v : Nat) : Int)
theorem RunI.fam {F : Fm} {v : Nat} {l : List Rw} {c : List Nat} (h : RunI F v l) (hg : F.Good) (hvF : F.vars = v) (hv : v ≤ 8) (ht : topS l = 0) (hp : c.Perm (l.map (fun r => r.ev))) (hc : c.Pairwise (fun x y => ¬ ltS y x)) : Fam c (fun s => valU F v s = true) := by
  have hz : ∀ r ∈ l, r.n0 = 0 ∧ r.n1 = 0 := fun r hr => Rw.top0 (h.fit r hr) (by have := topS_le hr; omega)
  have h28 : 2 ^ v ≤ 2 ^ 8 := Nat.pow_le_pow_right (by decide) hv
  have hlt : ∀ x ∈ l.map (fun r => r.ev), x < 2 ^ v := by
    intro x hx
    obtain ⟨r, hr, rfl⟩ := List.mem_map.1 hx
    exact (h.fit r hr).e
  have hsz : ∀ r ∈ l, szR r = pp 24 r.ev := by
    intro r hr
    obtain ⟨h0, h1⟩ := hz r hr
    unfold szR
    rw [h0, h1]
    show pp 24 r.ev + c64 0 + c64 0 = _
    simp only [c64_zero, Nat.add_zero]
  have hcan : Go.GL.Can c := by
    refine evs_can (l := l.map (fun r => r.ev)) (fun x hx => by have := hlt x hx; omega) ?_ ?_ hp hc
    · rw [List.pairwise_map]
      refine h.siz.imp_of_mem (fun {a b} ha hb hab => ?_)
      rw [hsz a ha, hsz b hb] at hab
      exact hab
    · rw [List.pairwise_map]
      refine h.apt.imp_of_mem (fun {a b} ha hb hab => ?_)
      rw [Rw.part0 (hz a ha).1 (hz a ha).2] at hab
      exact hab
  refine ⟨hcan, fun x hx => by have := hlt x (hp.mem_iff.1 hx); omega, fun s => ?_⟩
  rw [← up_mod (v := v) (fun x hx => hlt x (hp.mem_iff.1 hx)) s]
  unfold valU
  rw [← h.sem]
  have hsv : s % 2 ^ v < 2 ^ v := Nat.mod_lt _ (Nat.two_pow_pos v)
  have hT : ∀ e, e < v → F.val ((s % 2 ^ v : Nat) : Int) e = (s % 2 ^ v).testBit e := fun e he => by
    rw [Fm.val_event F _ (by omega), bitB_nat (by omega) (by omega)]
  constructor
  · rintro ⟨x, hx, hs⟩
    obtain ⟨r, hr, rfl⟩ := List.mem_map.1 (hp.mem_iff.1 hx)
    exact ⟨r, hr, (Rw.holds0 (h.fit r hr) (hz r hr).1 (hz r hr).2 hT).2 hs⟩
  · rintro ⟨r, hr, hs⟩
    exact ⟨r.ev, hp.mem_iff.2 (List.mem_map.2 ⟨r, hr, rfl⟩), (Rw.holds0 (h.fit r hr) (hz r hr).1 (hz r hr).2 hT).1 hs⟩
def RunU (F : Fm) (v : Nat) (H : List Ent) : Value → List Ent → Prop := fun u H' => ∃ oa oc l w e, u = .tuple (List.toArray [slV oa 0 l.length oc, w, errV 57 e]) ∧ (e = none → RunI F v l ∧ topS l = 0) ∧ (e ≠ none → e = some 4 ∧ ¬ smallF F) ∧ (l ≠ [] → ∃ b, oa = some b) ∧ row oa 66 3 oc (rwV l) :: H = H'
theorem runU_g {H : List Ent} {fv : Value} {F : Fm} {v : Nat} (hF : RFC H fv F) (hk : F.ok) (hg : F.Good) (hs : F.syn = true) (hvF : F.vars = v) (hv : v ≤ 24) (hlen : ∀ d ∈ F.nodes, d.args.length ≤ 1000) :
    Gives Tryz.prog 26 [fv] H (RunU F v H) := by
  refine Gives.mono (run_g hF hk hg hs hvF hv hlen) ?_
  rintro u H' (⟨rfl, h1, rfl⟩ | ⟨oa, oc, l, w, h1, h2, h3, rfl, rfl⟩)
  · exact ⟨_, ⟨none, 0, [], slV none 0 0 0, some 4, rfl, fun h => (by cases h), fun _ => ⟨rfl, h1⟩, fun h => absurd rfl h, rfl⟩, Le.addNil⟩
  · exact ⟨_, ⟨oa, oc, l, w, none, rfl, fun _ => ⟨h1, h2⟩, fun h => absurd rfl h, h3, rfl⟩, Le.refl _⟩
set_option maxHeartbeats 1000000 in
theorem cuts_g {H : List Ent} {fv : Value} {F : Fm} {v : Nat} (hF : RFC H fv F) (hk : F.ok) (hg : F.Good) (hs : F.syn = true) (hvF : F.vars = v) (hv : v ≤ 8) (hlen : ∀ d ∈ F.nodes, d.args.length ≤ 1000) :
    Gives Tryz.prog 10 [fv] H (NewE (fun q => Fam q (fun s => valU F v s = true)) (¬ smallF F) H) := by
  have hF0 := hF
  obtain ⟨na, no, cap, nsp, rfl, hN⟩ := hF
  refine Gives.enter Tryz.func10 rfl (by exact Tryz.ntmps10) rfl ?_
  refine Tri.seq (Tri.region ?_)
  refine TOps.boxN rfl ti24 rfl rfl (fun b1 => ?_)
  refine TOps.hide (fun H1 l1 s1 r1 => ?_)
  replace hF0 := hF0.le l1
  refine TOps.assign rfl rfl ?_
  refine TOps.assign rfl rfl ?_
  refine TOps.next ?_
  refine Tri.seq (Tri.region ?_)
  refine TOps.loadN (vs := [.int .i64 F.vars, slV na no F.nodes.length cap nsp, .int .i64 F.top]) rfl ti24 r1 rfl rfl ?_
  refine TOps.call (vs := [_]) Tryz.call26 ⟨rfl, trivial⟩ (runU_g hF0 hk hg hs hvF (by omega) hlen) rfl ?_
  rintro _ _ ⟨oa, oc, l, w0, er, rfl, p1, p2, p3, rfl⟩
  refine TOps.move rfl rfl ?_
  refine TOps.extract rfl rfl rfl ?_
  refine TOps.extract rfl rfl rfl ?_
  refine TOps.extract rfl rfl rfl ?_
  refine TOps.assign rfl rfl ?_
  refine TOps.assign rfl rfl ?_
  refine TOps.assign rfl rfl ?_
  refine TOps.next ?_
  refine Tri.seq ?_
  refine Tri.seq (Tri.region ?_)
  refine TOps.move rfl rfl ?_
  refine TOps.neqNil (T := 57) (o := er) rfl Tryz.underlying29 rfl ?_
  refine TOps.next ?_
  refine Tri.cond rfl (fun hc1 => ?_) (fun hc1 => ?_)
  · try simp only [decide_eq_true_eq, decide_eq_false_iff_not, Bool.and_eq_true, Bool.or_eq_true, Bool.not_eq_true', Bool.and_eq_false_iff, Bool.or_eq_false_iff, Bool.not_eq_false', Int.not_lt, Int.not_le, ne_eq, Decidable.not_not, Option.isSome_iff_ne_none, Option.isNone_iff_eq_none] at hc1
    obtain ⟨rfl, hns⟩ := p2 hc1
    refine Tri.seq (Tri.region ?_)
    refine TOps.move rfl rfl ?_
    refine TOps.assign rfl rfl ?_
    refine TOps.assign rfl rfl ?_
    refine TOps.next ?_
    refine Tri.ret2 (H' := row none 3 1 0 (nats []) :: H) Tryz.results10 (fun _ _ h => h) (.tmp rfl) (.tmp rfl) (Le.trans (Le.drop l1) Le.addNil) ⟨none, 0, [], some 4, rfl, fun h => (by cases h), fun _ => ⟨rfl, hns⟩, fun h => absurd rfl h, rfl⟩
  try simp only [decide_eq_true_eq, decide_eq_false_iff_not, Bool.and_eq_true, Bool.or_eq_true, Bool.not_eq_true', Bool.and_eq_false_iff, Bool.or_eq_false_iff, Bool.not_eq_false', Int.not_lt, Int.not_le, ne_eq, Decidable.not_not, Option.isSome_iff_ne_none, Option.isNone_iff_eq_none] at hc1
  obtain rfl : er = none := by simpa using hc1
  obtain ⟨q1, q2⟩ := p1 rfl
  have hll := q1.len
  have h28 : 2 ^ v ≤ 2 ^ 8 := Nat.pow_le_pow_right (by decide) hv
  refine Tri.fin ?_
  refine Nrm.next ?_
  refine Tri.seq (Tri.region ?_)
  refine TOps.assign rfl rfl ?_
  refine TOps.next ?_
  refine Tri.seq ?_
  refine Tri.seq (Tri.region ?_)
  refine TOps.move rfl rfl ?_
  refine TOps.len rfl Tryz.underlying60 rfl ?_
  refine TOps.move rfl rfl ?_
  refine TOps.next ?_
  refine Tri.range (X := Option Nat × Nat) (fun x k => [(7, slV x.1 0 k x.2), (19, slV oa 0 l.length oc)]) (fun x k => row x.1 3 1 x.2 (nats ((l.take (k)).map (fun r => r.ev))) :: row oa 66 3 oc (rwV l) :: H1) (fun x k => (k ≠ 0 → ∃ b, x.1 = some b)) (by omega) rfl rfl rfl (fun _ _ => ⟨rfl, rfl, rfl, rfl⟩) (none, 0) (fun h => absurd rfl h) ⟨rfl, rfl, trivial⟩ Le.addNil (fun k x hlt hp => ?_) (fun x ac wc hp hS hM => ?_)
  · skip
    obtain ⟨ya, yc⟩ := x
    dsimp only at hp ⊢
    obtain ⟨ob, rfl⟩ := p3 (by intro h; rw [h] at hlt; exact absurd hlt (Nat.not_lt_zero k))
    have hrk : Rd (row ya 3 1 yc (nats ((l.take (k)).map (fun r => r.ev))) :: row (some ob) 66 3 oc (rwV l) :: H1) ob (k * 3) (gL l k).cells := rwV_rd (List.Mem.tail _ (List.Mem.head _)) hlt
    rw [gL_get hlt] at hrk
    obtain ⟨rk, hrk2⟩ : ∃ rk, rk = l[k] := ⟨_, rfl⟩
    rw [← hrk2] at hrk
    refine Tri.seq (Tri.region ?_)
    refine TOps.indexAddr (b := ob) (off := 0) (m := l.length) (cap := oc) (off' := k * 3) rfl rfl Tryz.underlying60 ti66 (by omega) (by omega) (by simp) rfl ?_
    refine TOps.loadN (vs := rk.cells) rfl ti66 hrk rfl rfl ?_
    refine TOps.alloc ti66 rfl (fun b9 => ?_)
    refine TOps.storeN rfl rfl ti66 rfl rfl (by repeat (first | exact Upd.here | apply Upd.there)) (by first | decide | (simp; done) | (simp; omega)) ?_
    refine TOps.le (H' := row (some b9) 66 3 1 rk.cells :: row ya 3 1 yc (nats ((l.take (k)).map (fun r => r.ev))) :: row (some ob) 66 3 oc (rwV l) :: H1) (Sp.le (by repeat (first | exact Sp.refl _ | exact Sp.sub (by assumption) | refine Sp.cons (by repeat (first | exact Pick.here | apply Pick.there)) ?_ | exact Sp.nil | apply Sp.skip))) ?_
    refine TOps.next ?_
    refine Tri.region ?_
    refine TOps.move rfl rfl ?_
    refine TOps.field0 rfl Tryz.underlying66 rfl rfl ti3 rfl rfl rfl ?_
    refine TOps.load1 (v := natV rk.ev) rfl ti3 (Rd.fld (Rd.all (List.Mem.head _)) 0 rfl) rfl ?_
    refine TOps.buildSlice (vs := [_]) (xs := [_]) Tryz.underlying35 ti3 ⟨rfl, rfl, trivial⟩ rfl rfl rfl rfl rfl rfl (by decide) rfl (fun b28 => ?_)
    refine TOps.appendLit rfl rfl Tryz.underlying35 ti3 rfl (fun _ _ => (by repeat (first | exact Upd.here | apply Upd.there))) rfl (by simp [nats, List.length_take]; omega) rfl (by omega) (by omega) (by simp) rfl (fun b29 c29 => ?_)
    refine TOps.le (H' := row (some b29) 3 1 c29 (nats ((l.take ((k + 1))).map (fun r => r.ev))) :: row (some ob) 66 3 oc (rwV l) :: H1) (by rw [List.take_succ_eq_append_getElem hlt, ← hrk2, List.map_append, nats_app]; exact (Sp.le (by repeat (first | exact Sp.refl _ | exact Sp.sub (by assumption) | refine Sp.cons (by repeat (first | exact Pick.here | apply Pick.there)) ?_ | exact Sp.nil | apply Sp.skip)))) ?_
    refine TOps.assign rfl rfl ?_
    refine TOps.fin ?_
    refine Nrm.body (some b29, c29) (fun _ => ⟨_, rfl⟩) ⟨rfl, rfl, rfl, rfl, trivial⟩ (by repeat (first | exact Le.refl _ | assumption | apply Le.drop))
  simp only [List.take_length] at hS hM hp
  obtain ⟨c, hcd⟩ : ∃ c, c = l.map (fun r => r.ev) := ⟨_, rfl⟩
  have hcl : c.length = l.length := by rw [hcd, List.length_map]
  rw [← hcd] at hM
  rw [← hcl] at hS hp
  have hcb : ∀ x ∈ c, x < 16777216 := fun x hx => by rw [hcd] at hx; obtain ⟨r, hr, rfl⟩ := List.mem_map.1 hx; have := (q1.fit r hr).e; omega
  refine Nrm.of hS hM ?_
  refine Nrm.next ?_
  refine Tri.seq (Tri.region ?_)
  refine TOps.move rfl rfl ?_
  refine TOps.call (vs := [_, _]) Tryz.call27 ⟨rfl, rfl, trivial⟩ (sortAny_g (l := c) (fun h => hp (fun h2 => h (List.eq_nil_of_length_eq_zero h2))) hcb (by omega)) rfl ?_
  rintro _ _ ⟨rfl, c2, hP, hS2, rfl⟩
  refine TOps.next ?_
  refine Tri.seq (Tri.region ?_)
  refine TOps.move rfl rfl ?_
  refine TOps.assign rfl rfl ?_
  refine TOps.assign rfl rfl ?_
  refine TOps.next ?_
  refine Tri.ret2 (H' := row x.1 3 1 x.2 (nats c2) :: H) Tryz.results10 (fun _ _ h => h) (.tmp rfl) (.tmp rfl) (Le.keep (s1.cons _)) ⟨x.1, x.2, c2, none, (by rw [← hP.length_eq]; rfl), fun _ => q1.fam hg hvF hv q2 (by rw [← hcd]; exact hP) hS2, fun h => absurd rfl h, fun h => hp (fun h2 => h (List.eq_nil_of_length_eq_zero (by rw [hP.length_eq]; exact h2))), rfl⟩
end Go.Proofs
namespace Go.Proofs
open Go.GL
set_option linter.unusedVariables false
set_option linter.unusedSimpArgs false
def PLs (H : List Ent) (L : List (Option Nat × Nat × List Nat)) (pr : Nat → Nat → Prop) : Prop := ∀ i, (hi : i < L.length) → RdS H L[i].1 0 (nats L[i].2.2) ∧ Fam L[i].2.2 (pr i)
theorem PLs.le {H H' : List Ent} {L : List (Option Nat × Nat × List Nat)} {pr : Nat → Nat → Prop} (h : PLs H L pr) (hl : Le H' H) : PLs H' L pr := fun i hi => ⟨(h i hi).1.le hl, (h i hi).2⟩
theorem PLs.s {H : List Ent} {L : List (Option Nat × Nat × List Nat)} {pr : Nat → Nat → Prop} (h : PLs H L pr) {i : Nat} (hi : i < L.length) : SOk H L[i].1 L[i].2.2 := ⟨(h i hi).1, (h i hi).2.lt, by have := (h i hi).2.len; omega⟩
theorem slsS_at {H : List Ent} {oa sp : Option Nat} {o : Nat} {L : List (Option Nat × Nat × List Nat)} (h : RdS H oa o (sls L) sp) {k : Nat} (hk : k < L.length) : ∃ b, oa = some b ∧ sp = none ∧ Rd H b (o + k) [slV L[k].1 0 L[k].2.2.length L[k].2.1] := by
  obtain ⟨b, h1, h2, h3⟩ := RdS.at h (i := k) (by simp [sls, hk])
  refine ⟨b, h1, h2, ?_⟩
  simpa [sls] using h3
def NewP (p : List Nat → Prop) (H : List Ent) : Value → List Ent → Prop := fun u H' => ∃ a cap l N, p l ∧ u = .tuple (List.toArray [slV a 0 l.length cap, errV 57 none]) ∧ RdS N a 0 (nats l) ∧ N ++ H = H'
theorem NewT.p {pr : List Nat → Prop} {H H' : List Ent} {u : Value} (h : NewT pr H u H') : NewP pr H u H' := by
  obtain ⟨a, c, l, h1, h2, h3, h4⟩ := h
  exact ⟨a, c, l, [row a 3 1 c (nats l)], h1, h2, RdS.ofRowA (List.Mem.head _) (fun h => h3 (nats_ne h)), h4⟩
theorem por_g {H : List Ent} {oa sp : Option Nat} {o cap : Nat} {L : List (Option Nat × Nat × List Nat)} {pr : Nat → Nat → Bool} (hr : RdS H oa o (sls L) sp) (hL : PLs H L (fun i t => pr i t = true)) (hl : L.length ≤ 1000) :
    Gives Tryz.prog 56 [slV oa o L.length cap sp] H (NewT (fun q => Fam q (fun t => ∀ i, i < L.length → pr i t = true)) H) := by
  refine Gives.enter Tryz.func56 rfl (by exact Tryz.ntmps56) rfl ?_
  refine Tri.seq (Tri.region ?_)
  refine TOps.assign rfl rfl ?_
  refine TOps.assign rfl rfl ?_
  refine TOps.next ?_
  refine Tri.seq (Tri.region ?_)
  refine TOps.buildSlice (vs := [_]) (xs := [_]) Tryz.underlying35 ti3 ⟨rfl, rfl, trivial⟩ rfl rfl rfl rfl rfl rfl (by decide) rfl (fun b8 => ?_)
  refine TOps.assign rfl rfl ?_
  refine TOps.next ?_
  refine Tri.seq (Tri.region ?_)
  refine TOps.assign rfl rfl ?_
  refine TOps.next ?_
  refine Tri.seq ?_
  refine Tri.seq (Tri.region ?_)
  refine TOps.move rfl rfl ?_
  refine TOps.len rfl Tryz.underlying69 rfl ?_
  refine TOps.move rfl rfl ?_
  refine TOps.next ?_
  refine Tri.range (X := Option Nat × Nat × List Nat) (fun x k => [(4, slV x.1 0 x.2.2.length x.2.1), (9, slV oa o L.length cap sp)]) (fun x k => row x.1 3 1 x.2.1 (nats (x.2.2)) :: H) (fun x k => (x.2.2 ≠ [] → ∃ b, x.1 = some b) ∧ Fam x.2.2 (fun t => ∀ i, i < k → pr i t = true)) (by omega) rfl rfl rfl (fun _ _ => ⟨rfl, rfl, rfl, rfl⟩) (some b8, 1, [0]) ⟨fun _ => ⟨_, rfl⟩, Fam.zero.congr (fun s => ⟨fun _ i hi => absurd hi (Nat.not_lt_zero i), fun _ => trivial⟩)⟩ ⟨rfl, rfl, trivial⟩ (by repeat (first | exact Le.refl _ | assumption | apply Le.drop)) (fun k x hlt hp => ?_) (fun x ac wc hp hS hM => ?_)
  · skip
    obtain ⟨oa2, oc, out⟩ := x
    obtain ⟨p1, p2⟩ := hp
    dsimp only at p1 p2 ⊢
    obtain ⟨rb, hra, hsp, hrk⟩ := slsS_at hr hlt
    have hLk := hL k hlt
    have hs := hL.s hlt
    have lo := p2.len
    refine Tri.seq (Tri.region ?_)
    refine TOps.indexAddr (b := rb) (off := o) (m := L.length) (cap := cap) (off' := o + k) (by rw [hra, hsp]; rfl) rfl Tryz.underlying69 ti35 (by omega) (by omega) (by simp) rfl ?_
    refine TOps.load1 rfl ti35 hrk.up rfl ?_
    refine TOps.assign rfl rfl ?_
    refine TOps.next ?_
    refine Tri.seq (Tri.region ?_)
    refine TOps.move rfl rfl ?_
    refine TOps.move rfl rfl ?_
    refine TOps.call (vs := [_, _]) Tryz.call64 ⟨rfl, rfl, trivial⟩ (product_g (l := out) ⟨RdS.ofRowA (List.Mem.head _) (fun h => p1 (nats_ne h)), p2.lt, by omega⟩ (hs.le (Le.drop (Le.refl _)))) rfl ?_
    rintro _ _ ⟨va, vc, v, f4, rfl, h4, rfl⟩
    refine TOps.move rfl rfl ?_
    refine TOps.extract rfl rfl rfl ?_
    refine TOps.extract rfl rfl rfl ?_
    refine TOps.assign rfl rfl ?_
    refine TOps.assign rfl rfl ?_
    refine TOps.next ?_
    refine Tri.seq (Tri.region ?_)
    refine TOps.move rfl rfl ?_
    refine TOps.neqNil (T := 57) (o := none) rfl Tryz.underlying29 rfl ?_
    refine TOps.next ?_
    refine Tri.cond rfl (fun hc1 => ?_) (fun hc1 => ?_)
    · exact absurd hc1 (by first | decide | simp)
    try simp only [decide_eq_true_eq, decide_eq_false_iff_not, Bool.and_eq_true, Bool.or_eq_true, Bool.not_eq_true', Bool.and_eq_false_iff, Bool.or_eq_false_iff, Bool.not_eq_false', Int.not_lt, Int.not_le, ne_eq, Decidable.not_not, Option.isSome_iff_ne_none, Option.isNone_iff_eq_none] at hc1
    refine Tri.fin ?_
    refine Nrm.body (va, vc, v) ⟨h4, f4.congr (fun s => by
      rw [p2.upw s, hLk.2.upw s]
      constructor
      · rintro ⟨h1, h2⟩ i hi
        rcases Nat.lt_or_ge i k with h | h
        · exact h1 i h
        · obtain rfl : i = k := by omega
          exact h2
      · intro h
        exact ⟨fun i hi => h i (by omega), h k (by omega)⟩)⟩ ⟨rfl, rfl, rfl, rfl, trivial⟩ (Sp.le (by repeat (first | exact Sp.refl _ | exact Sp.sub (by assumption) | refine Sp.cons (by repeat (first | exact Pick.here | apply Pick.there)) ?_ | exact Sp.nil | apply Sp.skip)))
  refine Nrm.of hS hM ?_
  refine Nrm.next ?_
  refine Tri.seq (Tri.region ?_)
  refine TOps.move rfl rfl ?_
  refine TOps.assign rfl rfl ?_
  refine TOps.assign rfl rfl ?_
  refine TOps.next ?_
  refine Tri.ret2 (H' := row x.1 3 1 x.2.1 (nats (x.2.2)) :: H) Tryz.results56 (fun _ _ h => h) (.tmp rfl) (.tmp rfl) (Le.refl _) ⟨x.1, x.2.1, x.2.2, hp.2, rfl, hp.1, rfl⟩
theorem pand_g {H : List Ent} {oa sp : Option Nat} {o cap : Nat} {L : List (Option Nat × Nat × List Nat)} {pr : Nat → Nat → Bool} (hr : RdS H oa o (sls L) sp) (hL : PLs H L (fun i t => pr i t = true)) (hl : L.length ≤ 1000) :
    Gives Tryz.prog 57 [slV oa o L.length cap sp] H (NewT (fun q => Fam q (fun t => ∃ i, i < L.length ∧ pr i t = true)) H) := by
  refine Gives.enter Tryz.func57 rfl (by exact Tryz.ntmps57) rfl ?_
  refine Tri.seq (Tri.region ?_)
  refine TOps.assign rfl rfl ?_
  refine TOps.assign rfl rfl ?_
  refine TOps.next ?_
  refine Tri.seq (Tri.region ?_)
  refine TOps.assign rfl rfl ?_
  refine TOps.next ?_
  refine Tri.seq (Tri.region ?_)
  refine TOps.assign rfl rfl ?_
  refine TOps.next ?_
  refine Tri.seq ?_
  refine Tri.seq (Tri.region ?_)
  refine TOps.move rfl rfl ?_
  refine TOps.len rfl Tryz.underlying69 rfl ?_
  refine TOps.move rfl rfl ?_
  refine TOps.next ?_
  refine Tri.range (X := Option Nat × Nat × List Nat) (fun x k => [(4, slV x.1 0 x.2.2.length x.2.1), (8, slV oa o L.length cap sp)]) (fun x k => row x.1 3 1 x.2.1 (nats (x.2.2)) :: H) (fun x k => (x.2.2 ≠ [] → ∃ b, x.1 = some b) ∧ Fam x.2.2 (fun t => ∃ i, i < k ∧ pr i t = true)) (by omega) rfl rfl rfl (fun _ _ => ⟨rfl, rfl, rfl, rfl⟩) (none, 0, []) ⟨fun h => absurd rfl h, Fam.none.congr (fun s => ⟨fun h => h.elim, fun h => by obtain ⟨i, hi, _⟩ := h; exact absurd hi (Nat.not_lt_zero i)⟩)⟩ ⟨rfl, rfl, trivial⟩ Le.addNil (fun k x hlt hp => ?_) (fun x ac wc hp hS hM => ?_)
  · skip
    obtain ⟨oa2, oc, out⟩ := x
    obtain ⟨p1, p2⟩ := hp
    dsimp only at p1 p2 ⊢
    obtain ⟨rb, hra, hsp, hrk⟩ := slsS_at hr hlt
    have hLk := hL k hlt
    have hs := hL.s hlt
    have lo := p2.len
    refine Tri.seq (Tri.region ?_)
    refine TOps.indexAddr (b := rb) (off := o) (m := L.length) (cap := cap) (off' := o + k) (by rw [hra, hsp]; rfl) rfl Tryz.underlying69 ti35 (by omega) (by omega) (by simp) rfl ?_
    refine TOps.load1 rfl ti35 hrk.up rfl ?_
    refine TOps.assign rfl rfl ?_
    refine TOps.next ?_
    refine Tri.seq (Tri.region ?_)
    refine TOps.move rfl rfl ?_
    refine TOps.move rfl rfl ?_
    refine TOps.call (vs := [_, _]) Tryz.call87 ⟨rfl, rfl, trivial⟩ (plus_g (l := out) ⟨RdS.ofRowA (List.Mem.head _) (fun h => p1 (nats_ne h)), p2.lt, by omega⟩ (hs.le (Le.drop (Le.refl _)))) rfl ?_
    rintro _ _ ⟨va, vc, v, f4, rfl, h4, rfl⟩
    refine TOps.move rfl rfl ?_
    refine TOps.extract rfl rfl rfl ?_
    refine TOps.extract rfl rfl rfl ?_
    refine TOps.assign rfl rfl ?_
    refine TOps.assign rfl rfl ?_
    refine TOps.next ?_
    refine Tri.seq (Tri.region ?_)
    refine TOps.move rfl rfl ?_
    refine TOps.neqNil (T := 57) (o := none) rfl Tryz.underlying29 rfl ?_
    refine TOps.next ?_
    refine Tri.cond rfl (fun hc1 => ?_) (fun hc1 => ?_)
    · exact absurd hc1 (by first | decide | simp)
    try simp only [decide_eq_true_eq, decide_eq_false_iff_not, Bool.and_eq_true, Bool.or_eq_true, Bool.not_eq_true', Bool.and_eq_false_iff, Bool.or_eq_false_iff, Bool.not_eq_false', Int.not_lt, Int.not_le, ne_eq, Decidable.not_not, Option.isSome_iff_ne_none, Option.isNone_iff_eq_none] at hc1
    refine Tri.fin ?_
    refine Nrm.body (va, vc, v) ⟨h4, f4.congr (fun s => by
      rw [p2.upw s, hLk.2.upw s]
      constructor
      · rintro (⟨i, h1, h2⟩ | h)
        · exact ⟨i, by omega, h2⟩
        · exact ⟨k, by omega, h⟩
      · rintro ⟨i, h1, h2⟩
        rcases Nat.lt_or_ge i k with h | h
        · exact .inl ⟨i, h, h2⟩
        · obtain rfl : i = k := by omega
          exact .inr h2)⟩ ⟨rfl, rfl, rfl, rfl, trivial⟩ (Sp.le (by repeat (first | exact Sp.refl _ | exact Sp.sub (by assumption) | refine Sp.cons (by repeat (first | exact Pick.here | apply Pick.there)) ?_ | exact Sp.nil | apply Sp.skip)))
  refine Nrm.of hS hM ?_
  refine Nrm.next ?_
  refine Tri.seq (Tri.region ?_)
  refine TOps.move rfl rfl ?_
  refine TOps.assign rfl rfl ?_
  refine TOps.assign rfl rfl ?_
  refine TOps.next ?_
  refine Tri.ret2 (H' := row x.1 3 1 x.2.1 (nats (x.2.2)) :: H) Tryz.results57 (fun _ _ h => h) (.tmp rfl) (.tmp rfl) (Le.refl _) ⟨x.1, x.2.1, x.2.2, hp.2, rfl, hp.1, rfl⟩
end Go.Proofs
namespace Go.Proofs
open Go.GL
set_option linter.unusedVariables false
set_option linter.unusedSimpArgs false
abbrev LE := Option Nat × Nat × List Nat
theorem sls_set (M : List LE) (i : Nat) (q : LE) : (sls M).set i (slV q.1 0 q.2.2.length q.2.1) = sls (M.set i q) := by simp [sls, List.map_set]
theorem sls_len (M : List LE) : (sls M).length = M.length := by simp [sls]
theorem sls_app (a b : List LE) : sls (a ++ b) = sls a ++ sls b := by simp [sls]
def voteL (m b : Nat) : List LE := (List.replicate (m + 1) (none, 0, [])).set 0 (some b, 1, [0])
theorem set0_at {n i : Nat} {x y : LE} {M : List LE} (hM : M = (List.replicate n y).set 0 x) (hi : i < M.length) : M[i] = if i = 0 then x else y := by
  subst hM
  rw [List.getElem_set]
  by_cases h : i = 0
  · subst h; rw [if_pos rfl, if_pos rfl]
  · rw [if_neg (fun e => h e.symm), if_neg h, List.getElem_replicate]
theorem voteL_at {m b i : Nat} (hi : i < (voteL m b).length) : (voteL m b)[i] = if i = 0 then (some b, 1, [0]) else (none, 0, []) := set0_at rfl hi
theorem PLs.set {N : List Ent} {M : List LE} {pr pr' : Nat → Nat → Prop} {j : Nat} {q : LE} (h : PLs N M pr) (hq : RdS N q.1 0 (nats q.2.2) ∧ Fam q.2.2 (pr' j)) (ho : ∀ i, i < M.length → i ≠ j → ∀ t, pr i t ↔ pr' i t) : PLs N (M.set j q) pr' := by
  intro i hi
  rw [List.length_set] at hi
  by_cases hij : j = i
  · subst hij
    rw [List.getElem_set_self]
    exact hq
  · rw [List.getElem_set_ne hij]
    exact ⟨(h i hi).1, (h i hi).2.congr (ho i hi (fun e => hij e.symm))⟩
theorem PLs.congr {N : List Ent} {M : List LE} {pr pr' : Nat → Nat → Prop} (h : PLs N M pr) (ho : ∀ i, i < M.length → ∀ t, pr i t ↔ pr' i t) : PLs N M pr' := fun i hi => ⟨(h i hi).1, (h i hi).2.congr (ho i hi)⟩
set_option maxHeartbeats 2000000 in
theorem pvote_g {H : List Ent} {oa sp : Option Nat} {o cap m : Nat} {L : List LE} {pr : Nat → Nat → Bool} (hr : RdS H oa o (sls L) sp) (hL : PLs H L (fun i t => pr i t = true)) (hl : L.length ≤ 1000) (hm : m ≤ 1000) :
    Gives Tryz.prog 58 [slV oa o L.length cap sp, natV m] H (NewP (fun q => Fam q (fun t => m ≤ cntP pr t L.length)) H) := by
  have hst : ∀ b16, PLs [row (some b16) 3 1 1 (nats [0])] (voteL m b16) (fun i t => i ≤ cntP pr t 0) := by
    intro b16 i hi
    rw [voteL_at hi]
    by_cases h : i = 0
    · subst h
      rw [if_pos rfl]
      exact ⟨RdS.ofRowS (List.Mem.head _), Fam.zero.congr (fun s => ⟨fun _ => Nat.zero_le _, fun _ => trivial⟩)⟩
    · rw [if_neg h]
      exact ⟨.inl rfl, Fam.none.congr (fun s => ⟨fun h => h.elim, fun h2 => absurd (show i ≤ cntP pr s 0 from h2) (by rw [cntP_zero]; omega)⟩)⟩
  refine Gives.enter Tryz.func58 rfl (by exact Tryz.ntmps58) rfl ?_
  refine Tri.seq (Tri.region ?_)
  refine TOps.assign rfl rfl ?_
  refine TOps.assign rfl rfl ?_
  refine TOps.next ?_
  refine Tri.seq (Tri.region ?_)
  refine TOps.move rfl rfl ?_
  refine TOps.add (r := ((m + 1 : Nat) : Int)) rfl rfl (by rw [wrapI (by omega) (by omega)]; omega) rfl ?_
  refine TOps.make1 (L := m + 1) (C := m + 1) rfl rfl Tryz.underlying69 ti35 (Nat.le_refl _) (by omega) (by omega) rfl (fun b14 => ?_)
  refine TOps.assign rfl rfl ?_
  refine TOps.next ?_
  refine Tri.seq (Tri.region ?_)
  refine TOps.move rfl rfl ?_
  refine TOps.buildSlice (vs := [_]) (xs := [_]) Tryz.underlying35 ti3 ⟨rfl, rfl, trivial⟩ rfl rfl rfl rfl rfl rfl (by decide) rfl (fun b16 => ?_)
  refine TOps.indexAddr (b := b14) (off := 0) (m := m + 1) (cap := m + 1) (off' := 0) rfl rfl Tryz.underlying69 ti35 (by omega) (by omega) (by simp) rfl ?_
  refine TOps.store1 (b := b14) rfl rfl ti35 rfl rfl (Upd.there Upd.here) (by simp) ?_
  refine TOps.le (H' := row (some b14) 35 1 (m + 1) (sls ((voteL m b16))) :: row (some b16) 3 1 1 (nats [0]) :: H) (by rw [show sls (voteL m b16) = (List.replicate (m + 1) (Value.slice none 0 0)).set 0 (slV (some b16) 0 1 1) by unfold voteL; rw [← sls_set]; simp [sls, slV]]; exact (Sp.le (by repeat (first | exact Sp.refl _ | exact Sp.sub (by assumption) | refine Sp.cons (by repeat (first | exact Pick.here | apply Pick.there)) ?_ | exact Sp.nil | apply Sp.skip)))) ?_
  refine TOps.next ?_
  refine Tri.seq ?_
  refine Tri.seq (Tri.region ?_)
  refine TOps.move rfl rfl ?_
  refine TOps.len rfl Tryz.underlying69 rfl ?_
  refine TOps.move rfl rfl ?_
  refine TOps.next ?_
  refine Tri.range (X := List LE × List Ent) (fun x k => [(0, slV oa o L.length cap sp), (1, natV m), (6, slV (some b14) 0 (m + 1) (m + 1)), (18, slV oa o L.length cap sp)]) (fun x k => row (some b14) 35 1 (m + 1) (sls (x.1)) :: (x.2 ++ H)) (fun x k => x.1.length = m + 1 ∧ PLs x.2 x.1 (fun i t => i ≤ cntP pr t k)) (by omega) rfl rfl rfl (fun _ _ => ⟨rfl, rfl, rfl, rfl⟩) (voteL m b16, [row (some b16) 3 1 1 (nats [0])]) ⟨by simp [voteL], hst b16⟩ ⟨rfl, rfl, rfl, rfl, trivial⟩ (Le.refl _) (fun k x hlt hp => ?_) (fun x ac wc hp hS hM => ?_)
  · skip
    obtain ⟨M, N⟩ := x
    obtain ⟨p1, p2⟩ := hp
    dsimp only at p1 p2 ⊢
    obtain ⟨rb, hra, hsp, hrk⟩ := slsS_at hr hlt
    have hLk := hL k hlt
    have hs := hL.s hlt
    obtain ⟨Lk, hLkk⟩ : ∃ Lk, Lk = L[k] := ⟨_, rfl⟩
    rw [← hLkk] at hrk hLk hs
    refine Tri.seq (Tri.region ?_)
    refine TOps.indexAddr (b := rb) (off := o) (m := L.length) (cap := cap) (off' := o + k) (by rw [hra, hsp]; rfl) rfl Tryz.underlying69 ti35 (by omega) (by omega) (by simp) rfl ?_
    refine TOps.load1 rfl ti35 (hrk.le (Le.drop (Le.sub (List.sublist_append_right _ _)))) rfl ?_
    refine TOps.assign rfl rfl ?_
    refine TOps.next ?_
    refine Tri.seq (Tri.region ?_)
    refine TOps.move rfl rfl ?_
    refine TOps.assign rfl rfl ?_
    refine TOps.next ?_
    refine Tri.block ?_
    refine Tri.loop (X := Nat × List LE × List Ent) (fun x => [(0, slV oa o L.length cap sp), (1, natV m), (6, slV (some b14) 0 (m + 1) (m + 1)), (8, slV Lk.1 0 Lk.2.2.length Lk.2.1), (9, natV x.1), (18, slV oa o L.length cap sp), (19, natV L.length), (20, natV k)]) (fun x => row (some b14) 35 1 (m + 1) (sls (x.2.1)) :: (x.2.2 ++ H)) (fun x => x.1 ≤ m ∧ x.2.1.length = m + 1 ∧ PLs x.2.2 x.2.1 (vpr pr k x.1)) (fun x => x.1) (m, M, N) ⟨Nat.le_refl _, p1, p2.congr (fun i hi t => (vpr_start (by omega)).symm)⟩ ⟨rfl, rfl, rfl, rfl, rfl, rfl, rfl, rfl, trivial⟩ (Le.refl _) (fun x hp => ?_)
    obtain ⟨j, M2, N2⟩ := x
    obtain ⟨w1, w2, w3⟩ := hp
    dsimp only at w1 w2 w3 ⊢
    refine Tri.seq ?_
    refine Tri.seq (Tri.region ?_)
    refine TOps.move rfl rfl ?_
    refine TOps.gtr rfl rfl rfl ?_
    refine TOps.next ?_
    refine Tri.cond rfl (fun hc1 => ?_) (fun hc1 => ?_)
    · try simp only [decide_eq_true_eq, decide_eq_false_iff_not, Bool.and_eq_true, Bool.or_eq_true, Bool.not_eq_true', Bool.and_eq_false_iff, Bool.or_eq_false_iff, Bool.not_eq_false', Int.not_lt, Int.not_le, ne_eq, Decidable.not_not, Option.isSome_iff_ne_none, Option.isNone_iff_eq_none] at hc1
      obtain ⟨j, rfl⟩ : ∃ j2, j = j2 + 1 := ⟨j - 1, by omega⟩
      have e1 : j < M2.length := by omega
      have e2 : j + 1 < M2.length := by omega
      have d1 := w3 j e1
      have d2 := w3 (j + 1) e2
      have k1 := w3.s e1
      have k2 := w3.s e2
      have r1 := sls_at (H := row (some b14) 35 1 (m + 1) (sls (M2)) :: (N2 ++ H)) (b := b14) (off := 0) (Rd.all (List.Mem.head _)) e1
      have r2 := sls_at (H := row (some b14) 35 1 (m + 1) (sls (M2)) :: (N2 ++ H)) (b := b14) (off := 0) (Rd.all (List.Mem.head _)) e2
      obtain ⟨Q1, hQ1⟩ : ∃ Q1, Q1 = M2[j] := ⟨_, rfl⟩
      obtain ⟨Q2, hQ2⟩ : ∃ Q2, Q2 = M2[j + 1] := ⟨_, rfl⟩
      rw [← hQ1] at d1 k1 r1
      rw [← hQ2] at d2 k2 r2
      have hNH : Le (N2 ++ H) N2 := Le.sub (List.sublist_append_left _ _)
      refine Tri.fin ?_
      refine Nrm.next ?_
      refine Tri.seq ?_
      refine Tri.block ?_
      refine Tri.seq (Tri.region ?_)
      refine TOps.move rfl rfl ?_
      refine TOps.move rfl rfl ?_
      refine TOps.sub (r := ((j : Nat) : Int)) rfl rfl (by rw [wrapI (by omega) (by omega)]; omega) rfl ?_
      refine TOps.indexAddr (b := b14) (off := 0) (m := m + 1) (cap := m + 1) (off' := 0 + j) rfl rfl Tryz.underlying69 ti35 (by omega) (by omega) (by simp) rfl ?_
      refine TOps.load1 rfl ti35 r1 rfl ?_
      refine TOps.move rfl rfl ?_
      refine TOps.call (vs := [_, _]) Tryz.call64 ⟨rfl, rfl, trivial⟩ (product_g (k1.le (Le.drop hNH)) (hs.le (Le.drop (Le.sub (List.sublist_append_right _ _))))) rfl ?_
      rintro _ _ ⟨va, vc, v, f4, rfl, h4, rfl⟩
      have lv := f4.len
      refine TOps.move rfl rfl ?_
      refine TOps.extract rfl rfl rfl ?_
      refine TOps.extract rfl rfl rfl ?_
      refine TOps.assign rfl rfl ?_
      refine TOps.assign rfl rfl ?_
      refine TOps.next ?_
      refine Tri.seq ?_
      refine Tri.seq (Tri.region ?_)
      refine TOps.move rfl rfl ?_
      refine TOps.neqNil (T := 57) (o := none) rfl Tryz.underlying29 rfl ?_
      refine TOps.next ?_
      refine Tri.cond rfl (fun hc2 => ?_) (fun hc2 => ?_)
      · exact absurd hc2 (by first | decide | simp)
      try simp only [decide_eq_true_eq, decide_eq_false_iff_not, Bool.and_eq_true, Bool.or_eq_true, Bool.not_eq_true', Bool.and_eq_false_iff, Bool.or_eq_false_iff, Bool.not_eq_false', Int.not_lt, Int.not_le, ne_eq, Decidable.not_not, Option.isSome_iff_ne_none, Option.isNone_iff_eq_none] at hc2
      refine Tri.fin ?_
      refine Nrm.next ?_
      refine Tri.seq (Tri.region ?_)
      refine TOps.move rfl rfl ?_
      refine TOps.move rfl rfl ?_
      refine TOps.move rfl rfl ?_
      refine TOps.move rfl rfl ?_
      refine TOps.indexAddr (b := b14) (off := 0) (m := m + 1) (cap := m + 1) (off' := 0 + (j + 1)) rfl rfl Tryz.underlying69 ti35 (by omega) (by omega) (by simp) rfl ?_
      refine TOps.load1 rfl ti35 r2.up rfl ?_
      refine TOps.move rfl rfl ?_
      refine TOps.call (vs := [_, _]) Tryz.call87 ⟨rfl, rfl, trivial⟩ (plus_g (m := v) (k2.le (Le.drop (Le.drop hNH))) ⟨RdS.ofRowA (List.Mem.head _) (fun h => h4 (nats_ne h)), f4.lt, by omega⟩) rfl ?_
      rintro _ _ ⟨wa, wc, w, f5, rfl, h5, rfl⟩
      refine TOps.move rfl rfl ?_
      refine TOps.extract rfl rfl rfl ?_
      refine TOps.extract rfl rfl rfl ?_
      refine TOps.indexAddr (b := b14) (off := 0) (m := m + 1) (cap := m + 1) (off' := 0 + (j + 1)) rfl rfl Tryz.underlying69 ti35 (by omega) (by omega) (by simp) rfl ?_
      refine TOps.store1 (b := b14) rfl rfl ti35 rfl rfl (Upd.there (Upd.there Upd.here)) (by rw [sls_len]; omega) ?_
      rw [Nat.zero_add, show (sls M2).set (j + 1) (slV wa 0 w.length wc) = sls (M2.set (j + 1) (wa, wc, w)) from sls_set M2 (j + 1) (wa, wc, w)]
      refine TOps.le (H' := row (some b14) 35 1 (m + 1) (sls ((M2.set (j + 1) (wa, wc, w)))) :: row wa 3 1 wc (nats w) :: (N2 ++ H)) (Sp.le (by repeat (first | exact Sp.refl _ | exact Sp.sub (by assumption) | refine Sp.cons (by repeat (first | exact Pick.here | apply Pick.there)) ?_ | exact Sp.nil | apply Sp.skip))) ?_
      refine TOps.assign rfl rfl ?_
      refine TOps.next ?_
      refine Tri.seq (Tri.region ?_)
      refine TOps.move rfl rfl ?_
      refine TOps.neqNil (T := 57) (o := none) rfl Tryz.underlying29 rfl ?_
      refine TOps.next ?_
      refine Tri.cond rfl (fun hc3 => ?_) (fun hc3 => ?_)
      · exact absurd hc3 (by first | decide | simp)
      try simp only [decide_eq_true_eq, decide_eq_false_iff_not, Bool.and_eq_true, Bool.or_eq_true, Bool.not_eq_true', Bool.and_eq_false_iff, Bool.or_eq_false_iff, Bool.not_eq_false', Int.not_lt, Int.not_le, ne_eq, Decidable.not_not, Option.isSome_iff_ne_none, Option.isNone_iff_eq_none] at hc3
      refine Tri.fin ?_
      refine Nrm.unB ?_
      refine Nrm.next ?_
      refine Tri.region ?_
      refine TOps.move rfl rfl ?_
      refine TOps.sub (r := ((j : Nat) : Int)) rfl rfl (by rw [wrapI (by omega) (by omega)]; omega) rfl ?_
      refine TOps.assign rfl rfl ?_
      refine TOps.fin ?_
      refine Nrm.loop (j, M2.set (j + 1) (wa, wc, w), row wa 3 1 wc (nats w) :: N2) ⟨by simp only; omega, by simp only [List.length_set]; exact w2, PLs.set (w3.le (Le.drop (Le.refl _))) ⟨RdS.ofRowA (List.Mem.head _) (fun h => h5 (nats_ne h)), f5.congr (fun t => by rw [d2.2.upw t, f4.upw t, d1.2.upw t, hLk.2.upw t]; exact vpr_step)⟩ (fun i hi hne t => vpr_other hne)⟩ (by simp only; omega) ⟨rfl, rfl, rfl, rfl, rfl, rfl, rfl, rfl, trivial⟩ (Le.refl _)
    try simp only [decide_eq_true_eq, decide_eq_false_iff_not, Bool.and_eq_true, Bool.or_eq_true, Bool.not_eq_true', Bool.and_eq_false_iff, Bool.or_eq_false_iff, Bool.not_eq_false', Int.not_lt, Int.not_le, ne_eq, Decidable.not_not, Option.isSome_iff_ne_none, Option.isNone_iff_eq_none] at hc1
    obtain rfl : j = 0 := by omega
    first | refine Tri.exitW ?_ | (refine Tri.exitTo ?_; repeat (with_reducible first | refine ExitTo.blk ?_ | refine ExitTo.blkNe rfl ?_ | refine ExitTo.body ?_ | refine ExitTo.brk rfl ?_ | refine ExitTo.bodyNe rfl rfl ?_ | refine ExitTo.seq ?_ | refine ExitTo.loop ?_))
    refine Nrm.body (M2, N2) ⟨w2, w3.congr (fun i hi t => vpr_fin)⟩ ⟨rfl, rfl, rfl, rfl, rfl, rfl, trivial⟩ (Le.refl _)
  obtain ⟨M, N⟩ := x
  obtain ⟨p1, p2⟩ := hp
  dsimp only at p1 p2 hS hM
  have e1 : m < M.length := by omega
  have d1 := p2 m e1
  have r1 := sls_at (H := row (some b14) 35 1 (m + 1) (sls (M)) :: (N ++ H)) (b := b14) (off := 0) (Rd.all (List.Mem.head _)) e1
  obtain ⟨Q1, hQ1⟩ : ∃ Q1, Q1 = M[m] := ⟨_, rfl⟩
  rw [← hQ1] at d1 r1
  refine Nrm.of hS hM ?_
  refine Nrm.next ?_
  refine Tri.seq (Tri.region ?_)
  refine TOps.move rfl rfl ?_
  refine TOps.move rfl rfl ?_
  refine TOps.indexAddr (b := b14) (off := 0) (m := m + 1) (cap := m + 1) (off' := 0 + m) rfl rfl Tryz.underlying69 ti35 (by omega) (by omega) (by simp) rfl ?_
  refine TOps.load1 rfl ti35 r1 rfl ?_
  refine TOps.assign rfl rfl ?_
  refine TOps.assign rfl rfl ?_
  refine TOps.next ?_
  refine Tri.ret2 (H' := N ++ H) Tryz.results58 (fun _ _ h => h) (.tmp rfl) (.tmp rfl) (Le.drop (Le.refl _)) ⟨Q1.1, Q1.2.1, Q1.2.2, N, d1.2, rfl, d1.1, rfl⟩
end Go.Proofs
