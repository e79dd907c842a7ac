import Derived.Test.YtnbcabcfadmoiaaGreatWF
import Derived.Test.YtnbcabcfadmoiaaGreatWD
import Derived.Test.YtnbcabcfadmoiaaGreatWB
import Derived.Test.YtnbcabcfadmoiaaGreatWC
namespace Go.Proofs
open Go.GL
set_option linter.unusedVariables false
set_option linter.unusedSimpArgs false
theorem pathsCheck_g {H : List Ent} {fv : Value} {F : Fm} (hF : RF H fv F) (hk : F.ok) (hg : F.Good) (hs : F.syn = true) : Gives Tryz.prog 29 [fv] H (R1 (errV 57 none) H) := by
  have hF0 := hF
  have he := (Fm.good_iff F).2 hg
  obtain ⟨na, no, cap, sa, rfl, hN⟩ := hF
  refine Gives.enter Tryz.func29 rfl (by exact Tryz.ntmps29) rfl ?_
  refine Tri.seq (Tri.region ?_)
  refine TOps.boxN rfl ti24 rfl rfl (fun b1 => ?_)
  refine TOps.hide (fun H1 l1 s1 r1 => ?_)
  replace hF0 := hF0.le l1
  refine TOps.assign rfl rfl ?_
  refine TOps.next ?_
  refine Tri.seq (Tri.region ?_)
  refine TOps.loadN (vs := [.int .i64 F.vars, slV na no F.nodes.length cap sa, .int .i64 F.top]) rfl ti24 r1 rfl rfl ?_
  refine TOps.call (vs := [_]) Tryz.call43 ⟨rfl, trivial⟩ (csyntax_g hF0 hk) rfl ?_
  rintro _ _ ⟨rfl, rfl⟩
  rw [he, hs]
  refine TOps.move rfl rfl ?_
  refine TOps.extract rfl rfl rfl ?_
  refine TOps.extract rfl rfl rfl ?_
  refine TOps.assign rfl rfl ?_
  refine TOps.assign rfl rfl ?_
  refine TOps.next ?_
  refine Tri.seq ?_
  refine Tri.seq (Tri.region ?_)
  refine TOps.move rfl rfl ?_
  refine TOps.eqlNil (T := 57) (o := none) rfl Tryz.underlying29 rfl ?_
  refine TOps.move rfl rfl ?_
  refine' TOps.andB 2 rfl rfl rfl rfl (fun hg2_2 => ?_) ?_; rotate_left
  · have hg2_2' := hg2_2
    try simp only [decide_eq_true_eq, decide_eq_false_iff_not, Bool.and_eq_true, Bool.or_eq_true, Bool.not_eq_true', Bool.and_eq_false_iff, Bool.or_eq_false_iff, Bool.not_eq_false', Int.not_lt, Int.not_le, ne_eq, Decidable.not_not] at hg2_2'
    refine TOps.strip 2 true rfl rfl hg2_2 rfl ?_
    refine TOps.move rfl rfl ?_
    refine TOps.not rfl rfl ?_
    refine TOps.blk rfl (by repeat (first | exact Ext.refl _ | refine Ext.cons rfl ?_)) (by repeat (first | exact Le.refl _ | apply Le.drop))
  refine TOps.next ?_
  refine Tri.cond rfl (fun hc1 => ?_) (fun hc1 => ?_)
  · exact absurd hc1 (by first | decide | simp)
  try simp only [decide_eq_true_eq, decide_eq_false_iff_not, Bool.and_eq_true, Bool.or_eq_true, Bool.not_eq_true', Bool.and_eq_false_iff, Bool.or_eq_false_iff, Bool.not_eq_false', Int.not_lt, Int.not_le, ne_eq, Decidable.not_not, Option.isSome_iff_ne_none, Option.isNone_iff_eq_none] at hc1
  refine Tri.fin ?_
  refine Nrm.next ?_
  refine Tri.seq (Tri.region ?_)
  refine TOps.move rfl rfl ?_
  refine TOps.assign rfl rfl ?_
  refine TOps.next ?_
  refine Tri.ret1 (H' := H) Tryz.results29 (fun _ _ h => h) (.tmp rfl) l1 ⟨rfl, rfl⟩
def ndP (d : Nd) (pr : Nat → Nat → Bool) (n t : Nat) : Prop := if d.kind = 0 then d.k = 0 else if d.kind = 3 then ∀ i, i < n → pr i t = true else if d.kind = 2 then ∃ i, i < n ∧ pr i t = true else n - d.k.toNat + 1 ≤ cntP pr t n
theorem pnode_g {H : List Ent} {oa sp : Option Nat} {o cap : Nat} {L : List LE} {d : Nd} {av : Value} {pr : Nat → Nat → Bool} (hr : RdS H oa o (sls L) sp) (hL : PLs H L (fun i t => pr i t = true)) (hl : L.length ≤ 1000) (hkd : d.kind = 0 ∨ d.kind = 2 ∨ d.kind = 3 ∨ d.kind = 4) (hk0 : d.kind = 0 → d.k = 0 ∨ d.k = 1) (hk4 : d.kind = 4 → 1 ≤ d.k ∧ d.k ≤ L.length) :
    Gives Tryz.prog 31 [.agg (List.toArray [.int .i64 d.kind, .int .i64 d.k, av]), slV oa o L.length cap sp] H (NewP (fun q => Fam q (fun t => ndP d pr L.length t)) H) := by
  refine Gives.enter Tryz.func31 rfl (by exact Tryz.ntmps31) rfl ?_
  refine Tri.seq (Tri.region ?_)
  refine TOps.boxN rfl ti48 rfl rfl (fun b2 => ?_)
  refine TOps.hide (fun H1 l1 s1 r1 => ?_)
  refine TOps.assign rfl rfl ?_
  refine TOps.assign rfl rfl ?_
  refine TOps.next ?_
  refine Tri.seq ?_
  refine Tri.seq (Tri.region ?_)
  refine TOps.field0 rfl Tryz.underlying48 rfl rfl ti3 rfl rfl rfl ?_
  refine TOps.load1 (v := .int .i64 d.kind) rfl ti3 (Rd.fld r1 0 rfl) rfl ?_
  refine TOps.next ?_
  refine Tri.block ?_
  refine Tri.seq (Tri.region ?_)
  refine TOps.eqlI rfl rfl rfl ?_
  refine TOps.assign rfl rfl ?_
  refine TOps.next ?_
  refine Tri.cond rfl (fun hc1 => ?_) (fun hc1 => ?_)
  · try simp only [decide_eq_true_eq, decide_eq_false_iff_not, Bool.and_eq_true, Bool.or_eq_true, Bool.not_eq_true', Bool.and_eq_false_iff, Bool.or_eq_false_iff, Bool.not_eq_false', Int.not_lt, Int.not_le, ne_eq, Decidable.not_not, Option.isSome_iff_ne_none, Option.isNone_iff_eq_none] at hc1
    refine Tri.seq ?_
    refine Tri.seq (Tri.region ?_)
    first | refine TOps.fieldB 1 rfl Tryz.underlying48 rfl rfl ti3 rfl rfl rfl ?_ | refine TOps.fieldN 1 rfl Tryz.underlying48 rfl rfl ti3 rfl rfl rfl ?_
    refine TOps.load1 (v := .int .i64 d.k) rfl ti3 (Rd.fld r1 1 rfl) rfl ?_
    refine TOps.eqlI rfl rfl rfl ?_
    refine TOps.next ?_
    refine Tri.cond rfl (fun hc2 => ?_) (fun hc2 => ?_)
    · try simp only [decide_eq_true_eq, decide_eq_false_iff_not, Bool.and_eq_true, Bool.or_eq_true, Bool.not_eq_true', Bool.and_eq_false_iff, Bool.or_eq_false_iff, Bool.not_eq_false', Int.not_lt, Int.not_le, ne_eq, Decidable.not_not, Option.isSome_iff_ne_none, Option.isNone_iff_eq_none] at hc2
      refine Tri.seq (Tri.region ?_)
      refine TOps.buildSlice (vs := [_]) (xs := [_]) Tryz.underlying35 ti3 ⟨rfl, rfl, trivial⟩ rfl rfl rfl rfl rfl rfl (by decide) rfl (fun b13 => ?_)
      refine TOps.assign rfl rfl ?_
      refine TOps.assign rfl rfl ?_
      refine TOps.next ?_
      refine Tri.ret2 (H' := row (some b13) 3 1 1 (nats [0]) :: H) Tryz.results31 (fun _ _ h => h) (.tmp rfl) (.tmp rfl) (Le.keep s1) ⟨some b13, 1, [0], [row (some b13) 3 1 1 (nats [0])], Fam.zero.congr (fun t => ⟨fun _ => by rw [ndP, if_pos hc1]; exact hc2, fun _ => trivial⟩), rfl, RdS.ofRowS (List.Mem.head _), rfl⟩
    try simp only [decide_eq_true_eq, decide_eq_false_iff_not, Bool.and_eq_true, Bool.or_eq_true, Bool.not_eq_true', Bool.and_eq_false_iff, Bool.or_eq_false_iff, Bool.not_eq_false', Int.not_lt, Int.not_le, ne_eq, Decidable.not_not, Option.isSome_iff_ne_none, Option.isNone_iff_eq_none] at hc2
    refine Tri.fin ?_
    refine Nrm.next ?_
    refine Tri.seq (Tri.region ?_)
    refine TOps.assign rfl rfl ?_
    refine TOps.assign rfl rfl ?_
    refine TOps.next ?_
    refine Tri.ret2 (H' := H) Tryz.results31 (fun _ _ h => h) (.tmp rfl) (.tmp rfl) l1 ⟨none, 0, [], [], Fam.none.congr (fun t => ⟨fun h => h.elim, fun h => by rw [ndP, if_pos hc1] at h; exact hc2 h⟩), rfl, .inl rfl, rfl⟩
  try simp only [decide_eq_true_eq, decide_eq_false_iff_not, Bool.and_eq_true, Bool.or_eq_true, Bool.not_eq_true', Bool.and_eq_false_iff, Bool.or_eq_false_iff, Bool.not_eq_false', Int.not_lt, Int.not_le, ne_eq, Decidable.not_not, Option.isSome_iff_ne_none, Option.isNone_iff_eq_none] at hc1
  refine Tri.seq (Tri.region ?_)
  refine TOps.eqlI rfl rfl rfl ?_
  refine TOps.assign rfl rfl ?_
  refine TOps.next ?_
  refine Tri.cond rfl (fun hc3 => ?_) (fun hc3 => ?_)
  · try simp only [decide_eq_true_eq, decide_eq_false_iff_not, Bool.and_eq_true, Bool.or_eq_true, Bool.not_eq_true', Bool.and_eq_false_iff, Bool.or_eq_false_iff, Bool.not_eq_false', Int.not_lt, Int.not_le, ne_eq, Decidable.not_not, Option.isSome_iff_ne_none, Option.isNone_iff_eq_none] at hc3
    refine Tri.seq (Tri.region ?_)
    refine TOps.move rfl rfl ?_
    refine TOps.call (vs := [_]) Tryz.call56 ⟨rfl, trivial⟩ (por_g (hr.le l1) (hL.le l1) hl) rfl ?_
    rintro _ _ ⟨va, vc, v, f4, rfl, h4, rfl⟩
    refine TOps.extract rfl rfl rfl ?_
    refine TOps.extract rfl rfl rfl ?_
    refine TOps.assign rfl rfl ?_
    refine TOps.assign rfl rfl ?_
    refine TOps.next ?_
    refine Tri.ret2 (H' := row va 3 1 vc (nats v) :: H) Tryz.results31 (fun _ _ h => h) (.tmp rfl) (.tmp rfl) (Le.keep s1) (NewT.p ⟨va, vc, v, f4.congr (fun t => by rw [ndP, if_neg hc1, if_pos hc3]), rfl, h4, rfl⟩)
  try simp only [decide_eq_true_eq, decide_eq_false_iff_not, Bool.and_eq_true, Bool.or_eq_true, Bool.not_eq_true', Bool.and_eq_false_iff, Bool.or_eq_false_iff, Bool.not_eq_false', Int.not_lt, Int.not_le, ne_eq, Decidable.not_not, Option.isSome_iff_ne_none, Option.isNone_iff_eq_none] at hc3
  refine Tri.seq (Tri.region ?_)
  refine TOps.eqlI rfl rfl rfl ?_
  refine TOps.assign rfl rfl ?_
  refine TOps.next ?_
  refine Tri.cond rfl (fun hc4 => ?_) (fun hc4 => ?_)
  · try simp only [decide_eq_true_eq, decide_eq_false_iff_not, Bool.and_eq_true, Bool.or_eq_true, Bool.not_eq_true', Bool.and_eq_false_iff, Bool.or_eq_false_iff, Bool.not_eq_false', Int.not_lt, Int.not_le, ne_eq, Decidable.not_not, Option.isSome_iff_ne_none, Option.isNone_iff_eq_none] at hc4
    refine Tri.seq (Tri.region ?_)
    refine TOps.move rfl rfl ?_
    refine TOps.call (vs := [_]) Tryz.call57 ⟨rfl, trivial⟩ (pand_g (hr.le l1) (hL.le l1) hl) rfl ?_
    rintro _ _ ⟨va, vc, v, f4, rfl, h4, rfl⟩
    refine TOps.extract rfl rfl rfl ?_
    refine TOps.extract rfl rfl rfl ?_
    refine TOps.assign rfl rfl ?_
    refine TOps.assign rfl rfl ?_
    refine TOps.next ?_
    refine Tri.ret2 (H' := row va 3 1 vc (nats v) :: H) Tryz.results31 (fun _ _ h => h) (.tmp rfl) (.tmp rfl) (Le.keep s1) (NewT.p ⟨va, vc, v, f4.congr (fun t => by rw [ndP, if_neg hc1, if_neg hc3, if_pos hc4]), rfl, h4, rfl⟩)
  try simp only [decide_eq_true_eq, decide_eq_false_iff_not, Bool.and_eq_true, Bool.or_eq_true, Bool.not_eq_true', Bool.and_eq_false_iff, Bool.or_eq_false_iff, Bool.not_eq_false', Int.not_lt, Int.not_le, ne_eq, Decidable.not_not, Option.isSome_iff_ne_none, Option.isNone_iff_eq_none] at hc4
  refine Tri.fin ?_
  refine Nrm.unB ?_
  refine Nrm.next ?_
  refine Tri.seq (Tri.region ?_)
  refine TOps.move rfl rfl ?_
  refine TOps.move rfl rfl ?_
  refine TOps.len rfl Tryz.underlying69 rfl ?_
  first | refine TOps.fieldB 1 rfl Tryz.underlying48 rfl rfl ti3 rfl rfl rfl ?_ | refine TOps.fieldN 1 rfl Tryz.underlying48 rfl rfl ti3 rfl rfl rfl ?_
  refine TOps.load1 (v := .int .i64 d.k) rfl ti3 (Rd.fld r1 1 rfl) rfl ?_
  have q4 := hk4 (by omega)
  refine TOps.sub (r := (L.length : Int) - d.k) rfl rfl (by rw [wrapI (by omega) (by omega)]) rfl ?_
  refine TOps.add (r := ((L.length - d.k.toNat + 1 : Nat) : Int)) rfl rfl (by rw [wrapI (by omega) (by omega)]; omega) rfl ?_
  refine TOps.call (vs := [_, _]) Tryz.call58 ⟨rfl, rfl, trivial⟩ (pvote_g (hr.le l1) (hL.le l1) hl (by omega)) rfl ?_
  rintro _ _ ⟨va, vc, v, N, f4, rfl, h4, rfl⟩
  refine TOps.extract rfl rfl rfl ?_
  refine TOps.extract rfl rfl rfl ?_
  refine TOps.assign rfl rfl ?_
  refine TOps.assign rfl rfl ?_
  refine TOps.next ?_
  refine Tri.ret2 (H' := N ++ H) Tryz.results31 (fun _ _ h => h) (.tmp rfl) (.tmp rfl) (sub_app s1) ⟨va, vc, v, N, f4.congr (fun t => by rw [ndP, if_neg hc1, if_neg hc3, if_neg hc4]), rfl, h4, rfl⟩
end Go.Proofs
namespace Go.Proofs
open Go.GL
set_option linter.unusedVariables false
set_option linter.unusedSimpArgs false
def complN (v t : Nat) : Nat := 2 ^ v - 1 - t % 2 ^ v
theorem complN_lt (v t : Nat) : complN v t < 2 ^ v := by unfold complN; have := Nat.two_pow_pos v; omega
theorem complN_bit {v t i : Nat} (hi : i < v) : (complN v t).testBit i = !t.testBit i := by
  unfold complN
  rw [show 2 ^ v - 1 - t % 2 ^ v = 2 ^ v - (t % 2 ^ v + 1) by omega, Nat.testBit_two_pow_sub_succ (Nat.mod_lt _ (Nat.two_pow_pos v)), Nat.testBit_mod_two_pow, decide_eq_true hi]
  simp
def prV (T : Fm) (v t i : Nat) : Bool := !T.val ((complN v t : Nat) : Int) i
theorem prV_event {T : Fm} {v t i : Nat} (hv : T.vars = v) (hv8 : v ≤ 8) (hi : i < v) : prV T v t i = t.testBit i := by
  unfold prV
  have h28 : 2 ^ v ≤ 2 ^ 8 := Nat.pow_le_pow_right (by decide) hv8
  have := complN_lt v t
  rw [Fm.val_event T _ (by omega), bitB_nat (by omega) (by omega), complN_bit hi, Bool.not_not]
theorem countP_both (l : List Int) (f : Int → Bool) : l.countP f + l.countP (fun a => !f a) = l.length := by
  induction l with
  | nil => rfl
  | cons a l ih => rw [List.countP_cons, List.countP_cons, List.length_cons]; cases f a <;> simp <;> omega
theorem natpos (c : Nat) : ¬ 0 < c ↔ ¬ (0 : Int) < (c : Int) := by omega
theorem kind4 {k : Int} (h0 : 0 ≤ k) (h1 : k ≤ 5) (c0 : ¬ k = 0) (c1 : k ≠ 1) (c2 : ¬ k = 2) (c3 : ¬ k = 3) (c5 : k ≠ 5) : k = 4 := by omega
theorem ndP_val {T : Fm} (hg : T.Good) {v : Nat} (hv : T.vars = v) {k : Nat} (hk : k < T.nodes.length) (hp : plainNd T.nodes[k] = true) (t : Nat) : ndP T.nodes[k] (fun i t => prV T v t (T.nodes[k].args.getD i 0).toNat) T.nodes[k].args.length t ↔ prV T v t (v + k) = true := by
  have hf := hg.fits k hk
  obtain ⟨z, hz⟩ : ∃ z : Int, z = ((complN v t : Nat) : Int) := ⟨_, rfl⟩
  have hval := Fm.val_node hg z hk
  rw [show T.vars.toNat = v by omega] at hval
  obtain ⟨d, hd⟩ : ∃ d, d = T.nodes[k] := ⟨_, rfl⟩
  rw [← hd] at hp hf hval ⊢
  have hk15 : d.kind ≠ 1 ∧ d.kind ≠ 5 := by simpa [plainNd] using hp
  have h0 := hf.k0
  have h1 := hf.k1
  have hpr : ∀ i, (hi : i < d.args.length) → prV T v t (d.args.getD i 0).toNat = !T.val z d.args[i].toNat := by
    intro i hi
    unfold prV
    rw [← hz, show d.args.getD i 0 = d.args[i] by simp [List.getD_eq_getElem?_getD, hi]]
  have hall : (∃ i, i < d.args.length ∧ prV T v t (d.args.getD i 0).toNat = true) ↔ ¬ cntOf (T.val z) d.args = d.args.length := by
    rw [cntOf_all]
    constructor
    · rintro ⟨i, hi, h⟩ hA
      rw [hpr i hi, hA _ (List.mem_map.2 ⟨d.args[i], List.getElem_mem hi, rfl⟩)] at h
      cases h
    · intro hn
      refine Classical.byContradiction fun hne => hn fun a ha => ?_
      obtain ⟨b, hb, rfl⟩ := List.mem_map.1 ha
      obtain ⟨i, hi, rfl⟩ := List.getElem_of_mem hb
      cases hT : T.val z d.args[i].toNat with
      | true => rfl
      | false => exact absurd ⟨i, hi, by rw [hpr i hi, hT]; rfl⟩ hne
  have hany : (∀ i, i < d.args.length → prV T v t (d.args.getD i 0).toNat = true) ↔ ¬ 0 < cntOf (T.val z) d.args := by
    rw [cntOf_any]
    constructor
    · rintro h ⟨a, ha, hT⟩
      obtain ⟨b, hb, rfl⟩ := List.mem_map.1 ha
      obtain ⟨i, hi, rfl⟩ := List.getElem_of_mem hb
      have := h i hi
      rw [hpr i hi, hT] at this
      cases this
    · intro hn i hi
      rw [hpr i hi]
      cases hT : T.val z d.args[i].toNat with
      | false => rfl
      | true => exact absurd ⟨_, List.mem_map.2 ⟨d.args[i], List.getElem_mem hi, rfl⟩, hT⟩ hn
  have hcnt : cntP (fun i t => prV T v t (d.args.getD i 0).toNat) t d.args.length + cntOf (T.val z) d.args = d.args.length := by
    rw [cntP_list d.args (fun a => !T.val z a.toNat) _ t (fun i hi => hpr i hi) _ (Nat.le_refl _), List.take_length]
    unfold cntOf
    have := countP_both d.args (fun a => T.val z a.toNat)
    omega
  have hr : prV T v t (v + k) = !nodeVal d (cntOf (T.val z) d.args) := by unfold prV; rw [← hz, hval]
  rw [hr]
  unfold ndP nodeVal
  by_cases c0 : d.kind = 0
  · rw [if_pos c0, if_pos c0]
    have := hf.kk.1 c0
    simp only [Bool.not_eq_true', decide_eq_false_iff_not]
    omega
  rw [if_neg c0, if_neg c0, if_neg hk15.1]
  by_cases c3 : d.kind = 3
  · rw [if_pos c3, if_neg (show ¬ d.kind = 2 by rw [c3]; decide), if_pos c3, hany]
    simp only [Bool.not_eq_true', decide_eq_false_iff_not]
    exact natpos _
  rw [if_neg c3]
  by_cases c2 : d.kind = 2
  · rw [if_pos c2, if_pos c2, hall]
    simp only [Bool.not_eq_true', decide_eq_false_iff_not]
    omega
  rw [if_neg c2, if_neg c2, if_neg c3, if_pos (kind4 h0 h1 c0 hk15.1 c2 c3 hk15.2)]
  have := hf.kk.2.1 (kind4 h0 h1 c0 hk15.1 c2 c3 hk15.2)
  simp only [Bool.not_eq_true', decide_eq_false_iff_not]
  omega
end Go.Proofs
namespace Go.Proofs
open Go.GL
set_option linter.unusedVariables false
set_option linter.unusedSimpArgs false
def argL (L : List LE) (args : List Int) : List LE := args.map fun a => L.getD a.toNat (none, 0, [])
theorem argL_len (L : List LE) (args : List Int) : (argL L args).length = args.length := by simp [argL]
theorem argL_succ {L : List LE} {args : List Int} {j : Nat} (hj : j < args.length) (ha : args[j].toNat < L.length) : argL L (args.take (j + 1)) = argL L (args.take j) ++ [L[args[j].toNat]] := by
  unfold argL
  rw [List.take_succ_eq_append_getElem hj, List.map_append, List.map_cons, List.map_nil]
  simp [List.getD_eq_getElem?_getD, ha]
theorem PLs.args {N : List Ent} {L : List LE} {args : List Int} {pr : Nat → Nat → Prop} (h : PLs N L pr) (ha : ∀ a ∈ args, a.toNat < L.length) : PLs N (argL L args) (fun i t => pr (args.getD i 0).toNat t) := by
  intro i hi
  rw [argL_len] at hi
  have h1 := ha _ (List.getElem_mem hi)
  have e1 : args.getD i 0 = args[i] := by simp [List.getD_eq_getElem?_getD, hi]
  have e2 : (argL L args)[i]'(by rw [argL_len]; exact hi) = L[args[i].toNat] := by
    simp [argL, List.getD_eq_getElem?_getD, h1]
  rw [e2]
  show RdS N L[args[i].toNat].1 0 (nats L[args[i].toNat].2.2) ∧ Fam L[args[i].toNat].2.2 (pr (args.getD i 0).toNat)
  rw [e1]
  exact h _ h1
theorem PLs.snoc {N N' : List Ent} {L : List LE} {q : LE} {pr : Nat → Nat → Prop} (h : PLs N L pr) (hq : RdS N' q.1 0 (nats q.2.2)) (hf : Fam q.2.2 (pr L.length)) : PLs (N' ++ N) (L ++ [q]) pr := by
  intro i hi
  rw [List.length_append, List.length_singleton] at hi
  rcases Nat.lt_or_ge i L.length with h1 | h1
  · rw [List.getElem_append_left h1]
    exact ⟨(h i h1).1.le (Le.sub (List.sublist_append_right _ _)), (h i h1).2⟩
  · obtain rfl : i = L.length := by omega
    rw [List.getElem_append_right (Nat.le_refl _)]
    simp only [Nat.sub_self, List.getElem_cons_zero]
    exact ⟨hq.le (Le.sub (List.sublist_append_left _ _)), hf⟩
set_option maxHeartbeats 2000000 in
theorem paths_g {H : List Ent} {fv : Value} {F : Fm} {v : Nat} (hF : RF H fv F) (hk : F.ok) (hg : F.Good) (hs : F.syn = true) (hvF : F.vars = v) (hv : v ≤ 8) :
    Gives Tryz.prog 11 [fv] H (NewT (fun q => Fam q (fun t => F.value ((complN v t : Nat) : Int) = false)) H) := by
  have hF0 := hF
  have he := (Fm.good_iff F).2 hg
  have hgt := Fm.trim_good hg
  have htv : ∀ z, F.trim.value z = F.value z := Fm.trim_value hg
  have htn : F.trim.vars = v := hvF
  have hpl : ∀ d ∈ F.trim.nodes, plainNd d = true := fun d hd => List.all_eq_true.1 (show F.trim.nodes.all plainNd = true from hs) d hd
  obtain ⟨na, no, cap, sa, rfl, hN⟩ := hF
  refine Gives.enter Tryz.func11 rfl (by exact Tryz.ntmps11) rfl ?_
  refine Tri.seq (Tri.region ?_)
  refine TOps.boxN rfl ti24 rfl rfl (fun b1 => ?_)
  refine TOps.hide (fun H1 l1 s1 r1 => ?_)
  replace hF0 := hF0.le l1
  refine TOps.assign rfl rfl ?_
  refine TOps.assign rfl rfl ?_
  refine TOps.next ?_
  refine Tri.seq ?_
  refine Tri.seq (Tri.region ?_)
  refine TOps.loadN (vs := [.int .i64 F.vars, slV na no F.nodes.length cap sa, .int .i64 F.top]) rfl ti24 r1 rfl rfl ?_
  refine TOps.call (vs := [_]) Tryz.call29 ⟨rfl, trivial⟩ (pathsCheck_g hF0 hk hg hs) rfl ?_
  rintro _ _ ⟨rfl, rfl⟩
  refine TOps.assign rfl rfl ?_
  refine TOps.next ?_
  refine Tri.seq (Tri.region ?_)
  refine TOps.move rfl rfl ?_
  refine TOps.neqNil (T := 57) (o := none) rfl Tryz.underlying29 rfl ?_
  refine TOps.next ?_
  refine Tri.cond rfl (fun hc1 => ?_) (fun hc1 => ?_)
  · exact absurd hc1 (by first | decide | simp)
  try simp only [decide_eq_true_eq, decide_eq_false_iff_not, Bool.and_eq_true, Bool.or_eq_true, Bool.not_eq_true', Bool.and_eq_false_iff, Bool.or_eq_false_iff, Bool.not_eq_false', Int.not_lt, Int.not_le, ne_eq, Decidable.not_not, Option.isSome_iff_ne_none, Option.isNone_iff_eq_none] at hc1
  refine Tri.fin ?_
  refine Nrm.next ?_
  refine Tri.seq (Tri.region ?_)
  refine TOps.loadN (vs := [.int .i64 F.vars, slV na no F.nodes.length cap sa, .int .i64 F.top]) rfl ti24 r1 rfl rfl ?_
  refine TOps.call (vs := [_]) Tryz.call30 ⟨rfl, trivial⟩ (trim_g hF0 hk) rfl ?_
  rintro _ H2 ⟨tv, rfl, l2, s2, hT⟩
  obtain ⟨ta, toff, tcap, tsp, rfl, hTN⟩ := hT
  replace l2 := l2.trans l1
  replace s2 := s1.trans s2
  refine TOps.move rfl rfl ?_
  refine TOps.extract rfl rfl rfl ?_
  refine TOps.extract rfl rfl rfl ?_
  refine TOps.alloc ti24 rfl (fun b5 => ?_)
  refine TOps.storeN rfl rfl ti24 rfl rfl (by repeat (first | exact Upd.here | apply Upd.there)) (by first | decide | (simp; done) | (simp; omega)) ?_
  refine TOps.hide (fun H3 l3 s3 r3 => ?_)
  replace hTN := hTN.le l3
  replace l3 := l3.trans l2
  replace s3 := s2.trans s3
  rw [he, show (bif (none : Option Int).isNone then F.trim else Fm.zero) = F.trim from rfl] at r3
  rw [he, show (bif (none : Option Int).isNone then F.trim else Fm.zero) = F.trim from rfl] at hTN
  rw [he]
  generalize F.trim = T at *
  obtain ⟨tp, htp⟩ := Int.eq_ofNat_of_zero_le hgt.topLt.1
  have htl := hgt.topLt.2
  have gt2 := hgt.n1
  replace r3 : Rd H3 b5 0 [.int .i64 T.vars, slV ta toff T.nodes.length tcap tsp, .int .i64 T.top] := r3
  rw [htn, htp] at r3
  refine TOps.assign rfl rfl ?_
  refine TOps.next ?_
  refine Tri.seq ?_
  refine Tri.seq (Tri.region ?_)
  refine TOps.move rfl rfl ?_
  refine TOps.neqNil (T := 57) (o := none) rfl Tryz.underlying29 rfl ?_
  refine TOps.next ?_
  refine Tri.cond rfl (fun hc2 => ?_) (fun hc2 => ?_)
  · exact absurd hc2 (by first | decide | simp)
  try simp only [decide_eq_true_eq, decide_eq_false_iff_not, Bool.and_eq_true, Bool.or_eq_true, Bool.not_eq_true', Bool.and_eq_false_iff, Bool.or_eq_false_iff, Bool.not_eq_false', Int.not_lt, Int.not_le, ne_eq, Decidable.not_not, Option.isSome_iff_ne_none, Option.isNone_iff_eq_none] at hc2
  refine Tri.fin ?_
  refine Nrm.next ?_
  refine Tri.seq (Tri.region ?_)
  refine TOps.field0 rfl Tryz.underlying24 rfl rfl ti3 rfl rfl rfl ?_
  refine TOps.load1 (v := natV v) rfl ti3 (Rd.fld r3 0 rfl) rfl ?_
  first | refine TOps.fieldB 1 rfl Tryz.underlying24 rfl rfl ti22 rfl rfl rfl ?_ | refine TOps.fieldN 1 rfl Tryz.underlying24 rfl rfl ti22 rfl rfl rfl ?_
  refine TOps.load1 rfl ti22 (Rd.fld r3 1 rfl) rfl ?_
  refine TOps.len rfl Tryz.underlying22 rfl ?_
  refine TOps.add (r := ((v + T.nodes.length : Nat) : Int)) rfl rfl (by rw [wrapI (by omega) (by omega)]; omega) rfl ?_
  refine TOps.make1 (L := 0) (C := v + T.nodes.length) rfl rfl Tryz.underlying69 ti35 (Nat.zero_le _) (by omega) (by omega) rfl (fun b35 => ?_)
  refine TOps.assign rfl rfl ?_
  refine TOps.next ?_
  refine Tri.seq ?_
  refine Tri.seq (Tri.region ?_)
  refine TOps.field0 rfl Tryz.underlying24 rfl rfl ti3 rfl rfl rfl ?_
  refine TOps.load1 (v := natV v) rfl ti3 (Rd.fld r3.up 0 rfl) rfl ?_
  refine TOps.move rfl rfl ?_
  refine TOps.next ?_
  refine Tri.range (X := Option Nat × Nat × List LE × List Ent) (fun x k => [(5, .pointer (some ⟨b5, 0, none⟩)), (7, slV x.1 0 x.2.2.1.length x.2.1)]) (fun x k => row x.1 35 1 x.2.1 (sls (x.2.2.1)) :: (x.2.2.2 ++ H3)) (fun x k => (x.2.2.1 ≠ [] → ∃ b, x.1 = some b) ∧ x.2.2.1.length = k ∧ PLs x.2.2.2 x.2.2.1 (fun i t => prV T v t i = true)) (by omega) rfl rfl rfl (fun _ _ => ⟨rfl, rfl, rfl, rfl⟩) (some b35, v + T.nodes.length, [], []) ⟨fun _ => ⟨_, rfl⟩, rfl, fun i hi => absurd hi (Nat.not_lt_zero i)⟩ ⟨rfl, rfl, trivial⟩ (Le.refl _) (fun k x hlt hp => ?_) (fun x ac wc hp hS hM => ?_)
  · skip
    obtain ⟨xa, xc, L, N⟩ := x
    obtain ⟨p1, p2, p3⟩ := hp
    dsimp only at p1 p2 p3 ⊢
    have hpw : 2 ^ k < 2 ^ 8 := Nat.pow_lt_pow_right (by decide) (by omega)
    refine Tri.seq (Tri.region ?_)
    refine TOps.move rfl rfl ?_
    refine TOps.assign rfl rfl ?_
    refine TOps.next ?_
    refine Tri.region ?_
    refine TOps.move rfl rfl ?_
    refine TOps.move rfl rfl ?_
    refine TOps.shl (r := ((2 ^ k : Nat) : Int)) rfl rfl (by omega) (ishl_one (by omega)) rfl ?_
    refine TOps.buildSlice (vs := [_]) (xs := [_]) Tryz.underlying35 ti3 ⟨rfl, rfl, trivial⟩ rfl rfl rfl rfl rfl rfl (by decide) rfl (fun b44 => ?_)
    refine TOps.buildSlice (vs := [_]) (xs := [_]) Tryz.underlying69 ti35 ⟨rfl, rfl, trivial⟩ rfl rfl rfl rfl rfl rfl (by decide) rfl (fun b45 => ?_)
    refine TOps.appendLit rfl rfl Tryz.underlying69 ti35 rfl (fun _ _ => (by repeat (first | exact Upd.here | apply Upd.there))) rfl (by simp [sls]) rfl (by omega) (by omega) (by simp [slV]) rfl (fun b46 c46 => ?_)
    rw [show sls L ++ [slV (some b44) 0 1 1] = sls (L ++ [(some b44, 1, [2 ^ k])]) by simp [sls], show L.length + 1 = (L ++ [((some b44, 1, [2 ^ k]) : LE)]).length by simp]
    refine TOps.le (H' := row (some b46) 35 1 c46 (sls (L ++ [(some b44, 1, [2 ^ k])])) :: row (some b44) 3 1 1 (nats [2 ^ k]) :: (N ++ H3)) (Sp.le (by repeat (first | exact Sp.refl _ | exact Sp.sub (by assumption) | refine Sp.cons (by repeat (first | exact Pick.here | apply Pick.there)) ?_ | exact Sp.nil | apply Sp.skip))) ?_
    refine TOps.assign rfl rfl ?_
    refine TOps.fin ?_
    refine Nrm.body (some b46, c46, L ++ [(some b44, 1, [2 ^ k])], row (some b44) 3 1 1 (nats [2 ^ k]) :: N) ⟨fun _ => ⟨_, rfl⟩, by simp only [List.length_append, List.length_singleton]; omega, PLs.snoc (N' := [row (some b44) 3 1 1 (nats [2 ^ k])]) p3 (RdS.ofRowS (List.Mem.head _)) ((Fam.event (by omega)).congr (fun t => by rw [p2, prV_event htn hv (by omega)]))⟩ ⟨rfl, rfl, rfl, rfl, trivial⟩ (Le.refl _)
  obtain ⟨xa0, xc0, L0, N0⟩ := x
  obtain ⟨p1, p2, p3⟩ := hp
  dsimp only at p1 p2 p3 hS hM
  refine Nrm.of hS hM ?_
  refine Nrm.next ?_
  refine Tri.seq ?_
  refine Tri.seq (Tri.region ?_)
  first | refine TOps.fieldB 1 rfl Tryz.underlying24 rfl rfl ti22 rfl rfl rfl ?_ | refine TOps.fieldN 1 rfl Tryz.underlying24 rfl rfl ti22 rfl rfl rfl ?_
  refine TOps.load1 rfl ti22 (Rd.fld (r3.le (Le.drop (Le.sub (List.sublist_append_right _ _)))) 1 rfl) rfl ?_
  refine TOps.len rfl Tryz.underlying22 rfl ?_
  refine TOps.move rfl rfl ?_
  refine TOps.next ?_
  refine Tri.range (X := Option Nat × Nat × List LE × List Ent) (fun x k => [(5, .pointer (some ⟨b5, 0, none⟩)), (7, slV x.1 0 x.2.2.1.length x.2.1), (49, slV ta toff T.nodes.length tcap tsp)]) (fun x k => row x.1 35 1 x.2.1 (sls (x.2.2.1)) :: (x.2.2.2 ++ H3)) (fun x k => (x.2.2.1 ≠ [] → ∃ b, x.1 = some b) ∧ x.2.2.1.length = v + k ∧ PLs x.2.2.2 x.2.2.1 (fun i t => prV T v t i = true)) (by omega) rfl rfl rfl (fun _ _ => ⟨rfl, rfl, rfl, rfl⟩) (xa0, xc0, L0, N0) ⟨p1, p2, p3⟩ ⟨rfl, rfl, rfl, trivial⟩ (Le.refl _) (fun k x hlt hp => ?_) (fun x ac wc hp hS hM => ?_)
  · skip
    obtain ⟨xa, xc, L, N⟩ := x
    obtain ⟨p1, p2, p3⟩ := hp
    dsimp only at p1 p2 p3 ⊢
    obtain ⟨nb, aa, ao, acap, asp, rfl, rfl, hn⟩ := hTN.at hlt
    have hnv := ndP_val hgt htn hlt (hpl _ (List.getElem_mem hlt))
    have hfit := hgt.fits k hlt
    have halt := hgt.argLt hlt
    have hkind := plainKind hgt hlt (hpl _ (List.getElem_mem hlt))
    obtain ⟨d, hd⟩ : ∃ d, d = T.nodes[k] := ⟨_, rfl⟩
    rw [← hd] at hn hnv hfit halt hkind
    have hdl := hfit.len
    have hNH : Le (N ++ H3) H3 := Le.sub (List.sublist_append_right _ _)
    have hNN : Le (N ++ H3) N := Le.sub (List.sublist_append_left _ _)
    have hal : ∀ a ∈ d.args, a.toNat < L.length := fun a ha => by have := halt a ha; omega
    have hPA := p3.args hal
    refine Tri.seq (Tri.region ?_)
    refine TOps.indexAddr (b := nb) (off := toff) (m := T.nodes.length) (cap := tcap) (off' := toff + k * 3) rfl rfl Tryz.underlying22 ti48 (by omega) (by omega) (by simp) rfl ?_
    refine TOps.loadN (vs := [.int .i64 d.kind, .int .i64 d.k, slV aa ao d.args.length acap asp]) rfl ti48 (hn.cells.le (Le.drop hNH)) rfl rfl ?_
    refine TOps.alloc ti48 rfl (fun b10 => ?_)
    refine TOps.storeN rfl rfl ti48 rfl rfl (by repeat (first | exact Upd.here | apply Upd.there)) (by first | decide | (simp; done) | (simp; omega)) ?_
    refine TOps.le (H' := row (some b10) 48 3 1 [.int .i64 d.kind, .int .i64 d.k, slV aa ao d.args.length acap asp] :: row xa 35 1 xc (sls (L)) :: (N ++ H3)) (Sp.le (by repeat (first | exact Sp.refl _ | exact Sp.sub (by assumption) | refine Sp.cons (by repeat (first | exact Pick.here | apply Pick.there)) ?_ | exact Sp.nil | apply Sp.skip))) ?_
    refine TOps.next ?_
    refine Tri.seq (Tri.region ?_)
    refine TOps.assign rfl rfl ?_
    refine TOps.next ?_
    refine Tri.seq ?_
    refine Tri.seq (Tri.region ?_)
    first | refine TOps.fieldB 2 rfl Tryz.underlying48 rfl rfl ti35 rfl rfl rfl ?_ | refine TOps.fieldN 2 rfl Tryz.underlying48 rfl rfl ti35 rfl rfl rfl ?_
    refine TOps.load1 rfl ti35 (Rd.fld (Rd.all (List.Mem.head _)) 2 rfl) rfl ?_
    refine TOps.len rfl Tryz.underlying35 rfl ?_
    refine TOps.move rfl rfl ?_
    refine TOps.next ?_
    refine Tri.range (X := Option Nat × Nat) (fun w j => [(5, .pointer (some ⟨b5, 0, none⟩)), (7, slV xa 0 L.length xc), (10, .pointer (some ⟨b10, 0, none⟩)), (11, slV w.1 0 j w.2), (49, slV (some nb) toff T.nodes.length tcap), (50, natV T.nodes.length), (51, natV k), (56, slV aa ao d.args.length acap asp)]) (fun w j => row w.1 35 1 w.2 (sls ((argL L (d.args.take j)))) :: row (some b10) 48 3 1 [.int .i64 d.kind, .int .i64 d.k, slV aa ao d.args.length acap asp] :: row xa 35 1 xc (sls (L)) :: (N ++ H3)) (fun w j => (j ≠ 0 → ∃ b, w.1 = some b)) (by omega) rfl rfl rfl (fun _ _ => ⟨rfl, rfl, rfl, rfl⟩) (none, 0) (fun h => absurd rfl h) ⟨rfl, rfl, rfl, rfl, rfl, rfl, rfl, rfl, trivial⟩ Le.addNil (fun j w hltj hpj => ?_) (fun w ac wc hpj hS hM => ?_)
    · skip
      obtain ⟨wa, wc⟩ := w
      dsimp only at hpj ⊢
      obtain ⟨ab, hab, hasp, hra⟩ := RInts.at hn.args hltj
      have haj := hal _ (List.getElem_mem hltj)
      have ha0 := (hfit.args _ (List.getElem_mem hltj)).1
      have hsucc := argL_succ (L := L) hltj haj
      have htl : (d.args.take j).length = j := by rw [List.length_take]; omega
      obtain ⟨xb, rfl⟩ := p1 (by intro h; rw [h] at haj; exact absurd haj (Nat.not_lt_zero _))
      have hLa := sls_at (H := row wa 35 1 wc (sls ((argL L (d.args.take j)))) :: row (some b10) 48 3 1 [.int .i64 d.kind, .int .i64 d.k, slV aa ao d.args.length acap asp] :: row (some xb) 35 1 xc (sls (L)) :: (N ++ H3)) (b := xb) (off := 0) (Rd.all (by repeat (first | exact List.Mem.head _ | apply List.Mem.tail))) haj
      obtain ⟨aj, haje⟩ : ∃ aj, aj = d.args[j] := ⟨_, rfl⟩
      rw [← haje] at hra haj ha0
      simp only [← haje] at hsucc hLa
      obtain ⟨Q, hQ⟩ : ∃ Q, Q = L[aj.toNat] := ⟨_, rfl⟩
      rw [← hQ] at hLa hsucc
      refine Tri.seq (Tri.region ?_)
      refine TOps.indexAddr (b := ab) (off := ao) (m := d.args.length) (cap := acap) (off' := ao + j) (by rw [hab, hasp]; rfl) rfl Tryz.underlying35 ti3 (by omega) (by omega) (by simp) rfl ?_
      refine TOps.load1 rfl ti3 (hra.le (Le.drop (Le.drop (Le.drop hNH)))) rfl ?_
      refine TOps.assign rfl rfl ?_
      refine TOps.next ?_
      refine Tri.region ?_
      refine TOps.move rfl rfl ?_
      refine TOps.move rfl rfl ?_
      refine TOps.move rfl rfl ?_
      refine TOps.indexAddr (b := xb) (off := 0) (m := L.length) (cap := xc) (off' := 0 + aj.toNat) rfl rfl Tryz.underlying69 ti35 (by omega) (by omega) (by simp) rfl ?_
      refine TOps.load1 rfl ti35 hLa rfl ?_
      refine TOps.buildSlice (vs := [_]) (xs := [_]) Tryz.underlying69 ti35 ⟨rfl, rfl, trivial⟩ rfl rfl rfl rfl rfl rfl (by decide) rfl (fun b67 => ?_)
      refine TOps.appendLit rfl rfl Tryz.underlying69 ti35 rfl (fun _ _ => (by repeat (first | exact Upd.here | apply Upd.there))) rfl (by rw [sls_len, argL_len, htl]; omega) rfl (by omega) (by omega) (by simp [slV]) rfl (fun b68 c68 => ?_)
      rw [show sls (argL L (d.args.take j)) ++ [slV Q.1 0 Q.2.2.length Q.2.1] = sls (argL L (d.args.take (j + 1))) by rw [hsucc, sls_app]; rfl]
      refine TOps.assign rfl rfl ?_
      refine TOps.fin ?_
      refine Nrm.body (some b68, c68) (fun _ => ⟨_, rfl⟩) ⟨rfl, rfl, rfl, rfl, rfl, rfl, rfl, rfl, rfl, rfl, trivial⟩ (by repeat (first | exact Le.refl _ | assumption | apply Le.drop))
    obtain ⟨wa, wc⟩ := w
    simp only [List.take_length] at hpj hS hM
    rw [← argL_len L d.args] at hS hpj
    refine Nrm.of hS hM ?_
    refine Nrm.next ?_
    refine Tri.seq (Tri.region ?_)
    refine TOps.loadN (vs := [.int .i64 d.kind, .int .i64 d.k, slV aa ao d.args.length acap asp]) rfl ti48 (Rd.all (by repeat (first | exact List.Mem.head _ | apply List.Mem.tail))) rfl rfl ?_
    refine TOps.move rfl rfl ?_
    refine TOps.call (vs := [_, _]) Tryz.call31 ⟨rfl, rfl, trivial⟩ (pnode_g (L := argL L d.args) (d := d) (pr := fun i t => prV T v t (d.args.getD i 0).toNat) (RdS.ofRowA (List.Mem.head _) (fun h => hpj (by intro h2; rw [List.eq_nil_of_length_eq_zero h2] at h; exact h rfl))) (hPA.le ((Le.drop (Le.drop (Le.drop (Le.refl _)))).trans hNN)) (by rw [argL_len]; omega) hkind hfit.kk.1 (by rw [argL_len]; exact hfit.kk.2.1)) rfl ?_
    rintro _ _ ⟨va, vc, w0, N', f4, rfl, h4, rfl⟩
    refine TOps.move rfl rfl ?_
    refine TOps.extract rfl rfl rfl ?_
    refine TOps.extract rfl rfl rfl ?_
    refine TOps.assign rfl rfl ?_
    refine TOps.assign rfl rfl ?_
    refine TOps.next ?_
    refine Tri.seq ?_
    refine Tri.seq (Tri.region ?_)
    refine TOps.move rfl rfl ?_
    refine TOps.neqNil (T := 57) (o := none) rfl Tryz.underlying29 rfl ?_
    refine TOps.next ?_
    refine Tri.cond rfl (fun hc3 => ?_) (fun hc3 => ?_)
    · exact absurd hc3 (by first | decide | simp)
    try simp only [decide_eq_true_eq, decide_eq_false_iff_not, Bool.and_eq_true, Bool.or_eq_true, Bool.not_eq_true', Bool.and_eq_false_iff, Bool.or_eq_false_iff, Bool.not_eq_false', Int.not_lt, Int.not_le, ne_eq, Decidable.not_not, Option.isSome_iff_ne_none, Option.isNone_iff_eq_none] at hc3
    refine Tri.fin ?_
    refine Nrm.next ?_
    refine Tri.region ?_
    refine TOps.move rfl rfl ?_
    refine TOps.move rfl rfl ?_
    refine TOps.buildSlice (vs := [_]) (xs := [_]) Tryz.underlying69 ti35 ⟨rfl, rfl, trivial⟩ rfl rfl rfl rfl rfl rfl (by decide) rfl (fun b81 => ?_)
    refine TOps.appendLit rfl rfl Tryz.underlying69 ti35 rfl (fun _ _ => Upd.app (Upd.there (Upd.there Upd.here)) N') rfl (by rw [sls_len]; omega) rfl (by omega) (by omega) (by simp [slV]) rfl (fun b82 c82 => ?_)
    rw [show sls L ++ [slV va 0 w0.length vc] = sls (L ++ [(va, vc, w0)]) by simp [sls], show L.length + 1 = (L ++ [((va, vc, w0) : LE)]).length by simp]
    refine TOps.le (H' := row (some b82) 35 1 c82 (sls (L ++ [(va, vc, w0)])) :: ((N' ++ N) ++ H3)) Le.pathApp ?_
    refine TOps.assign rfl rfl ?_
    refine TOps.fin ?_
    refine Nrm.body (some b82, c82, L ++ [(va, vc, w0)], N' ++ N) ⟨fun _ => ⟨_, rfl⟩, by simp only [List.length_append, List.length_singleton]; omega, PLs.snoc p3 h4 (f4.congr (fun t => by rw [argL_len, p2]; exact hnv t))⟩ ⟨rfl, rfl, rfl, rfl, rfl, trivial⟩ (Le.refl _)
  obtain ⟨xa, xc, L, N⟩ := x
  obtain ⟨p1, p2, p3⟩ := hp
  dsimp only at p1 p2 p3 hS hM
  have htL : tp < L.length := by omega
  obtain ⟨xb, rfl⟩ := p1 (by intro h; rw [h] at htL; exact absurd htL (Nat.not_lt_zero _))
  have hLt := sls_at (H := row (some xb) 35 1 xc (sls (L)) :: (N ++ H3)) (b := xb) (off := 0) (Rd.all (List.Mem.head _)) htL
  obtain ⟨d1, d2⟩ := p3 tp htL
  obtain ⟨Q, hQ⟩ : ∃ Q, Q = L[tp] := ⟨_, rfl⟩
  rw [← hQ] at hLt d1 d2
  have lQ := d2.len
  refine Nrm.of hS hM ?_
  refine Nrm.next ?_
  refine Tri.seq (Tri.region ?_)
  refine TOps.move rfl rfl ?_
  first | refine TOps.fieldB 2 rfl Tryz.underlying24 rfl rfl ti3 rfl rfl rfl ?_ | refine TOps.fieldN 2 rfl Tryz.underlying24 rfl rfl ti3 rfl rfl rfl ?_
  refine TOps.load1 (v := natV tp) rfl ti3 (Rd.fld (r3.le (Le.drop (Le.sub (List.sublist_append_right _ _)))) 2 rfl) rfl ?_
  refine TOps.indexAddr (b := xb) (off := 0) (m := L.length) (cap := xc) (off' := 0 + tp) rfl rfl Tryz.underlying69 ti35 (by omega) (by omega) (by simp) rfl ?_
  refine TOps.load1 rfl ti35 hLt rfl ?_
  refine TOps.call (vs := [_]) Tryz.call32 ⟨rfl, trivial⟩ (cloneL_g (d1.le (Le.drop (Le.sub (List.sublist_append_left _ _)))) (by omega)) rfl ?_
  rintro _ _ ⟨ca, cc, rfl, hca, rfl⟩
  refine TOps.assign rfl rfl ?_
  refine TOps.assign rfl rfl ?_
  refine TOps.next ?_
  refine Tri.ret2 (H' := row ca 3 1 cc (nats Q.2.2) :: H) Tryz.results11 (fun _ _ h => h) (.tmp rfl) (.tmp rfl) (Le.keep ((s3.trans (List.sublist_append_right N H3)).cons _)) ⟨ca, cc, Q.2.2, d2.congr (fun t => ?_), rfl, fun h => hca (ne_nats h), rfl⟩
  rw [← htv, Fm.value_eq, htp, Int.toNat_natCast]
  unfold prV
  simp
end Go.Proofs
namespace Go.Proofs
open Go.GL
set_option linter.unusedVariables false
set_option linter.unusedSimpArgs false
theorem vote_g {H : List Ent} : Gives Tryz.prog 15 [] H (fun u H' => Le H' H ∧ H.Sublist H' ∧ RFC H' u vote3) := by
  refine Gives.enter Tryz.func15 rfl (by exact Tryz.ntmps15) rfl ?_
  refine Tri.seq (Tri.region ?_)
  refine TOps.alloc ti24 rfl (fun b0 => ?_)
  refine TOps.next ?_
  refine Tri.seq (Tri.region ?_)
  refine TOps.buildSlice (vs := [_, _, _]) (xs := [_, _, _]) Tryz.underlying35 ti3 ⟨rfl, rfl, rfl, rfl, rfl, rfl, trivial⟩ rfl rfl rfl rfl rfl rfl (by decide) rfl (fun b1 => ?_)
  refine TOps.buildStruct (vs := [(0, _), (1, _), (2, _)]) (xs := [_, _, _]) [(0, 1), (1, 1), (2, 1)] Tryz.underlying48 ti48 (fun w => by simp) ⟨rfl, rfl, rfl, rfl, rfl, rfl, trivial⟩ rfl rfl ?_
  refine TOps.buildSlice (vs := [_]) (xs := [_, _, _]) Tryz.underlying22 ti48 ⟨rfl, rfl, trivial⟩ rfl rfl rfl rfl rfl rfl (by decide) rfl (fun b3 => ?_)
  refine TOps.buildStruct (vs := [(0, _), (2, _), (1, _)]) (xs := [_, _, _]) [(0, 1), (1, 1), (2, 1)] Tryz.underlying24 ti24 (fun w => by simp) ⟨rfl, rfl, rfl, rfl, rfl, rfl, trivial⟩ rfl rfl ?_
  refine TOps.storeN rfl rfl ti24 rfl rfl (by repeat (first | exact Upd.here | apply Upd.there)) (by first | decide | (simp; done) | (simp; omega)) ?_
  refine TOps.next ?_
  refine Tri.ret1 (H' := _) Tryz.results15 (fun _ _ h => h) (.cellN rfl rfl ti24 (Rd.all (by repeat (first | exact List.Mem.head _ | apply List.Mem.tail))) rfl) (Le.refl _) ⟨(by repeat (first | exact Le.refl _ | apply Le.drop)), (by repeat (first | exact List.Sublist.refl _ | apply List.Sublist.cons)), ?_⟩
  refine ⟨some b3, 0, 1, none, rfl, RNodesC.ofRow (E := 48) (sz := 3) (cap := 1) (qs := [(some b1, 0, 3, none)]) (by repeat (first | exact List.Mem.head _ | apply List.Mem.tail)) rfl ?_⟩
  intro i d q hd hq
  rcases i with _ | i
  · simp [vote3] at hd hq; subst hd hq; exact ⟨RInts.ofRow (xs := [0, 1, 2]) (by repeat (first | exact List.Mem.head _ | apply List.Mem.tail)), Nat.le_refl _⟩
  · simp [vote3] at hd
theorem theavy_g {H : List Ent} {fv : Value} {F : Fm} (hF : RF H fv F) (hk : F.ok) : Gives Tryz.prog 16 [fv] H (R1 (.bool F.heavyB) H) := by
  have hF0 := hF
  obtain ⟨na, no, cap, nsp, rfl, hns⟩ := hF
  have hl := hk.2.2.2
  refine Gives.enter Tryz.func16 rfl (by exact Tryz.ntmps16) rfl ?_
  refine Tri.seq (Tri.region ?_)
  refine TOps.boxN rfl ti24 rfl rfl (fun b1 => ?_)
  refine TOps.hide (fun H1 l1 s1 r1 => ?_)
  replace hns := hns.le l1
  refine TOps.assign rfl rfl ?_
  refine TOps.next ?_
  refine Tri.seq (Tri.region ?_)
  refine TOps.assign rfl rfl ?_
  refine TOps.next ?_
  refine Tri.seq ?_
  refine Tri.seq (Tri.region ?_)
  first | refine TOps.fieldB 1 rfl Tryz.underlying24 rfl rfl ti22 rfl rfl rfl ?_ | refine TOps.fieldN 1 rfl Tryz.underlying24 rfl rfl ti22 rfl rfl rfl ?_
  refine TOps.load1 rfl ti22 (by first | exact Rd.lit (by repeat (first | exact List.Mem.head _ | apply List.Mem.tail)) rfl | (repeat (first | assumption | exact Rd.fld (by assumption) 1 rfl | apply Rd.up))) rfl ?_
  refine TOps.len rfl Tryz.underlying22 rfl ?_
  refine TOps.move rfl rfl ?_
  refine TOps.next ?_
  refine Tri.range (X := Unit) (fun x k => [(1, .pointer (some ⟨b1, 0, none⟩)), (3, .int .i64 (argW (F.nodes.take k))), (7, slV na no F.nodes.length cap nsp)]) (fun x k => H1) (fun x k => True) hl rfl rfl rfl (fun _ _ => ⟨rfl, rfl, rfl, rfl⟩) () trivial ⟨rfl, rfl, rfl, trivial⟩ (by repeat (first | exact Le.refl _ | assumption | apply Le.drop)) (fun k x hlt hp => ?_) (fun x ac wc hp hS hM => ?_)
  · skip
    obtain ⟨nb, aa, ao, acap, asp, hna, hnsp, hnd⟩ := hns.at hlt
    refine Tri.seq (Tri.region ?_)
    refine TOps.indexAddr (b := nb) (off := no) (m := F.nodes.length) (cap := cap) (off' := no + k * 3) (by rw [← hna, ← hnsp]; rfl) rfl Tryz.underlying22 ti48 (by omega) (by omega) (by simp) rfl ?_
    refine TOps.loadN (vs := [.int .i64 F.nodes[k].kind, .int .i64 F.nodes[k].k, slV aa ao F.nodes[k].args.length acap asp]) rfl ti48 hnd.cells rfl rfl ?_
    refine TOps.alloc ti48 rfl (fun b5 => ?_)
    refine TOps.storeN rfl rfl ti48 rfl rfl (by repeat (first | exact Upd.here | apply Upd.there)) (by first | decide | (simp; done) | (simp; omega)) ?_
    refine TOps.next ?_
    refine Tri.region ?_
    refine TOps.move rfl rfl ?_
    first | refine TOps.fieldB 2 rfl Tryz.underlying48 rfl rfl ti35 rfl rfl rfl ?_ | refine TOps.fieldN 2 rfl Tryz.underlying48 rfl rfl ti35 rfl rfl rfl ?_
    refine TOps.load1 rfl ti35 (by first | exact Rd.lit (by repeat (first | exact List.Mem.head _ | apply List.Mem.tail)) rfl | (repeat (first | assumption | exact Rd.fld (by assumption) 2 rfl | apply Rd.up))) rfl ?_
    refine TOps.len rfl Tryz.underlying35 rfl ?_
    refine TOps.add (r := argW (F.nodes.take (k + 1))) rfl rfl (argW_succ hlt).symm rfl ?_
    refine TOps.assign rfl rfl ?_
    refine TOps.fin ?_
    refine Nrm.body () trivial ⟨rfl, rfl, rfl, rfl, rfl, trivial⟩ (by repeat (first | exact Le.refl _ | assumption | apply Le.drop))
  refine Nrm.of hS hM ?_
  refine Nrm.next ?_
  refine Tri.seq (Tri.region ?_)
  refine TOps.field0 rfl Tryz.underlying24 rfl rfl ti3 rfl rfl rfl ?_
  refine TOps.load1 rfl ti3 (by first | exact Rd.lit (by repeat (first | exact List.Mem.head _ | apply List.Mem.tail)) rfl | (repeat (first | assumption | exact Rd.fld (by assumption) 0 rfl | apply Rd.up))) rfl ?_
  refine TOps.gtr rfl rfl rfl ?_
  refine TOps.move rfl rfl ?_
  refine' TOps.orB 4 rfl rfl rfl rfl (fun hg7_3 => ?_) ?_; rotate_left
  · have hg7_3' := hg7_3
    try simp only [decide_eq_true_eq, decide_eq_false_iff_not, Bool.and_eq_true, Bool.or_eq_true, Bool.not_eq_true', Bool.and_eq_false_iff, Bool.or_eq_false_iff, Bool.not_eq_false', Int.not_lt, Int.not_le, ne_eq, Decidable.not_not] at hg7_3'
    refine TOps.strip 3 false rfl rfl hg7_3 rfl ?_
    first | refine TOps.fieldB 1 rfl Tryz.underlying24 rfl rfl ti22 rfl rfl rfl ?_ | refine TOps.fieldN 1 rfl Tryz.underlying24 rfl rfl ti22 rfl rfl rfl ?_
    refine TOps.load1 rfl ti22 (by first | exact Rd.lit (by repeat (first | exact List.Mem.head _ | apply List.Mem.tail)) rfl | (repeat (first | assumption | exact Rd.fld (by assumption) 1 rfl | apply Rd.up))) rfl ?_
    refine TOps.len rfl Tryz.underlying22 rfl ?_
    refine TOps.gtr rfl rfl rfl ?_
    refine TOps.blk rfl (by repeat (first | exact Ext.refl _ | refine Ext.cons rfl ?_)) (by repeat (first | exact Le.refl _ | apply Le.drop))
  refine TOps.move rfl rfl ?_
  refine' TOps.orB 2 rfl rfl rfl rfl (fun hg7_9 => ?_) ?_; rotate_left
  · have hg7_9' := hg7_9
    try simp only [decide_eq_true_eq, decide_eq_false_iff_not, Bool.and_eq_true, Bool.or_eq_true, Bool.not_eq_true', Bool.and_eq_false_iff, Bool.or_eq_false_iff, Bool.not_eq_false', Int.not_lt, Int.not_le, ne_eq, Decidable.not_not] at hg7_9'
    refine TOps.strip 9 false rfl rfl hg7_9 rfl ?_
    refine TOps.move rfl rfl ?_
    refine TOps.gtr rfl rfl rfl ?_
    refine TOps.blk rfl (by repeat (first | exact Ext.refl _ | refine Ext.cons rfl ?_)) (by repeat (first | exact Le.refl _ | apply Le.drop))
  refine TOps.assign rfl rfl ?_
  refine TOps.next ?_
  refine Tri.ret1 (H' := H) Tryz.results16 (fun _ _ h => h) (.tmp rfl) l1 ⟨by rw [List.take_length]; rfl, rfl⟩
theorem ready_g {H : List Ent} {fv : Value} {F : Fm} (hF : RF H fv F) (hk : F.ok) : Gives Tryz.prog 5 [fv] H (R1 (.bool F.readyB) H) := by
  have hF0 := hF
  obtain ⟨na, no, cap, nsp, rfl, hns⟩ := hF
  refine Gives.enter Tryz.func5 rfl (by exact Tryz.ntmps5) rfl ?_
  refine Tri.seq (Tri.region ?_)
  refine TOps.boxN rfl ti24 rfl rfl (fun b1 => ?_)
  refine TOps.hide (fun H1 l1 s1 r1 => ?_)
  replace hF0 := hF0.le l1
  refine TOps.assign rfl rfl ?_
  refine TOps.next ?_
  refine Tri.seq (Tri.region ?_)
  refine TOps.loadN rfl ti24 (by first | exact Rd.all (by repeat (first | exact List.Mem.head _ | apply List.Mem.tail)) | (repeat (first | assumption | apply Rd.up))) rfl rfl ?_
  refine TOps.call (vs := [_]) Tryz.call16 ⟨rfl, trivial⟩ (theavy_g hF0 hk) rfl ?_
  rintro _ _ ⟨rfl, rfl⟩
  refine TOps.not rfl rfl ?_
  refine TOps.move rfl rfl ?_
  refine' TOps.andB 3 rfl rfl rfl rfl (fun hg1_3 => ?_) ?_; rotate_left
  · have hg1_3' := hg1_3
    try simp only [decide_eq_true_eq, decide_eq_false_iff_not, Bool.and_eq_true, Bool.or_eq_true, Bool.not_eq_true', Bool.and_eq_false_iff, Bool.or_eq_false_iff, Bool.not_eq_false', Int.not_lt, Int.not_le, ne_eq, Decidable.not_not] at hg1_3'
    refine TOps.strip 3 true rfl rfl hg1_3 rfl ?_
    refine TOps.loadN rfl ti24 (by first | exact Rd.all (by repeat (first | exact List.Mem.head _ | apply List.Mem.tail)) | (repeat (first | assumption | apply Rd.up))) rfl rfl ?_
    refine TOps.call (vs := [_]) Tryz.call17 ⟨rfl, trivial⟩ (rcheck_g hF0 hk) rfl ?_
    rintro _ _ ⟨rfl, rfl⟩
    refine TOps.eqlI rfl rfl rfl ?_
    refine TOps.blk rfl (by repeat (first | exact Ext.refl _ | refine Ext.cons rfl ?_)) (by repeat (first | exact Le.refl _ | apply Le.drop))
  refine TOps.assign rfl rfl ?_
  refine TOps.next ?_
  refine Tri.ret1 (H' := H) Tryz.results5 (fun _ _ h => h) (.tmp rfl) l1 ⟨rfl, rfl⟩
theorem large_g {H : List Ent} (o : Option Int) : Gives Tryz.prog 8 [errV 57 o] H (R1 (.bool (decide (o = some 4))) H) := by
  refine Gives.enter Tryz.func8 rfl (by exact Tryz.ntmps8) rfl ?_
  refine Tri.seq (Tri.region ?_)
  refine TOps.assign rfl rfl ?_
  refine TOps.next ?_
  refine Tri.seq (Tri.region ?_)
  refine TOps.move rfl rfl ?_
  refine TOps.call (vs := [_, _]) Tryz.call23 ⟨rfl, rfl, trivial⟩ (is_g o 4) rfl ?_
  rintro _ _ ⟨rfl, rfl⟩
  refine TOps.assign rfl rfl ?_
  refine TOps.next ?_
  refine Tri.ret1 (H' := H) Tryz.results8 (fun _ _ h => h) (.tmp rfl) (Le.refl _) ⟨rfl, rfl⟩
theorem readyB_ok {F : Fm} (h : F.readyB = true) : F.Good ∧ F.vars ≤ 8 ∧ F.nodes.length ≤ 16 := by
  simp only [Fm.readyB, Fm.heavyB, Bool.and_eq_true, Bool.not_eq_true', Bool.or_eq_false_iff, decide_eq_true_eq, decide_eq_false_iff_not] at h
  obtain ⟨⟨⟨h1, h2⟩, _⟩, h3⟩ := h
  exact ⟨(Fm.good_iff F).1 (Fm.err_of h3), by omega, by omega⟩
end Go.Proofs
namespace Go.Proofs
open Go.GL
set_option linter.unusedVariables false
set_option linter.unusedSimpArgs false
theorem rsyntax_g {H : List Ent} {fv : Value} {F : Fm} (hF : RF H fv F) (hk : F.ok) (hg : F.Good) :
    Gives Tryz.prog 6 [fv] H (R1 (.bool F.syn) H) := by
  have hF0 := hF
  obtain ⟨na, off, ncap, nsp, rfl, hN⟩ := hF
  have g0 := hg.v0; have g1 := hg.v1; have g2 := hg.n1
  have hbl := F.below_length
  obtain ⟨v, hv⟩ := Int.eq_ofNat_of_zero_le g0
  have hvn : F.vars.toNat = v := by omega
  rw [← Fm.syn_ref hg]
  rw [hv] at hF0 ⊢
  refine Gives.enter Tryz.func6 rfl (by exact Tryz.ntmps6) rfl ?_
  refine Tri.seq (Tri.region ?_)
  refine TOps.boxN rfl ti24 rfl rfl (fun b1 => ?_)
  refine TOps.hide (fun H1 l1 s1 r1 => ?_)
  replace hF0 := hF0.le l1; replace hN := hN.le l1
  refine TOps.assign rfl rfl ?_
  refine TOps.next ?_
  refine Tri.seq (Tri.region ?_)
  refine TOps.loadN rfl ti24 (by first | exact Rd.all (by repeat (first | exact List.Mem.head _ | apply List.Mem.tail)) | (repeat (first | assumption | apply Rd.up))) rfl rfl ?_
  refine TOps.call (vs := [_]) Tryz.call18 ⟨rfl, trivial⟩ (rbelow_g hF0 hk hg) rfl ?_
  rintro _ _ ⟨mb, mcap, rfl, rfl⟩
  have hmr : Rd (row (some mb) 4 1 mcap (bools F.below) :: H1) mb 0 (bools F.below) := Rd.all (List.Mem.head _)
  replace hN := hN.le (Le.drop (e := row (some mb) 4 1 mcap (bools F.below)) (Le.refl _)); replace r1 := r1.up (e := row (some mb) 4 1 mcap (bools F.below))
  have l2 : Le (row (some mb) 4 1 mcap (bools F.below) :: H1) H := Le.drop l1
  generalize row (some mb) 4 1 mcap (bools F.below) :: H1 = H2 at *
  rw [hvn]
  refine TOps.assign rfl rfl ?_
  refine TOps.next ?_
  refine Tri.seq ?_
  refine Tri.seq (Tri.region ?_)
  first | refine TOps.fieldB 1 rfl Tryz.underlying24 rfl rfl ti22 rfl rfl rfl ?_ | refine TOps.fieldN 1 rfl Tryz.underlying24 rfl rfl ti22 rfl rfl rfl ?_
  refine TOps.load1 rfl ti22 (by first | exact Rd.lit (by repeat (first | exact List.Mem.head _ | apply List.Mem.tail)) rfl | (repeat (first | assumption | exact Rd.fld (by assumption) 1 rfl | apply Rd.up))) rfl ?_
  refine TOps.len rfl Tryz.underlying22 rfl ?_
  refine TOps.move rfl rfl ?_
  refine TOps.next ?_
  refine Tri.range (X := Unit) (fun x k => [(1, .pointer (some ⟨b1, 0, none⟩)), (3, slV (some mb) 0 (v + F.nodes.length) mcap), (9, slV na off F.nodes.length ncap nsp)]) (fun x k => H2) (fun x k => F.synRef k = true) (by omega) rfl rfl rfl (fun _ _ => ⟨rfl, rfl, rfl, rfl⟩) () rfl ⟨rfl, rfl, rfl, trivial⟩ (by repeat (first | exact Le.refl _ | assumption | apply Le.drop)) (fun k x hlt hp => ?_) (fun x ac wc hp hS hM => ?_)
  · skip
    obtain ⟨nb, aa, ao, acap, asp, rfl, rfl, hn⟩ := hN.at hlt
    have hcells := hn.cells
    have hss := F.synRef_succ k
    rw [hvn, hp, show F.nodes.getD k ⟨0, 0, []⟩ = F.nodes[k] from by simp [hlt]] at hss
    have hb := bools_get (l := F.below) (i := v + k) (by omega)
    have hl := hmr.part (v + k) hb
    rw [Nat.zero_add] at hl
    refine Tri.seq (Tri.region ?_)
    refine TOps.move rfl rfl ?_
    refine TOps.indexAddr (off' := off + k * 3) rfl rfl Tryz.underlying22 ti48 (by omega) (by omega) (by simp) rfl ?_
    refine TOps.loadN rfl ti48 (by first | exact Rd.all (by repeat (first | exact List.Mem.head _ | apply List.Mem.tail)) | (repeat (first | assumption | apply Rd.up))) rfl rfl ?_
    refine TOps.alloc ti48 rfl (fun b5 => ?_)
    refine TOps.assign rfl rfl ?_
    refine TOps.storeN rfl rfl ti48 rfl rfl (by repeat (first | exact Upd.here | apply Upd.there)) (by first | decide | (simp; done) | (simp; omega)) ?_
    refine TOps.next ?_
    refine Tri.seq (Tri.region ?_)
    refine TOps.move rfl rfl ?_
    refine TOps.field0 rfl Tryz.underlying24 rfl rfl ti3 rfl rfl rfl ?_
    refine TOps.load1 rfl ti3 (by first | exact Rd.lit (by repeat (first | exact List.Mem.head _ | apply List.Mem.tail)) rfl | (repeat (first | assumption | exact Rd.fld (by assumption) 0 rfl | apply Rd.up))) rfl ?_
    refine TOps.move rfl rfl ?_
    refine TOps.add (r := ((v + k : Nat) : Int)) rfl rfl (by rw [wrapI (by omega) (by omega)]; omega) rfl ?_
    refine TOps.indexAddr (off' := v + k) rfl rfl Tryz.underlying45 ti4 (by omega) (by omega) (by omega) rfl ?_
    refine TOps.load1 rfl ti4 (Rd.up hl) rfl ?_
    refine TOps.move rfl rfl ?_
    refine' TOps.andB 8 rfl rfl rfl rfl (fun hg5_7 => ?_) ?_; rotate_left
    · have hg5_7' := hg5_7
      try simp only [decide_eq_true_eq, decide_eq_false_iff_not, Bool.and_eq_true, Bool.or_eq_true, Bool.not_eq_true', Bool.and_eq_false_iff, Bool.or_eq_false_iff, Bool.not_eq_false', Int.not_lt, Int.not_le, ne_eq, Decidable.not_not] at hg5_7'
      refine TOps.strip 7 true rfl rfl hg5_7 rfl ?_
      refine TOps.field0 rfl Tryz.underlying48 rfl rfl ti3 rfl rfl rfl ?_
      refine TOps.load1 rfl ti3 (by first | exact Rd.lit (by repeat (first | exact List.Mem.head _ | apply List.Mem.tail)) rfl | (repeat (first | assumption | exact Rd.fld (by assumption) 0 rfl | apply Rd.up))) rfl ?_
      refine TOps.eqlI rfl rfl rfl ?_
      refine TOps.move rfl rfl ?_
      refine' TOps.orB 3 rfl rfl rfl rfl (fun hg5_11 => ?_) ?_; rotate_left
      · have hg5_11' := hg5_11
        try simp only [decide_eq_true_eq, decide_eq_false_iff_not, Bool.and_eq_true, Bool.or_eq_true, Bool.not_eq_true', Bool.and_eq_false_iff, Bool.or_eq_false_iff, Bool.not_eq_false', Int.not_lt, Int.not_le, ne_eq, Decidable.not_not] at hg5_11'
        refine TOps.strip 11 false rfl rfl hg5_11 rfl ?_
        refine TOps.field0 rfl Tryz.underlying48 rfl rfl ti3 rfl rfl rfl ?_
        refine TOps.load1 rfl ti3 (by first | exact Rd.lit (by repeat (first | exact List.Mem.head _ | apply List.Mem.tail)) rfl | (repeat (first | assumption | exact Rd.fld (by assumption) 0 rfl | apply Rd.up))) rfl ?_
        refine TOps.eqlI rfl rfl rfl ?_
        refine TOps.blk rfl (by repeat (first | exact Ext.refl _ | refine Ext.cons rfl ?_)) (by repeat (first | exact Le.refl _ | apply Le.drop))
      refine TOps.blk rfl (by repeat (first | exact Ext.refl _ | refine Ext.cons rfl ?_)) (by repeat (first | exact Le.refl _ | apply Le.drop))
    refine TOps.next ?_
    refine Tri.cond rfl (fun hc1 => ?_) (fun hc1 => ?_)
    · try simp only [decide_eq_true_eq, decide_eq_false_iff_not, Bool.and_eq_true, Bool.or_eq_true, Bool.not_eq_true', Bool.and_eq_false_iff, Bool.or_eq_false_iff, Bool.not_eq_false', Int.not_lt, Int.not_le, ne_eq, Decidable.not_not, Option.isSome_iff_ne_none, Option.isNone_iff_eq_none] at hc1
      have hsf : F.synRef F.nodes.length = false := by
        have h1 : F.synRef (k + 1) = false := by rw [hss, hc1.1]; unfold plainNd; rcases hc1.2 with h | h <;> rw [h] <;> rfl
        exact synRef_mono h1 (by omega)
      refine Tri.seq (Tri.region ?_)
      refine TOps.assign rfl rfl ?_
      refine TOps.next ?_
      refine Tri.ret1 (H' := H) Tryz.results6 (fun _ _ h => h) (.tmp rfl) (Le.drop l2) ⟨by rw [hsf], rfl⟩
    try simp only [decide_eq_true_eq, decide_eq_false_iff_not, Bool.and_eq_true, Bool.or_eq_true, Bool.not_eq_true', Bool.and_eq_false_iff, Bool.or_eq_false_iff, Bool.not_eq_false', Int.not_lt, Int.not_le, ne_eq, Decidable.not_not, Option.isSome_iff_ne_none, Option.isNone_iff_eq_none] at hc1
    have hst : F.synRef (k + 1) = true := by
      rw [hss]
      rcases hc1 with h | h
      · rw [h]; rfl
      · unfold plainNd; simp; omega
    refine Tri.fin ?_
    refine Nrm.body () hst ⟨rfl, rfl, rfl, rfl, rfl, trivial⟩ (by repeat (first | exact Le.refl _ | assumption | apply Le.drop))
  refine Nrm.of hS hM ?_
  refine Nrm.next ?_
  refine Tri.seq (Tri.region ?_)
  refine TOps.assign rfl rfl ?_
  refine TOps.next ?_
  refine Tri.ret1 (H' := H) Tryz.results6 (fun _ _ h => h) (.tmp rfl) l2 ⟨by rw [hp], rfl⟩
end Go.Proofs
namespace Go.Proofs
open Go.GL
set_option linter.unusedVariables false
set_option linter.unusedSimpArgs false
theorem vote3_small : smallF vote3 := ⟨by decide, by decide⟩
theorem vote3_syn : vote3.syn = true := by decide +kernel
theorem nats_ints' (l : List Nat) : nats l = ints (l.map (fun i : Nat => (i : Int))) := nats_ints l
theorem intsN_g {H : List Ent} {a b : Option Nat} {ca cb : Nat} {l m : List Nat} (ha : RdS H a 0 (nats l)) (hb : RdS H b 0 (nats m)) (hl : l.length ≤ 1000000) (hm : m.length ≤ 1000000) :
    Gives Tryz.prog 12 [slV a 0 l.length ca, slV b 0 m.length cb] H (R1 (.bool (decide (l = m))) H) := by
  rw [nats_ints'] at ha hb
  have h := ints_g (c1 := ca) (c2 := cb) ha hb (by rw [List.length_map]; omega) (by rw [List.length_map]; omega)
  rw [List.length_map, List.length_map] at h
  have e : decide (l.map (fun i : Nat => (i : Int)) = m.map (fun i : Nat => (i : Int))) = decide (l = m) := by
    refine decide_eq_decide.2 ⟨fun he => ?_, fun he => by rw [he]⟩
    have h2 := congrArg (List.map Int.toNat) he
    rw [List.map_map, List.map_map] at h2
    have h3 : (Int.toNat ∘ fun i : Nat => (i : Int)) = id := by funext x; simp
    rw [h3, List.map_id, List.map_id] at h2
    exact h2
  rw [e] at h
  exact h
set_option maxHeartbeats 1000000 in
theorem awake34_g {H : List Ent} : Gives Tryz.prog 4 [] H (R1 (.bool true) H) := by
  have hg := vote3_good
  have hs := vote3_syn
  have hok : vote3.ok := hg.ok
  have hv3 : vote3.vars = (3 : Nat) := rfl
  have hlen : ∀ d ∈ vote3.nodes, d.args.length ≤ 1000 := by decide
  have hc : ∀ q, Fam q (fun s => valU vote3 3 s = true) → q = v356 := fun q hq => hq.eq v356_cuts (fun s _ => Iff.rfl)
  have hp : ∀ q, Fam q (fun t => vote3.value ((complN 3 t : Nat) : Int) = false) → q = v356 := fun q hq => hq.eq v356_paths (fun s _ => Iff.rfl)
  have hsm := vote3_small
  obtain ⟨F, hFe⟩ : ∃ F, F = vote3 := ⟨_, rfl⟩
  rw [← hFe] at hg hs hok hv3 hlen hc hp hsm
  refine Gives.enter Tryz.func4 rfl (by exact Tryz.ntmps4) rfl ?_
  refine Tri.seq (Tri.region ?_)
  refine TOps.assign rfl rfl ?_
  refine TOps.next ?_
  refine Tri.seq (Tri.region ?_)
  refine TOps.call (vs := []) Tryz.call15 trivial (vote_g) rfl ?_
  rintro _ H1 ⟨l1, s1, hF1⟩
  rw [← hFe] at hF1
  refine TOps.call (vs := [_]) Tryz.call10 ⟨rfl, trivial⟩ (cuts_g hF1 hok hg hs hv3 (by decide) hlen) rfl ?_
  rintro _ _ ⟨a1, c1, q1, e1, rfl, p1, p2, h1, rfl⟩
  obtain rfl : e1 = none := Classical.byContradiction fun h => (p2 h).2 hsm
  obtain rfl := hc q1 (p1 rfl)
  refine TOps.move rfl rfl ?_
  refine TOps.extract rfl rfl rfl ?_
  refine TOps.extract rfl rfl rfl ?_
  refine TOps.assign rfl rfl ?_
  refine TOps.assign rfl rfl ?_
  refine TOps.next ?_
  refine Tri.seq (Tri.region ?_)
  refine TOps.call (vs := []) Tryz.call15 trivial (vote_g) rfl ?_
  rintro _ H4 ⟨l4, s4, hF4⟩
  rw [← hFe] at hF4
  refine TOps.call (vs := [_]) Tryz.call11 ⟨rfl, trivial⟩ (paths_g hF4.r hok hg hs hv3 (by decide)) rfl ?_
  rintro _ _ ⟨a2, c2, q2, p3, rfl, h2, rfl⟩
  obtain rfl := hp q2 p3
  have r1 : RdS (row a2 3 1 c2 (nats v356) :: H4) a1 0 (nats v356) := (RdS.ofRowA (List.Mem.head _) (fun h => h1 (nats_ne h))).le (Le.drop l4)
  refine TOps.move rfl rfl ?_
  refine TOps.extract rfl rfl rfl ?_
  refine TOps.extract rfl rfl rfl ?_
  refine TOps.assign rfl rfl ?_
  refine TOps.assign rfl rfl ?_
  refine TOps.next ?_
  refine Tri.seq (Tri.region ?_)
  refine TOps.move rfl rfl ?_
  refine TOps.eqlNil (T := 57) (o := none) rfl Tryz.underlying29 rfl ?_
  refine TOps.move rfl rfl ?_
  refine TOps.strip 2 true rfl rfl rfl rfl ?_
  refine TOps.move rfl rfl ?_
  refine TOps.eqlNil (T := 57) (o := none) rfl Tryz.underlying29 rfl ?_
  refine TOps.pick rfl rfl rfl rfl ?_
  refine TOps.move rfl rfl ?_
  refine TOps.strip 6 true rfl rfl rfl rfl ?_
  refine TOps.move rfl rfl ?_
  refine TOps.buildSlice (vs := [_, _, _]) (xs := [_, _, _]) Tryz.underlying35 ti3 ⟨rfl, rfl, rfl, rfl, rfl, rfl, trivial⟩ rfl rfl rfl rfl rfl rfl (by decide) rfl (fun b23 => ?_)
  refine TOps.call (vs := [_, _]) Tryz.call12 ⟨rfl, rfl, trivial⟩ (intsN_g (m := v356) r1.up (RdS.ofRowS (List.Mem.head _)) (by decide) (by decide)) rfl ?_
  rintro _ _ ⟨rfl, rfl⟩
  refine TOps.pick rfl rfl rfl rfl ?_
  refine TOps.move rfl rfl ?_
  refine TOps.strip 11 true rfl rfl rfl rfl ?_
  refine TOps.move rfl rfl ?_
  refine TOps.buildSlice (vs := [_, _, _]) (xs := [_, _, _]) Tryz.underlying35 ti3 ⟨rfl, rfl, rfl, rfl, rfl, rfl, trivial⟩ rfl rfl rfl rfl rfl rfl (by decide) rfl (fun b28 => ?_)
  refine TOps.call (vs := [_, _]) Tryz.call12 ⟨rfl, rfl, trivial⟩ (intsN_g (m := v356) (RdS.ofRowA (List.Mem.tail _ (List.Mem.tail _ (List.Mem.head _))) (fun h => h2 (nats_ne h))) (RdS.ofRowS (List.Mem.head _)) (by decide) (by decide)) rfl ?_
  rintro _ _ ⟨rfl, rfl⟩
  refine TOps.pick rfl rfl rfl rfl ?_
  refine TOps.assign rfl rfl ?_
  refine TOps.next ?_
  refine Tri.ret1 (H' := H) Tryz.results4 (fun _ _ h => h) (.tmp rfl) ((Le.drop (Le.drop (Le.drop l4))).trans (Le.drop l1)) ⟨rfl, rfl⟩
end Go.Proofs
namespace Go.Proofs
open Go.GL
set_option linter.unusedVariables false
set_option linter.unusedSimpArgs false
theorem mapped_g {H : List Ent} {xs P : List Int} {xa xsp ta tsp : Option Nat} {xo xc to_ tc : Nat} (hx : RInts H xa xo xs xsp) (hl : xs.length ≤ 1000) (hT : RInts H ta to_ P tsp) {pl : Nat} (hp : P.length = pl) (hPl : pl ≤ 1000000) (hin : ∀ a ∈ xs, 0 ≤ a ∧ a.toNat < pl) :
    Gives Tryz.prog 20 [slV xa xo xs.length xc xsp, slV ta to_ pl tc tsp] H (fun u H' => ∃ b c, u = slV b 0 xs.length c ∧ (xs ≠ [] → ∃ x, b = some x) ∧ row b 3 1 c (ints (trI P xs)) :: H = H') := by
  subst hp
  refine Gives.enter Tryz.func20 rfl (by exact Tryz.ntmps20) rfl ?_
  refine Tri.seq (Tri.region ?_)
  refine TOps.assign rfl rfl ?_
  refine TOps.next ?_
  refine Tri.seq (Tri.region ?_)
  refine TOps.assign rfl rfl ?_
  refine TOps.next ?_
  refine Tri.seq ?_
  refine Tri.seq (Tri.region ?_)
  refine TOps.move rfl rfl ?_
  refine TOps.len rfl Tryz.underlying35 rfl ?_
  refine TOps.move rfl rfl ?_
  refine TOps.next ?_
  refine Tri.range (X := Option Nat × Nat) (fun x k => [(1, slV ta to_ P.length tc tsp), (5, slV x.1 0 k x.2), (8, slV xa xo xs.length xc xsp)]) (fun x k => row x.1 3 1 x.2 (ints (trI P (xs.take k))) :: H) (fun x k => k ≠ 0 → ∃ b, x.1 = some b) (by omega) rfl rfl rfl (fun _ _ => ⟨rfl, rfl, rfl, rfl⟩) (none, 0) (fun h => absurd rfl h) ⟨rfl, rfl, rfl, trivial⟩ Le.addNil (fun k x hlt hp => ?_) (fun x ac wc hp hS hM => ?_)
  · skip
    obtain ⟨ab, rfl, rfl, ha⟩ := hx.at hlt
    obtain ⟨hb0, hb1⟩ := hin _ (List.getElem_mem hlt)
    obtain ⟨tb, rfl, rfl, ht⟩ := hT.at hb1
    refine Tri.seq (Tri.region ?_)
    refine TOps.indexAddr (off' := xo + k) rfl rfl Tryz.underlying35 ti3 (by omega) (by omega) (by simp) rfl ?_
    refine TOps.load1 rfl ti3 (by first | exact Rd.lit (by repeat (first | exact List.Mem.head _ | apply List.Mem.tail)) rfl | (repeat (first | assumption | apply Rd.up))) rfl ?_
    refine TOps.assign rfl rfl ?_
    refine TOps.next ?_
    refine Tri.region ?_
    refine TOps.move rfl rfl ?_
    refine TOps.move rfl rfl ?_
    refine TOps.move rfl rfl ?_
    refine TOps.indexAddr (off' := to_ + xs[k].toNat) rfl rfl Tryz.underlying35 ti3 (by omega) (by omega) (by simp) rfl ?_
    refine TOps.load1 rfl ti3 (by first | exact Rd.lit (by repeat (first | exact List.Mem.head _ | apply List.Mem.tail)) rfl | (repeat (first | assumption | apply Rd.up))) rfl ?_
    refine TOps.buildSlice (vs := [_]) (xs := [_]) Tryz.underlying35 ti3 ⟨rfl, rfl, trivial⟩ rfl rfl rfl rfl rfl rfl (by decide) rfl (fun b19 => ?_)
    refine TOps.appendLit rfl rfl Tryz.underlying35 ti3 rfl (fun _ _ => Upd.here) rfl (by simp [trI_length]; omega) rfl (by omega) (by omega) (by simp) rfl (fun b20 cap20 => ?_)
    refine TOps.assign rfl rfl ?_
    refine TOps.fin ?_
    refine Nrm.body (some b20, cap20) (fun _ => ⟨_, rfl⟩) ⟨rfl, rfl, rfl, rfl, rfl, trivial⟩ (Le.rowEq (by rw [trI_take_succ hlt, show P.getD xs[k].toNat 0 = P[xs[k].toNat] from by simp [hb1]]; simp [ints]))
  rw [List.take_length] at hM
  refine Nrm.of hS hM ?_
  refine Nrm.next ?_
  refine Tri.seq (Tri.region ?_)
  refine TOps.move rfl rfl ?_
  refine TOps.assign rfl rfl ?_
  refine TOps.next ?_
  refine Tri.ret1 (H' := _) Tryz.results20 (fun _ _ h => h) (.tmp rfl) (Le.refl _) ⟨x.1, x.2, rfl, fun h => hp (by intro h0; exact h (List.eq_nil_of_length_eq_zero h0)), rfl⟩
end Go.Proofs
namespace Go.Proofs
open Go.GL
set_option linter.unusedVariables false
set_option linter.unusedSimpArgs false
def CapsIn (ns : List Nd) (qs : List SA) : Prop := ∀ (i : Nat) (d : Nd) (q : SA), ns[i]? = some d → qs[i]? = some q → d.args.length ≤ q.2.2.1
theorem CapsIn.snoc {ns : List Nd} {qs : List SA} {d : Nd} {q : SA} (h : CapsIn ns qs) (hl : qs.length = ns.length) (hd : d.args.length ≤ q.2.2.1) : CapsIn (ns ++ [d]) (qs ++ [q]) := by
  intro i d' q' h1 h2
  rcases Nat.lt_or_ge i ns.length with hi | hi
  · rw [List.getElem?_append_left hi] at h1
    rw [List.getElem?_append_left (by omega)] at h2
    exact h i d' q' h1 h2
  · rw [List.getElem?_append_right hi] at h1
    rw [List.getElem?_append_right (by omega), hl] at h2
    have hi0 : i - ns.length = 0 := by
      rcases Nat.eq_zero_or_pos (i - ns.length) with h0 | h0
      · exact h0
      · rw [List.getElem?_eq_none (by simp; omega)] at h1; cases h1
    rw [hi0] at h1 h2
    simp at h1 h2
    subst h1; subst h2
    exact hd
structure OkC (s : BS) (ns : List Nd) : Prop where
  ok : s.ok ns
  c : CapsIn ns s.qs
theorem OkC.new : OkC BS.new [] := ⟨BS.new_ok, fun i d q h => by simp at h⟩
theorem RNodesC.ofA {H : List Ent} {a : Option Nat} {E sz cap : Nat} {ns : List Nd} {qs : List SA} (hm : row a E sz cap (nsCells ns qs) ∈ H) (h : ArgsIn H ns qs) (hc : CapsIn ns qs) (ha : ns ≠ [] → ∃ b, a = some b) : RNodesC H a 0 ns := by
  by_cases hn : ns = []
  · exact .inl hn
  · obtain ⟨b, rfl⟩ := ha hn
    exact RNodesC.ofRow hm h.1 (fun i d q h1 h2 => ⟨h.2 i d q h1 h2, hc i d q h1 h2⟩)
def NewNC (T : TypeId) (F : Fm) (e : Option Int) (H : List Ent) : Value → List Ent → Prop := fun u H' =>
  ∃ a c N, u = .tuple (List.toArray [.agg (List.toArray [.int .i64 F.vars, slV a 0 F.nodes.length c, .int .i64 F.top]), errV T e]) ∧ RNodesC N a 0 F.nodes ∧ N ++ H = H'
theorem addC_g {A HB : List Ent} {bb : Nat} {v t : Int} {ns : List Nd} {s : BS} (hs0 : OkC s ns) (hv : 0 ≤ v ∧ v ≤ 24) (hn : ns.length ≤ 1000000) {aa asp : Option Nat} {ao ac : Nat} {args : List Int} (ha : RInts A aa ao args asp) (hac : args.length ≤ ac) (kind k : Int) :
    Gives Tryz.prog 21 [.pointer (some ⟨bb, 0, none⟩), .int .i64 kind, .int .i64 k, slV aa ao args.length ac asp] (A ++ bld 52 48 bb v ns t s HB) (fun u H' => ∃ s' : BS, u = .int .i64 (v + ns.length) ∧ OkC s' (ns ++ [⟨kind, k, args⟩]) ∧ bld 52 48 bb v (ns ++ [⟨kind, k, args⟩]) t s' HB = H') := by
  have hs := hs0.ok
  refine Gives.enter Tryz.func21 rfl (by exact Tryz.ntmps21) rfl ?_
  refine Tri.le bld_perm ?_
  have hcl := nsCells_length _ _ hs.a.1
  refine Tri.seq (Tri.region ?_)
  refine TOps.assign rfl rfl ?_
  refine TOps.next ?_
  refine Tri.seq (Tri.region ?_)
  refine TOps.move rfl rfl ?_
  refine TOps.move rfl rfl ?_
  refine TOps.nilCheck rfl rfl ?_
  refine TOps.field0 rfl Tryz.underlying52 rfl rfl ti24 rfl rfl rfl ?_
  first | refine TOps.fieldB 1 rfl Tryz.underlying24 rfl rfl ti22 rfl rfl rfl ?_ | refine TOps.fieldN 1 rfl Tryz.underlying24 rfl rfl ti22 rfl rfl rfl ?_
  refine TOps.load1 rfl ti22 (by first | exact Rd.lit (by repeat (first | exact List.Mem.head _ | apply List.Mem.tail)) rfl | (repeat (first | assumption | exact Rd.fld (by assumption) 1 rfl | apply Rd.up))) rfl ?_
  refine TOps.move rfl rfl ?_
  refine TOps.move rfl rfl ?_
  refine TOps.move rfl rfl ?_
  refine TOps.buildStruct (vs := [(0, _), (1, _), (2, _)]) (xs := [_, _, _]) [(0, 1), (1, 1), (2, 1)] Tryz.underlying48 ti48 (fun w => by simp) ⟨rfl, rfl, rfl, rfl, rfl, rfl, trivial⟩ rfl rfl ?_
  refine TOps.buildSlice (vs := [_]) (xs := [_, _, _]) Tryz.underlying22 ti48 ⟨rfl, rfl, trivial⟩ rfl rfl rfl rfl rfl rfl (by decide) rfl (fun b19 => ?_)
  refine TOps.appendLit rfl rfl Tryz.underlying22 ti48 rfl (fun _ _ => (by repeat (first | exact Upd.here | apply Upd.there))) rfl hcl rfl (by omega) (by omega) (by simp) rfl (fun b20 cap20 => ?_)
  refine TOps.nilCheck rfl rfl ?_
  refine TOps.field0 rfl Tryz.underlying52 rfl rfl ti24 rfl rfl rfl ?_
  first | refine TOps.fieldB 1 rfl Tryz.underlying24 rfl rfl ti22 rfl rfl rfl ?_ | refine TOps.fieldN 1 rfl Tryz.underlying24 rfl rfl ti22 rfl rfl rfl ?_
  refine TOps.store1 rfl rfl ti22 rfl rfl (by repeat (first | exact Upd.here | apply Upd.there)) (by first | decide | (simp; done) | (simp; omega) | exact (show (1 : Nat) < 3 by decide)) ?_
  refine TOps.next ?_
  refine Tri.seq ?_
  refine Tri.drawC rfl [(0, .pointer (some ⟨bb, 0, none⟩))] [] [_, _, _, _, _, _, _, _, _, _, _, _, _, _] (row (some bb) 52 3 1 [.int .i64 v, slV (some b20) 0 (ns.length + 1) cap20, .int .i64 t] :: row (some b20) 48 3 cap20 (nsCells ns s.qs ++ [.int .i64 kind, .int .i64 k, slV aa ao args.length ac asp]) :: ((A ++ s.N) ++ HB)) [13] rfl ⟨rfl, trivial⟩ trivial (by repeat (first | exact Le.refl _ | assumption | apply Le.drop)) (by
    refine ⟨?_, ?_, ?_, ?_, ?_, ?_, ?_, ?_, ?_, ?_, ?_, ?_, ?_, ?_, trivial⟩
    · refine ⟨fun x S c he hw hd hc hcu hm _ => ?_, trivial⟩
      refine TOps.move (he _ _ rfl) rfl ?_
      exact TOps.fd x rfl rfl
    · refine ⟨fun x S c he hw hd hc hcu hm _ => ?_, trivial⟩
      obtain ⟨h0, -⟩ := hd
      refine TOps.nilCheck h0 rfl ?_
      exact TOps.fd x rfl rfl
    · refine ⟨fun x S c he hw hd hc hcu hm _ => ?_, trivial⟩
      obtain ⟨h1, -⟩ := hd
      refine TOps.field0 h1 Tryz.underlying52 rfl rfl ti24 rfl rfl rfl ?_
      exact TOps.fd x rfl rfl
    · refine ⟨fun x S c he hw hd hc hcu hm _ => ?_, trivial⟩
      obtain ⟨h2, -⟩ := hd
      refine TOps.field0 h2 Tryz.underlying24 rfl rfl ti3 rfl rfl rfl ?_
      exact TOps.fd x rfl rfl
    · refine ⟨fun x S c he hw hd hc hcu hm _ => ?_, trivial⟩
      obtain ⟨h3, -⟩ := hd
      refine TOps.load1 h3 ti3 (by first | exact Rd.lit (by repeat (first | exact List.Mem.head _ | apply List.Mem.tail)) rfl | (repeat (first | assumption | exact Rd.fld (by assumption) 0 rfl | apply Rd.up))) rfl ?_
      exact TOps.fd x rfl rfl
    · refine ⟨fun x S c he hw hd hc hcu hm _ => ?_, trivial⟩
      refine TOps.move (he _ _ rfl) rfl ?_
      exact TOps.fd x rfl rfl
    · refine ⟨fun x S c he hw hd hc hcu hm _ => ?_, trivial⟩
      obtain ⟨h5, -⟩ := hd
      refine TOps.nilCheck h5 rfl ?_
      exact TOps.fd x rfl rfl
    · refine ⟨fun x S c he hw hd hc hcu hm _ => ?_, trivial⟩
      obtain ⟨h6, -⟩ := hd
      refine TOps.field0 h6 Tryz.underlying52 rfl rfl ti24 rfl rfl rfl ?_
      exact TOps.fd x rfl rfl
    · refine ⟨fun x S c he hw hd hc hcu hm _ => ?_, trivial⟩
      obtain ⟨h7, -⟩ := hd
      first | refine TOps.fieldB 1 h7 Tryz.underlying24 rfl rfl ti22 rfl rfl rfl ?_ | refine TOps.fieldN 1 h7 Tryz.underlying24 rfl rfl ti22 rfl rfl rfl ?_
      exact TOps.fd x rfl rfl
    · refine ⟨fun x S c he hw hd hc hcu hm _ => ?_, trivial⟩
      obtain ⟨h8, -⟩ := hd
      refine TOps.load1 h8 ti22 (by first | exact Rd.lit (by repeat (first | exact List.Mem.head _ | apply List.Mem.tail)) rfl | (repeat (first | assumption | exact Rd.fld (by assumption) 1 rfl | apply Rd.up))) rfl ?_
      exact TOps.fd x rfl rfl
    · refine ⟨fun x S c he hw hd hc hcu hm _ => ?_, trivial⟩
      obtain ⟨h9, -⟩ := hd
      refine TOps.len h9 Tryz.underlying22 rfl ?_
      exact TOps.fd x rfl rfl
    · refine ⟨fun x S c he hw hd hc hcu hm _ => ?_, trivial⟩
      obtain ⟨h4, h10, -⟩ := hd
      refine TOps.add h4 h10 (wrapI (by omega) (by omega)) rfl ?_
      exact TOps.fd x rfl rfl
    · refine ⟨fun x S c he hw hd hc hcu hm _ => ?_, trivial⟩
      obtain ⟨h11, -⟩ := hd
      refine TOps.sub h11 rfl (wrapI (by omega) (by omega)) rfl ?_
      exact TOps.fd x rfl rfl
    · refine ⟨fun x S c he hw hd hc hcu hm _ => ?_, trivial⟩
      obtain ⟨h12, h0, h1, h2, h3, h4, h5, h6, h7, h8, h9, h10, h11, _, -⟩ := hd
      refine TOps.assign h12 rfl ?_
      exact TOps.fd x rfl rfl
    ) ?_
  refine Nrm.next ?_
  refine Tri.ret1 (H' := _) Tryz.results21 (fun _ _ h => h) (.tmp rfl) (Le.refl _) ⟨⟨some b20, cap20, s.qs ++ [(aa, ao, ac, asp)], A ++ s.N⟩, congrArg (Value.int .i64) (by omega), ⟨BS.ok_snoc hs ha, CapsIn.snoc hs0.c hs.a.1 hac⟩, ?_⟩
  unfold bld
  rw [nsCells_snoc _ _ _ _ hs.a.1]
  simp [ndCells]
theorem add1C_g {HB : List Ent} {bb : Nat} {v t : Int} {ns : List Nd} {s : BS} (hs : OkC s ns) {L : Nat} (hL : ns.length = L) (hv : 0 ≤ v ∧ v ≤ 24) (hn : ns.length ≤ 1000000) {aa : Option Nat} {c : Nat} {args : List Int} {m : Nat} (hm : args.length = m) (ha : args ≠ [] → ∃ b, aa = some b) (kind k : Int) :
    Gives Tryz.prog 21 [.pointer (some ⟨bb, 0, none⟩), .int .i64 kind, .int .i64 k, slV aa 0 m c] (row aa 3 1 c (ints args) :: bld 52 48 bb v ns t s HB) (fun u H' => ∃ s' : BS, u = .int .i64 (v + L) ∧ OkC s' (ns ++ [⟨kind, k, args⟩]) ∧ bld 52 48 bb v (ns ++ [⟨kind, k, args⟩]) t s' HB = H') := by
  intro w hM
  have hcap := row_cap (hM.ok _ (List.Mem.head _))
  have hil : (ints args).length = args.length := by simp [ints]
  exact (hL ▸ hm ▸ addC_g (A := [row aa 3 1 c (ints args)]) hs hv hn (RdS.ofRowA (List.Mem.head _) (fun h => ha (fun e => h (by rw [e]; rfl)))) (by omega) kind k) w hM
theorem add0C_g {HB : List Ent} {bb : Nat} {v t : Int} {ns : List Nd} {s : BS} (hs : OkC s ns) {L : Nat} (hL : ns.length = L) (hv : 0 ≤ v ∧ v ≤ 24) (hn : ns.length ≤ 1000000) (kind k : Int) :
    Gives Tryz.prog 21 [.pointer (some ⟨bb, 0, none⟩), .int .i64 kind, .int .i64 k, slV none 0 0 0] (bld 52 48 bb v ns t s HB) (fun u H' => ∃ s' : BS, u = .int .i64 (v + L) ∧ OkC s' (ns ++ [⟨kind, k, []⟩]) ∧ bld 52 48 bb v (ns ++ [⟨kind, k, []⟩]) t s' HB = H') :=
  hL ▸ addC_g (A := []) (args := []) hs hv hn (.inl rfl) (Nat.zero_le _) kind k
theorem doneC_g {HB : List Ent} {bb : Nat} {v t : Int} {ns : List Nd} {s : BS} (hs0 : OkC s ns) (hn : ns.length ≤ 1000000) (top : Int) :
    Gives Tryz.prog 22 [.pointer (some ⟨bb, 0, none⟩), .int .i64 top] (bld 52 48 bb v ns t s HB) (NewNC 57 (sizedF ⟨v, ns, top⟩) (sizedE ⟨v, ns, top⟩) HB) := by
  have hs := hs0.ok
  refine Gives.enter Tryz.func22 rfl (by exact Tryz.ntmps22) rfl ?_
  unfold bld
  refine Tri.seq (Tri.region ?_)
  refine TOps.alloc ti24 rfl (fun b4 => ?_)
  refine TOps.assign rfl rfl ?_
  refine TOps.next ?_
  refine Tri.seq (Tri.region ?_)
  refine TOps.move rfl rfl ?_
  refine TOps.move rfl rfl ?_
  refine TOps.nilCheck rfl rfl ?_
  refine TOps.field0 rfl Tryz.underlying52 rfl rfl ti24 rfl rfl rfl ?_
  first | refine TOps.fieldB 2 rfl Tryz.underlying24 rfl rfl ti3 rfl rfl rfl ?_ | refine TOps.fieldN 2 rfl Tryz.underlying24 rfl rfl ti3 rfl rfl rfl ?_
  refine TOps.store1 rfl rfl ti3 rfl rfl (by repeat (first | exact Upd.here | apply Upd.there)) (by first | decide | (simp; done) | (simp; omega) | exact (show (2 : Nat) < 3 by decide)) ?_
  refine TOps.next ?_
  refine Tri.seq ?_
  refine Tri.seq (Tri.region ?_)
  refine TOps.move rfl rfl ?_
  refine TOps.nilCheck rfl rfl ?_
  refine TOps.field0 rfl Tryz.underlying52 rfl rfl ti24 rfl rfl rfl ?_
  first | refine TOps.fieldB 1 rfl Tryz.underlying24 rfl rfl ti22 rfl rfl rfl ?_ | refine TOps.fieldN 1 rfl Tryz.underlying24 rfl rfl ti22 rfl rfl rfl ?_
  refine TOps.load1 rfl ti22 (by first | exact Rd.lit (by repeat (first | exact List.Mem.head _ | apply List.Mem.tail)) rfl | (repeat (first | assumption | exact Rd.fld (by assumption) 1 rfl | apply Rd.up))) rfl ?_
  refine TOps.len rfl Tryz.underlying22 rfl ?_
  refine TOps.gtr rfl rfl rfl ?_
  refine TOps.next ?_
  refine Tri.cond rfl (fun hc1 => ?_) (fun hc1 => ?_)
  · try simp only [decide_eq_true_eq, decide_eq_false_iff_not, Bool.and_eq_true, Bool.or_eq_true, Bool.not_eq_true', Bool.and_eq_false_iff, Bool.or_eq_false_iff, Bool.not_eq_false', Int.not_lt, Int.not_le, ne_eq, Decidable.not_not, Option.isSome_iff_ne_none, Option.isNone_iff_eq_none] at hc1
    refine Tri.seq (Tri.region ?_)
    refine TOps.buildStruct (vs := []) (xs := [_, _, _]) [(0, 1), (1, 1), (2, 1)] Tryz.underlying24 ti24 (fun w => by simp) trivial rfl rfl ?_
    refine TOps.makeInterface rfl Tryz.underlying57 rfl rfl ?_
    refine TOps.storeN rfl rfl ti24 rfl rfl (by repeat (first | exact Upd.here | apply Upd.there)) (by first | decide | (simp; done) | (simp; omega)) ?_
    refine TOps.assign rfl rfl ?_
    refine TOps.next ?_
    refine Tri.ret2 (H' := HB) Tryz.results22 (fun _ _ h => h) (.cellN rfl rfl ti24 (Rd.all (by repeat (first | exact List.Mem.head _ | apply List.Mem.tail))) rfl) (.tmp rfl) (Le.drop (Le.drop (Le.drop (Le.sub (List.sublist_append_right _ _))))) ⟨none, 0, [], ?_, ?_, rfl⟩
    · rw [show sizedE ⟨v, ns, top⟩ = some 4 from if_pos (by dsimp only; omega), show sizedF ⟨v, ns, top⟩ = Fm.zero from if_pos (by dsimp only; omega)]; rfl
    · rw [show sizedF ⟨v, ns, top⟩ = Fm.zero from if_pos (by dsimp only; omega)]; exact .inl rfl
  try simp only [decide_eq_true_eq, decide_eq_false_iff_not, Bool.and_eq_true, Bool.or_eq_true, Bool.not_eq_true', Bool.and_eq_false_iff, Bool.or_eq_false_iff, Bool.not_eq_false', Int.not_lt, Int.not_le, ne_eq, Decidable.not_not, Option.isSome_iff_ne_none, Option.isNone_iff_eq_none] at hc1
  refine Tri.fin ?_
  refine Nrm.next ?_
  refine Tri.seq (Tri.region ?_)
  refine TOps.move rfl rfl ?_
  refine TOps.nilCheck rfl rfl ?_
  refine TOps.field0 rfl Tryz.underlying52 rfl rfl ti24 rfl rfl rfl ?_
  refine TOps.loadN rfl ti24 (by first | exact Rd.all (by repeat (first | exact List.Mem.head _ | apply List.Mem.tail)) | (repeat (first | assumption | apply Rd.up))) rfl rfl ?_
  refine TOps.storeN rfl rfl ti24 rfl rfl (by repeat (first | exact Upd.here | apply Upd.there)) (by first | decide | (simp; done) | (simp; omega)) ?_
  refine TOps.assign rfl rfl ?_
  refine TOps.next ?_
  refine Tri.ret2 (H' := (row s.oa 48 3 s.cap (nsCells ns s.qs) :: s.N) ++ HB) Tryz.results22 (fun _ _ h => h) (.cellN rfl rfl ti24 (Rd.all (by repeat (first | exact List.Mem.head _ | apply List.Mem.tail))) rfl) (.tmp rfl) (Le.drop (Le.drop (Le.refl _))) ⟨s.oa, s.cap, row s.oa 48 3 s.cap (nsCells ns s.qs) :: s.N, ?_, ?_, rfl⟩
  · rw [show sizedE ⟨v, ns, top⟩ = none from if_neg (by dsimp only; omega), show sizedF ⟨v, ns, top⟩ = ⟨v, ns, top⟩ from if_neg (by dsimp only; omega)]; rfl
  · rw [show sizedF ⟨v, ns, top⟩ = ⟨v, ns, top⟩ from if_neg (by dsimp only; omega)]
    exact RNodesC.ofA (E := 48) (sz := 3) (cap := s.cap) (List.Mem.head _) (hs.a.le (Le.drop (Le.refl _))) hs0.c hs.o
theorem ints_snoc (l : List Int) (a : Int) : ints (l ++ [a]) = ints l ++ [Value.int .i64 a] := List.map_append
set_option maxHeartbeats 2000000 in
theorem dual_g {H : List Ent} {fv : Value} {F : Fm} (hF : RF H fv F) (hk : F.ok) :
    Gives Tryz.prog 7 [fv] H (NewNC 57 F.dualF F.dualE H) := by
  have hF0 := hF
  obtain ⟨na, off, cap, nsp, rfl, hN⟩ := hF
  refine Gives.enter Tryz.func7 rfl (by exact Tryz.ntmps7) rfl ?_
  refine Tri.seq (Tri.region ?_)
  refine TOps.boxN rfl ti24 rfl rfl (fun b1 => ?_)
  refine TOps.hide (fun H1 l1 s1 r1 => ?_)
  replace hF0 := hF0.le l1; replace hN := hN.le l1
  refine TOps.alloc ti24 rfl (fun b2 => ?_)
  refine TOps.assign rfl rfl ?_
  refine TOps.next ?_
  refine Tri.seq ?_
  refine Tri.seq (Tri.region ?_)
  refine TOps.loadN rfl ti24 (by first | exact Rd.all (by repeat (first | exact List.Mem.head _ | apply List.Mem.tail)) | (repeat (first | assumption | apply Rd.up))) rfl rfl ?_
  refine TOps.call (vs := [_]) Tryz.call19 ⟨rfl, trivial⟩ (check_g (hF0.le (Le.drop (Le.refl _))) hk) rfl ?_
  rintro _ _ ⟨rfl, rfl⟩
  refine TOps.assign rfl rfl ?_
  refine TOps.next ?_
  refine Tri.seq (Tri.region ?_)
  refine TOps.move rfl rfl ?_
  refine TOps.neqNil rfl Tryz.underlying29 rfl ?_
  refine TOps.next ?_
  refine Tri.cond rfl (fun hc1 => ?_) (fun hc1 => ?_)
  · try simp only [decide_eq_true_eq, decide_eq_false_iff_not, Bool.and_eq_true, Bool.or_eq_true, Bool.not_eq_true', Bool.and_eq_false_iff, Bool.or_eq_false_iff, Bool.not_eq_false', Int.not_lt, Int.not_le, ne_eq, Decidable.not_not, Option.isSome_iff_ne_none, Option.isNone_iff_eq_none] at hc1
    obtain ⟨er, her⟩ := Option.ne_none_iff_exists'.1 hc1
    refine Tri.seq (Tri.region ?_)
    refine TOps.buildStruct (vs := []) (xs := [_, _, _]) [(0, 1), (1, 1), (2, 1)] Tryz.underlying24 ti24 (fun w => by simp) trivial rfl rfl ?_
    refine TOps.move rfl rfl ?_
    refine TOps.storeN rfl rfl ti24 rfl rfl (by repeat (first | exact Upd.here | apply Upd.there)) (by first | decide | (simp; done) | (simp; omega)) ?_
    refine TOps.assign rfl rfl ?_
    refine TOps.next ?_
    refine Tri.ret2 (H' := H) Tryz.results7 (fun _ _ h => h) (.cellN rfl rfl ti24 (Rd.all (by repeat (first | exact List.Mem.head _ | apply List.Mem.tail))) rfl) (.tmp rfl) (Le.drop l1) ⟨none, 0, [], ?_, ?_, rfl⟩
    · rw [show F.dualE = F.err from by unfold Fm.dualE; rw [her], show F.dualF = Fm.zero from by unfold Fm.dualF; rw [her]]; rfl
    · rw [show F.dualF = Fm.zero from by unfold Fm.dualF; rw [her]]; exact .inl rfl
  try simp only [decide_eq_true_eq, decide_eq_false_iff_not, Bool.and_eq_true, Bool.or_eq_true, Bool.not_eq_true', Bool.and_eq_false_iff, Bool.or_eq_false_iff, Bool.not_eq_false', Int.not_lt, Int.not_le, ne_eq, Decidable.not_not, Option.isSome_iff_ne_none, Option.isNone_iff_eq_none] at hc1
  have he : F.err = none := by simpa using hc1
  have hg := (Fm.good_iff F).1 he
  have g0 := hg.v0; have g1 := hg.v1; have g2 := hg.n1; have gt := hg.topLt
  obtain ⟨v, hv⟩ := Int.eq_ofNat_of_zero_le g0
  have hvn : F.vars.toNat = v := by omega
  obtain ⟨tp, htp⟩ := Int.eq_ofNat_of_zero_le gt.1
  have hpE : F.dualE = sizedE F.dualB := by unfold Fm.dualE; rw [he]
  have hpF : F.dualF = sizedF F.dualB := by unfold Fm.dualF; rw [he]
  have hpb : F.dualB = ⟨(v : Int), (dualS v F.nodes F.nodes.length).2, (dualS v F.nodes F.nodes.length).1.getD tp 0⟩ := by unfold Fm.dualB; rw [hvn, hv, htp, Int.toNat_natCast]
  rw [hpb] at hpE hpF
  rw [hv, htp] at r1
  refine Tri.fin ?_
  refine Nrm.next ?_
  refine Tri.seq (Tri.region ?_)
  refine TOps.field0 rfl Tryz.underlying24 rfl rfl ti3 rfl rfl rfl ?_
  refine TOps.load1 rfl ti3 (by first | exact Rd.lit (by repeat (first | exact List.Mem.head _ | apply List.Mem.tail)) rfl | (repeat (first | assumption | exact Rd.fld (by assumption) 0 rfl | apply Rd.up))) rfl ?_
  refine TOps.buildStruct (vs := [(0, _)]) (xs := [_, _, _]) [(0, 1), (1, 1), (2, 1)] Tryz.underlying24 ti24 (fun w => by simp) ⟨rfl, rfl, trivial⟩ rfl rfl ?_
  refine TOps.buildStruct (vs := [(0, _)]) (xs := [_, _, _]) [(0, 3)] Tryz.underlying52 ti52 (fun w => by simp) ⟨rfl, rfl, trivial⟩ rfl rfl ?_
  refine TOps.boxN rfl ti52 rfl rfl (fun b22 => ?_)
  refine TOps.assign rfl rfl ?_
  refine TOps.next ?_
  refine Tri.seq (Tri.region ?_)
  refine TOps.assign rfl rfl ?_
  refine TOps.next ?_
  refine Tri.seq ?_
  refine Tri.seq (Tri.region ?_)
  refine TOps.field0 rfl Tryz.underlying24 rfl rfl ti3 rfl rfl rfl ?_
  refine TOps.load1 rfl ti3 (by first | exact Rd.lit (by repeat (first | exact List.Mem.head _ | apply List.Mem.tail)) rfl | (repeat (first | assumption | exact Rd.fld (by assumption) 0 rfl | apply Rd.up))) rfl ?_
  refine TOps.move rfl rfl ?_
  refine TOps.next ?_
  refine Tri.range (X := Option Nat × Nat) (fun z k => [(1, .pointer (some ⟨b1, 0, none⟩)), (2, .pointer (some ⟨b2, 0, none⟩)), (5, .pointer (some ⟨b22, 0, none⟩)), (6, slV z.1 0 k z.2)]) (fun z k => row z.1 3 1 z.2 (ints (evI k)) :: row (some b22) 52 3 1 [.int .i64 v, slV none 0 0 0, .int .i64 0] :: row (some b2) 24 3 1 [.int .i64 0, slV none 0 0 0, .int .i64 0] :: H1) (fun z k => k ≠ 0 → ∃ b, z.1 = some b) (by omega) rfl rfl rfl (fun _ _ => ⟨rfl, rfl, rfl, rfl⟩) (none, 0) (fun h => absurd rfl h) ⟨rfl, rfl, rfl, rfl, trivial⟩ Le.addNil (fun k z hlt hp => ?_) (fun z ac wc hp hS hM => ?_)
  · skip
    refine Tri.seq (Tri.region ?_)
    refine TOps.move rfl rfl ?_
    refine TOps.assign rfl rfl ?_
    refine TOps.next ?_
    refine Tri.region ?_
    refine TOps.move rfl rfl ?_
    refine TOps.move rfl rfl ?_
    refine TOps.buildSlice (vs := [_]) (xs := [_]) Tryz.underlying35 ti3 ⟨rfl, rfl, trivial⟩ rfl rfl rfl rfl rfl rfl (by decide) rfl (fun b30 => ?_)
    refine TOps.appendLit rfl rfl Tryz.underlying35 ti3 rfl (fun _ _ => Upd.here) rfl (by simp [evI_length]) rfl (by omega) (by omega) (by simp) rfl (fun b30 cap30 => ?_)
    refine TOps.assign rfl rfl ?_
    refine TOps.fin ?_
    refine Nrm.body (some b30, cap30) (fun _ => ⟨_, rfl⟩) ⟨rfl, rfl, rfl, rfl, rfl, rfl, trivial⟩ (Le.rowEq (by rw [evI_succ, ints_snoc]))
  have hz := hp
  refine Nrm.of hS hM ?_
  refine Nrm.next ?_
  refine Tri.seq ?_
  refine Tri.seq (Tri.region ?_)
  first | refine TOps.fieldB 1 rfl Tryz.underlying24 rfl rfl ti22 rfl rfl rfl ?_ | refine TOps.fieldN 1 rfl Tryz.underlying24 rfl rfl ti22 rfl rfl rfl ?_
  refine TOps.load1 rfl ti22 (by first | exact Rd.lit (by repeat (first | exact List.Mem.head _ | apply List.Mem.tail)) rfl | (repeat (first | assumption | exact Rd.fld (by assumption) 1 rfl | apply Rd.up))) rfl ?_
  refine TOps.len rfl Tryz.underlying22 rfl ?_
  refine TOps.move rfl rfl ?_
  refine TOps.next ?_
  refine Tri.range (X := BS × (Option Nat × Nat)) (fun u k => [(1, .pointer (some ⟨b1, 0, none⟩)), (2, .pointer (some ⟨b2, 0, none⟩)), (5, .pointer (some ⟨b22, 0, none⟩)), (6, slV u.2.1 0 (v + k) u.2.2), (34, slV na off F.nodes.length cap nsp)]) (fun u k => bld 52 48 b22 v (dualS v F.nodes k).2 0 u.1 (row u.2.1 3 1 u.2.2 (ints (dualS v F.nodes k).1) :: row (some b2) 24 3 1 [.int .i64 0, slV none 0 0 0, .int .i64 0] :: H1)) (fun u k => OkC u.1 (dualS v F.nodes k).2 ∧ (v + k ≠ 0 → ∃ b, u.2.1 = some b)) (by omega) rfl rfl rfl (fun _ _ => ⟨rfl, rfl, rfl, rfl⟩) (BS.new, z) ⟨OkC.new, hz⟩ ⟨rfl, rfl, rfl, rfl, rfl, trivial⟩ (Le.swap.trans bld_new) (fun k u hlt hp => ?_) (fun u ac wc hp hS hM => ?_)
  · skip
    obtain ⟨z1, ta, tc⟩ := u
    obtain ⟨hz1, hta⟩ := hp
    dsimp only at hz1 hta ⊢
    obtain ⟨nb, aa, ao, acap, asp, rfl, rfl, hn⟩ := hN.at hlt
    have hfi := hg.fits k hlt
    rw [hv] at hfi
    have hal := hfi.len
    obtain ⟨hTl, hSl⟩ := dualS_len (v := v) (nodes := F.nodes) k
    have hst : dualS v F.nodes (k + 1) = ((dualS v F.nodes k).1 ++ [(dualN v (dualS v F.nodes k).1 F.nodes[k] (dualS v F.nodes k).2).2], (dualN v (dualS v F.nodes k).1 F.nodes[k] (dualS v F.nodes k).2).1) := by rw [dualS]; simp [hlt]
    obtain ⟨d, hd⟩ : ∃ d, F.nodes[k] = d := ⟨_, rfl⟩
    obtain ⟨T, hT⟩ : ∃ T, (dualS v F.nodes k).1 = T := ⟨_, rfl⟩
    obtain ⟨NS, hNS⟩ : ∃ NS, (dualS v F.nodes k).2 = NS := ⟨_, rfl⟩
    rw [hd, hT, hNS] at hst
    rw [hd] at hn hfi hal
    rw [hT] at hTl
    rw [hNS] at hSl hz1
    rw [hT, hNS]
    obtain ⟨RR, hRR⟩ : ∃ RR, dualN v T d NS = RR := ⟨_, rfl⟩
    rw [hRR] at hst
    have hin : ∀ a ∈ d.args, 0 ≤ a ∧ a.toNat < v + k := fun a ha => by have := hfi.args a ha; omega
    have hk01 := hfi.kk.1
    have hk4 := hfi.kk.2.1
    refine Tri.seq (Tri.region ?_)
    refine TOps.indexAddr (off' := off + k * 3) rfl rfl Tryz.underlying22 ti48 (by omega) (by omega) (by simp) rfl ?_
    refine TOps.loadN (vs := [.int .i64 d.kind, .int .i64 d.k, slV aa ao d.args.length acap asp]) rfl ti48 (hn.cells.le (Le.trans bld_le (Le.drop (Le.drop (Le.refl _))))) rfl rfl ?_
    refine TOps.alloc ti48 rfl (fun b9 => ?_)
    refine TOps.storeN rfl rfl ti48 rfl rfl (by repeat (first | exact Upd.here | apply Upd.there)) (by first | decide | (simp; done) | (simp; omega)) ?_
    refine TOps.le bld_in ?_
    obtain ⟨HB, hHB⟩ : ∃ HB, HB = row (some b9) 48 3 1 [.int .i64 d.kind, .int .i64 d.k, slV aa ao d.args.length acap asp] :: row ta 3 1 tc (ints T) :: row (some b2) 24 3 1 [.int .i64 0, slV none 0 0 0, .int .i64 0] :: H1 := ⟨_, rfl⟩
    have r9 : Rd HB b9 0 [.int .i64 d.kind, .int .i64 d.k, slV aa ao d.args.length acap asp] := by rw [hHB]; exact Rd.all (by repeat (first | exact List.Mem.head _ | apply List.Mem.tail))
    have hargs : RInts HB aa ao d.args asp := by rw [hHB]; exact RdS.le hn.args (Le.drop (Le.drop (Le.drop (Le.refl _))))
    have rT : RInts HB ta 0 T := by rw [hHB]; exact RdS.ofRowA (by repeat (first | exact List.Mem.head _ | apply List.Mem.tail)) (fun h => hta (by intro h0; rw [h0] at hTl; exact h (by rw [List.eq_nil_of_length_eq_zero hTl]; rfl)))
    refine TOps.le (H' := bld 52 48 b22 v NS 0 z1 HB) (by rw [hHB]; exact Le.refl _) ?_
    refine TOps.next ?_
    refine Tri.seq (Tri.region ?_)
    first | refine TOps.fieldB 2 rfl Tryz.underlying48 rfl rfl ti35 rfl rfl rfl ?_ | refine TOps.fieldN 2 rfl Tryz.underlying48 rfl rfl ti35 rfl rfl rfl ?_
    refine TOps.load1 rfl ti35 (Rd.fld (r9.le bld_le) 2 rfl) rfl ?_
    refine TOps.move rfl rfl ?_
    refine TOps.call (vs := [_, _]) Tryz.call20 ⟨rfl, rfl, trivial⟩ (mapped_g (P := T) (RdS.le hargs bld_le) (by omega) (RdS.le rT bld_le) hTl (by omega) hin) rfl ?_
    rintro _ _ ⟨ma, mc, rfl, hma, rfl⟩
    have hma' : trI T d.args ≠ [] → ∃ b, ma = some b := fun h => hma (fun e => h (by rw [e]; rfl))
    refine TOps.assign rfl rfl ?_
    refine TOps.next ?_
    refine Tri.seq (Tri.region ?_)
    refine TOps.assign rfl rfl ?_
    refine TOps.next ?_
    refine Tri.seqMid (X := BS) (fun y => [(1, .pointer (some ⟨b1, 0, none⟩)), (2, .pointer (some ⟨b2, 0, none⟩)), (5, .pointer (some ⟨b22, 0, none⟩)), (6, slV ta 0 (v + k) tc), (34, slV (some nb) off F.nodes.length cap none), (35, .int .i64 F.nodes.length), (36, .int .i64 k), (11, .int .i64 RR.2)]) (fun y => bld 52 48 b22 v RR.1 0 y HB) (fun y => OkC y RR.1) ?_ (fun y hmid => ?_)
    · skip
      refine Tri.seq (Tri.region ?_)
      refine TOps.field0 rfl Tryz.underlying48 rfl rfl ti3 rfl rfl rfl ?_
      refine TOps.load1 rfl ti3 (Rd.fld (r9.le (Le.drop bld_le)) 0 rfl) rfl ?_
      refine TOps.next ?_
      refine Tri.block ?_
      refine Tri.seq (Tri.region ?_)
      refine TOps.eqlI rfl rfl rfl ?_
      refine TOps.assign rfl rfl ?_
      refine TOps.next ?_
      refine Tri.cond rfl (fun hc2 => ?_) (fun hc2 => ?_)
      · try simp only [decide_eq_true_eq, decide_eq_false_iff_not, Bool.and_eq_true, Bool.or_eq_true, Bool.not_eq_true', Bool.and_eq_false_iff, Bool.or_eq_false_iff, Bool.not_eq_false', Int.not_lt, Int.not_le, ne_eq, Decidable.not_not, Option.isSome_iff_ne_none, Option.isNone_iff_eq_none] at hc2
        obtain rfl : ((NS ++ [⟨0, 1 - d.k, []⟩], (v : Int) + NS.length) : List Nd × Int) = RR := by rw [← hRR]; unfold dualN; rw [if_pos hc2]
        have hk0' := hk01 hc2
        refine Tri.region ?_
        refine TOps.move rfl rfl ?_
        first | refine TOps.fieldB 1 rfl Tryz.underlying48 rfl rfl ti3 rfl rfl rfl ?_ | refine TOps.fieldN 1 rfl Tryz.underlying48 rfl rfl ti3 rfl rfl rfl ?_
        refine TOps.load1 rfl ti3 (Rd.fld (r9.le (Le.drop bld_le)) 1 rfl) rfl ?_
        refine TOps.sub rfl rfl (wrapI (by omega) (by omega)) rfl ?_
        refine TOps.le (Le.drop (Le.refl _)) ?_
        refine TOps.call (vs := [_, _, _, _]) Tryz.call21 ⟨rfl, rfl, rfl, rfl, trivial⟩ (add0C_g hz1 rfl ⟨by omega, by omega⟩ (by omega) 0 (1 - d.k)) rfl ?_
        rintro _ _ ⟨s2, rfl, hs2, rfl⟩
        refine TOps.assign rfl rfl ?_
        refine TOps.fin ?_
        refine Nrm.unB ?_
        refine Nrm.mid s2 hs2 (by exact ⟨rfl, rfl, rfl, rfl, rfl, rfl, rfl, rfl, trivial⟩) (by first | exact Le.refl _ | exact Le.drop (Le.refl _))
      try simp only [decide_eq_true_eq, decide_eq_false_iff_not, Bool.and_eq_true, Bool.or_eq_true, Bool.not_eq_true', Bool.and_eq_false_iff, Bool.or_eq_false_iff, Bool.not_eq_false', Int.not_lt, Int.not_le, ne_eq, Decidable.not_not, Option.isSome_iff_ne_none, Option.isNone_iff_eq_none] at hc2
      refine Tri.seq (Tri.region ?_)
      refine TOps.eqlI rfl rfl rfl ?_
      refine TOps.assign rfl rfl ?_
      refine TOps.next ?_
      refine Tri.cond rfl (fun hc3 => ?_) (fun hc3 => ?_)
      · try simp only [decide_eq_true_eq, decide_eq_false_iff_not, Bool.and_eq_true, Bool.or_eq_true, Bool.not_eq_true', Bool.and_eq_false_iff, Bool.or_eq_false_iff, Bool.not_eq_false', Int.not_lt, Int.not_le, ne_eq, Decidable.not_not, Option.isSome_iff_ne_none, Option.isNone_iff_eq_none] at hc3
        obtain rfl : ((NS ++ [⟨3, 0, trI T d.args⟩], (v : Int) + NS.length) : List Nd × Int) = RR := by rw [← hRR]; unfold dualN; rw [if_neg hc2, if_pos hc3]
        refine Tri.region ?_
        refine TOps.move rfl rfl ?_
        refine TOps.move rfl rfl ?_
        refine TOps.call (vs := [_, _, _, _]) Tryz.call21 ⟨rfl, rfl, rfl, rfl, trivial⟩ (add1C_g hz1 rfl ⟨by omega, by omega⟩ (by omega) (trI_length T d.args) hma' 3 0) rfl ?_
        rintro _ _ ⟨s2, rfl, hs2, rfl⟩
        refine TOps.assign rfl rfl ?_
        refine TOps.fin ?_
        refine Nrm.unB ?_
        refine Nrm.mid s2 hs2 (by exact ⟨rfl, rfl, rfl, rfl, rfl, rfl, rfl, rfl, trivial⟩) (by first | exact Le.refl _ | exact Le.drop (Le.refl _))
      try simp only [decide_eq_true_eq, decide_eq_false_iff_not, Bool.and_eq_true, Bool.or_eq_true, Bool.not_eq_true', Bool.and_eq_false_iff, Bool.or_eq_false_iff, Bool.not_eq_false', Int.not_lt, Int.not_le, ne_eq, Decidable.not_not, Option.isSome_iff_ne_none, Option.isNone_iff_eq_none] at hc3
      refine Tri.seq (Tri.region ?_)
      refine TOps.eqlI rfl rfl rfl ?_
      refine TOps.assign rfl rfl ?_
      refine TOps.next ?_
      refine Tri.cond rfl (fun hc4 => ?_) (fun hc4 => ?_)
      · try simp only [decide_eq_true_eq, decide_eq_false_iff_not, Bool.and_eq_true, Bool.or_eq_true, Bool.not_eq_true', Bool.and_eq_false_iff, Bool.or_eq_false_iff, Bool.not_eq_false', Int.not_lt, Int.not_le, ne_eq, Decidable.not_not, Option.isSome_iff_ne_none, Option.isNone_iff_eq_none] at hc4
        obtain rfl : ((NS ++ [⟨2, 0, trI T d.args⟩], (v : Int) + NS.length) : List Nd × Int) = RR := by rw [← hRR]; unfold dualN; rw [if_neg hc2, if_neg hc3, if_pos hc4]
        refine Tri.region ?_
        refine TOps.move rfl rfl ?_
        refine TOps.move rfl rfl ?_
        refine TOps.call (vs := [_, _, _, _]) Tryz.call21 ⟨rfl, rfl, rfl, rfl, trivial⟩ (add1C_g hz1 rfl ⟨by omega, by omega⟩ (by omega) (trI_length T d.args) hma' 2 0) rfl ?_
        rintro _ _ ⟨s2, rfl, hs2, rfl⟩
        refine TOps.assign rfl rfl ?_
        refine TOps.fin ?_
        refine Nrm.unB ?_
        refine Nrm.mid s2 hs2 (by exact ⟨rfl, rfl, rfl, rfl, rfl, rfl, rfl, rfl, trivial⟩) (by first | exact Le.refl _ | exact Le.drop (Le.refl _))
      try simp only [decide_eq_true_eq, decide_eq_false_iff_not, Bool.and_eq_true, Bool.or_eq_true, Bool.not_eq_true', Bool.and_eq_false_iff, Bool.or_eq_false_iff, Bool.not_eq_false', Int.not_lt, Int.not_le, ne_eq, Decidable.not_not, Option.isSome_iff_ne_none, Option.isNone_iff_eq_none] at hc4
      refine Tri.seq (Tri.region ?_)
      refine TOps.eqlI rfl rfl rfl ?_
      refine TOps.assign rfl rfl ?_
      refine TOps.next ?_
      refine Tri.cond rfl (fun hc5 => ?_) (fun hc5 => ?_)
      · try simp only [decide_eq_true_eq, decide_eq_false_iff_not, Bool.and_eq_true, Bool.or_eq_true, Bool.not_eq_true', Bool.and_eq_false_iff, Bool.or_eq_false_iff, Bool.not_eq_false', Int.not_lt, Int.not_le, ne_eq, Decidable.not_not, Option.isSome_iff_ne_none, Option.isNone_iff_eq_none] at hc5
        obtain rfl : ((NS ++ [⟨4, d.args.length - d.k + 1, trI T d.args⟩], (v : Int) + NS.length) : List Nd × Int) = RR := by rw [← hRR]; unfold dualN; rw [if_neg hc2, if_neg hc3, if_neg hc4, if_pos hc5]
        have hk4' := hk4 hc5
        refine Tri.region ?_
        refine TOps.move rfl rfl ?_
        refine TOps.move rfl rfl ?_
        refine TOps.len rfl Tryz.underlying35 rfl ?_
        first | refine TOps.fieldB 1 rfl Tryz.underlying48 rfl rfl ti3 rfl rfl rfl ?_ | refine TOps.fieldN 1 rfl Tryz.underlying48 rfl rfl ti3 rfl rfl rfl ?_
        refine TOps.load1 rfl ti3 (Rd.fld (r9.le (Le.drop bld_le)) 1 rfl) rfl ?_
        refine TOps.sub rfl rfl (wrapI (by omega) (by omega)) rfl ?_
        refine TOps.add rfl rfl (wrapI (by omega) (by omega)) rfl ?_
        refine TOps.move rfl rfl ?_
        refine TOps.call (vs := [_, _, _, _]) Tryz.call21 ⟨rfl, rfl, rfl, rfl, trivial⟩ (add1C_g hz1 rfl ⟨by omega, by omega⟩ (by omega) (trI_length T d.args) hma' 4 _) rfl ?_
        rintro _ _ ⟨s2, rfl, hs2, rfl⟩
        refine TOps.assign rfl rfl ?_
        refine TOps.fin ?_
        refine Nrm.unB ?_
        refine Nrm.mid s2 hs2 (by exact ⟨rfl, rfl, rfl, rfl, rfl, rfl, rfl, rfl, trivial⟩) (by first | exact Le.refl _ | exact Le.drop (Le.refl _))
      try simp only [decide_eq_true_eq, decide_eq_false_iff_not, Bool.and_eq_true, Bool.or_eq_true, Bool.not_eq_true', Bool.and_eq_false_iff, Bool.or_eq_false_iff, Bool.not_eq_false', Int.not_lt, Int.not_le, ne_eq, Decidable.not_not, Option.isSome_iff_ne_none, Option.isNone_iff_eq_none] at hc5
      refine Tri.seq (Tri.region ?_)
      refine TOps.move rfl rfl ?_
      refine TOps.field0 rfl Tryz.underlying48 rfl rfl ti3 rfl rfl rfl ?_
      refine TOps.load1 rfl ti3 (Rd.fld (r9.le (Le.drop bld_le)) 0 rfl) rfl ?_
      refine TOps.move rfl rfl ?_
      refine TOps.call (vs := [_, _, _, _]) Tryz.call21 ⟨rfl, rfl, rfl, rfl, trivial⟩ (add1C_g hz1 rfl ⟨by omega, by omega⟩ (by omega) (trI_length T d.args) hma' d.kind 0) rfl ?_
      rintro _ _ ⟨s2, rfl, hs2, rfl⟩
      refine TOps.assign rfl rfl ?_
      refine TOps.next ?_
      refine Tri.seq (Tri.region ?_)
      refine TOps.field0 rfl Tryz.underlying48 rfl rfl ti3 rfl rfl rfl ?_
      refine TOps.load1 rfl ti3 (Rd.fld (r9.le bld_le) 0 rfl) rfl ?_
      refine TOps.eqlI rfl rfl rfl ?_
      refine TOps.move rfl rfl ?_
      refine' TOps.andB 4 rfl rfl rfl rfl (fun hg18_3 => ?_) ?_; rotate_left
      · have hg18_3' := hg18_3
        try simp only [decide_eq_true_eq, decide_eq_false_iff_not, Bool.and_eq_true, Bool.or_eq_true, Bool.not_eq_true', Bool.and_eq_false_iff, Bool.or_eq_false_iff, Bool.not_eq_false', Int.not_lt, Int.not_le, ne_eq, Decidable.not_not] at hg18_3'
        refine TOps.strip 3 true rfl rfl hg18_3 rfl ?_
        refine TOps.move rfl rfl ?_
        refine TOps.len rfl Tryz.underlying35 rfl ?_
        refine TOps.rem (r := ((d.args.length % 2 : Nat) : Int)) rfl rfl (by omega) rfl rfl ?_
        refine TOps.eqlI rfl rfl rfl ?_
        refine TOps.blk rfl (by repeat (first | exact Ext.refl _ | refine Ext.cons rfl ?_)) (by repeat (first | exact Le.refl _ | apply Le.drop))
      refine TOps.next ?_
      refine Tri.cond rfl (fun hc6 => ?_) (fun hc6 => ?_)
      · try simp only [decide_eq_true_eq, decide_eq_false_iff_not, Bool.and_eq_true, Bool.or_eq_true, Bool.not_eq_true', Bool.and_eq_false_iff, Bool.or_eq_false_iff, Bool.not_eq_false', Int.not_lt, Int.not_le, ne_eq, Decidable.not_not, Option.isSome_iff_ne_none, Option.isNone_iff_eq_none] at hc6
        have hdk : d.kind = 5 := hc6.1
        have hev : d.args.length % 2 = 0 := by have := hc6.2; omega
        have hs2' : OkC s2 (NS ++ [⟨5, 0, trI T d.args⟩]) := by rw [hdk] at hs2; exact hs2
        rw [hdk]
        obtain rfl : ((NS ++ [⟨5, 0, trI T d.args⟩] ++ [⟨1, 0, [(v : Int) + NS.length]⟩], (v : Int) + (NS.length + 1 : Nat)) : List Nd × Int) = RR := by rw [← hRR]; unfold dualN; rw [if_neg hc2, if_neg hc3, if_neg hc4, if_neg hc5, if_pos ⟨hdk, hev⟩]
        refine Tri.region ?_
        refine TOps.move rfl rfl ?_
        refine TOps.move rfl rfl ?_
        refine TOps.buildSlice (vs := [_]) (xs := [_]) Tryz.underlying35 ti3 ⟨rfl, rfl, trivial⟩ rfl rfl rfl rfl rfl rfl (by decide) rfl (fun b62 => ?_)
        refine TOps.call (vs := [_, _, _, _]) Tryz.call21 ⟨rfl, rfl, rfl, rfl, trivial⟩ (add1C_g (args := [(v : Int) + NS.length]) (L := NS.length + 1) hs2' (by simp) ⟨by omega, by omega⟩ (by simp; omega) rfl (fun _ => ⟨_, rfl⟩) 1 0) rfl ?_
        rintro _ _ ⟨s3, rfl, hs3, rfl⟩
        refine TOps.assign rfl rfl ?_
        obtain ⟨s2, hs2e⟩ : ∃ s2, s3 = s2 := ⟨_, rfl⟩
        rw [hs2e] at hs3 ⊢
        have hs2 := hs3
        refine TOps.fin ?_
        refine Nrm.unB ?_
        refine Nrm.mid s2 hs2 (by exact ⟨rfl, rfl, rfl, rfl, rfl, rfl, rfl, rfl, trivial⟩) (by first | exact Le.refl _ | exact Le.drop (Le.refl _))
      try simp only [decide_eq_true_eq, decide_eq_false_iff_not, Bool.and_eq_true, Bool.or_eq_true, Bool.not_eq_true', Bool.and_eq_false_iff, Bool.or_eq_false_iff, Bool.not_eq_false', Int.not_lt, Int.not_le, ne_eq, Decidable.not_not, Option.isSome_iff_ne_none, Option.isNone_iff_eq_none] at hc6
      obtain rfl : ((NS ++ [⟨d.kind, 0, trI T d.args⟩], (v : Int) + NS.length) : List Nd × Int) = RR := by rw [← hRR]; unfold dualN; rw [if_neg hc2, if_neg hc3, if_neg hc4, if_neg hc5, if_neg (fun h => by rcases hc6 with e | e; exact e h.1; have := h.2; omega)]
      refine Tri.fin ?_
      refine Nrm.unB ?_
      refine Nrm.mid s2 hs2 (by exact ⟨rfl, rfl, rfl, rfl, rfl, rfl, rfl, rfl, trivial⟩) (by first | exact Le.refl _ | exact Le.drop (Le.refl _))
    refine Tri.region ?_
    subst hHB
    refine TOps.move rfl rfl ?_
    refine TOps.move rfl rfl ?_
    refine TOps.buildSlice (vs := [_]) (xs := [_]) Tryz.underlying35 ti3 ⟨rfl, rfl, trivial⟩ rfl rfl rfl rfl rfl rfl (by decide) rfl (fun b94 => ?_)
    refine TOps.appendLit rfl rfl Tryz.underlying35 ti3 rfl (fun _ _ => Upd.bld (Upd.there Upd.here)) rfl (by rw [List.length_map, hTl, Nat.mul_one]) rfl (by omega) (by omega) (by simp) rfl (fun b94 cap94 => ?_)
    refine TOps.assign rfl rfl ?_
    refine TOps.fin ?_
    refine Nrm.body (y, some b94, cap94) (by rw [hst]; exact ⟨hmid, fun _ => ⟨_, rfl⟩⟩) ⟨rfl, rfl, rfl, rfl, rfl, rfl, rfl, trivial⟩ (by rw [hst]; dsimp only; rw [ints_snoc]; exact bld_mono (List.sublist_cons_self _ _))
  obtain ⟨z1, ta, tc⟩ := u
  obtain ⟨hz1, hta⟩ := hp
  dsimp only at hz1 hta hM hS ⊢
  obtain ⟨tb, rfl⟩ := hta (by omega)
  obtain ⟨hTl, hSl⟩ := dualS_len (v := v) (nodes := F.nodes) F.nodes.length
  refine Nrm.of hS hM ?_
  refine Nrm.next ?_
  refine Tri.seq (Tri.region ?_)
  refine TOps.move rfl rfl ?_
  refine TOps.move rfl rfl ?_
  first | refine TOps.fieldB 2 rfl Tryz.underlying24 rfl rfl ti3 rfl rfl rfl ?_ | refine TOps.fieldN 2 rfl Tryz.underlying24 rfl rfl ti3 rfl rfl rfl ?_
  refine TOps.load1 rfl ti3 (Rd.fld (r1.le (Le.trans bld_le (Le.drop (Le.drop (Le.refl _))))) 2 rfl) rfl ?_
  refine TOps.indexAddr (off' := tp) rfl rfl Tryz.underlying35 ti3 (by omega) (by omega) (by simp) rfl ?_
  refine TOps.load1 rfl ti3 (Rd.le (Rd.lit (List.Mem.head _) (ints_get (by omega))) bld_le) rfl ?_
  refine TOps.call (vs := [_, _]) Tryz.call22 ⟨rfl, rfl, trivial⟩ (doneC_g hz1 (by omega) _) rfl ?_
  rintro _ _ ⟨a1, c1, NN, rfl, hN2, rfl⟩
  refine TOps.extract rfl rfl rfl ?_
  refine TOps.extract rfl rfl rfl ?_
  refine TOps.storeN rfl rfl ti24 rfl rfl (Upd.app (Upd.there Upd.here) NN) (by simp) ?_
  refine TOps.assign rfl rfl ?_
  refine TOps.next ?_
  refine Tri.ret2 (H' := NN ++ H) Tryz.results7 (fun _ _ h => h) (.cellN rfl rfl ti24 (Rd.all (List.mem_append_right _ (List.Mem.tail _ (List.Mem.head _)))) rfl) (.tmp rfl) (sub_app (List.Sublist.cons _ (List.Sublist.cons _ s1))) ⟨a1, c1, NN, ?_, ?_, rfl⟩
  · rw [hpE, hpF]; rfl
  · rw [hpF]; exact hN2
end Go.Proofs
namespace Go.Proofs
open Go.GL
set_option linter.unusedVariables false
set_option linter.unusedSimpArgs false
theorem valueOk_g {H : List Ent} {fv : Value} {F : Fm} (hF : RF H fv F) (hk : F.ok) {failed : Int} (he : F.setErr failed = none) :
    Gives Tryz.prog 9 [fv, .int .i64 failed] H (R1 (.tuple (List.toArray [.bool (F.value failed), errV 57 none])) H) := by
  have h := value_g hF hk failed
  rw [he] at h
  exact h
theorem errs_at {T k : Nat} {l : List (Option Int)} (hk : k < l.length) : (l.map (errV T))[k]? = some (errV T (l.getD k none)) := by
  simp [List.getD_eq_getElem?_getD, hk]
section
variable {F : Fm} {v : Nat}
theorem complN_mod (v t : Nat) : complN v t % 2 ^ v = complN v t := Nat.mod_eq_of_lt (complN_lt v t)
theorem dual_c (hg : F.Good) (hv : F.vars = v) (h8 : v ≤ 8) (t : Nat) : F.dualB.value ((complN v t : Nat) : Int) = !F.value ((t % 2 ^ v : Nat) : Int) := by
  have h28 : 2 ^ v ≤ 2 ^ 8 := Nat.pow_le_pow_right (by decide) h8
  have h1 := complN_lt v t
  have h2 := Nat.mod_lt t (Nat.two_pow_pos v)
  refine dual_value hg hv fun i hi => ?_
  rw [bitB_nat (by omega) (by omega), bitB_nat (by omega) (by omega), complN_bit hi, Nat.testBit_mod_two_pow, decide_eq_true hi]
  simp
theorem dual_d (hg : F.Good) (hv : F.vars = v) (h8 : v ≤ 8) (t : Nat) : F.dualB.value ((t % 2 ^ v : Nat) : Int) = !F.value ((complN v t : Nat) : Int) := by
  have h28 : 2 ^ v ≤ 2 ^ 8 := Nat.pow_le_pow_right (by decide) h8
  have h1 := complN_lt v t
  have h2 := Nat.mod_lt t (Nat.two_pow_pos v)
  refine dual_value hg hv fun i hi => ?_
  rw [bitB_nat (by omega) (by omega), bitB_nat (by omega) (by omega), complN_bit hi, Nat.testBit_mod_two_pow, decide_eq_true hi]
  simp
theorem law_pc (hg : F.Good) (hv : F.vars = v) (h8 : v ≤ 8) {p c : List Nat} (hp : Fam p (fun t => F.value ((complN v t : Nat) : Int) = false)) (hc : Fam c (fun s => valU F.dualB v s = true)) : p = c :=
  hp.eq hc fun s _ => by
    unfold valU
    rw [dual_d hg hv h8 s]
    simp
theorem law_lq (hg : F.Good) (hv : F.vars = v) (h8 : v ≤ 8) {l q : List Nat} (hl : Fam l (fun s => valU F v s = true)) (hq : Fam q (fun t => F.dualB.value ((complN v t : Nat) : Int) = false)) : l = q :=
  hl.eq hq fun s _ => by
    unfold valU
    rw [dual_c hg hv h8 s]
    simp
theorem fam_lt {l : List Nat} (hl : Fam l (fun s => valU F v s = true)) : ∀ x ∈ l, x < 2 ^ v :=
  hl.small fun s => by unfold valU; rw [Nat.mod_mod]
theorem meets_val {l : List Nat} (hl : Fam l (fun s => valU F v s = true)) (t : Nat) : (∀ s ∈ l, t &&& s ≠ 0) ↔ F.value ((complN v t : Nat) : Int) = false := by
  have hlt := fam_lt hl
  have key : ∀ s ∈ l, subB s (complN v t) = true ↔ t &&& s = 0 := by
    intro s hs
    rw [← Decidable.not_iff_not, show (¬ t &&& s = 0) ↔ t &&& s ≠ 0 from Iff.rfl, meet_iff, subB_iff]
    constructor
    · intro h
      refine Classical.byContradiction fun hne => h fun i hi => ?_
      rw [complN_bit (bit_lt (hlt s hs) hi)]
      cases ht : t.testBit i with
      | false => rfl
      | true => exact absurd ⟨i, ht, hi⟩ hne
    · rintro ⟨i, h1, h2⟩ h
      have := h i h2
      rw [complN_bit (bit_lt (hlt s hs) h2), h1] at this
      cases this
  have hu := hl.upw (complN v t)
  unfold valU at hu
  rw [complN_mod] at hu
  constructor
  · intro h
    cases hF : F.value ((complN v t : Nat) : Int) with
    | false => rfl
    | true =>
      obtain ⟨s, hs, hss⟩ := hu.2 hF
      exact absurd ((key s hs).1 hss) (h s hs)
  · intro hF s hs h0
    have := hu.1 ⟨s, hs, (key s hs).2 h0⟩
    rw [hF] at this
    cases this
theorem law_meets {l p : List Nat} (hl : Fam l (fun s => valU F v s = true)) (hp : Fam p (fun t => F.value ((complN v t : Nat) : Int) = false)) {x : Nat} (hx : x ∈ p) : l.any (fun y => decide (y &&& x = 0)) = false := by
  have h1 := (meets_val hl x).2 ((hp.upw x).1 ⟨x, hx, subB_refl x⟩)
  rw [List.any_eq_false]
  intro y hy
  have := h1 y hy
  rw [Nat.and_comm] at this
  simpa using this
theorem law_hit {l p q r : List Nat} (hl : Fam l (fun s => valU F v s = true)) (hp : Fam p (fun t => F.value ((complN v t : Nat) : Int) = false)) (hq : Fam q (fun t => ∀ s ∈ l, t &&& s ≠ 0)) (hr : Fam r (fun s => up p s)) : q = r :=
  hq.eq hr fun s _ => by rw [hp.upw s]; exact meets_val hl s
end
end Go.Proofs
namespace Go.Proofs
open Go.GL
set_option linter.unusedVariables false
set_option linter.unusedSimpArgs false
set_option maxHeartbeats 2000000 in
theorem wholeDual0_g {H : List Ent} {fv : Value} {F : Fm} (hF : RFC H fv F) (hk : F.ok) {x : Nat} (hx : x < 65536) :
    Gives Tryz.prog 3 [fv, .int .u16 x] H (R1 (.bool true) H) := by
  have hF0 := hF
  obtain ⟨na, no, cap, sa, rfl, hN⟩ := hF
  refine Gives.enter Tryz.func3 rfl (by exact Tryz.ntmps3) rfl ?_
  refine Tri.seq (Tri.region ?_)
  refine TOps.boxN rfl ti24 rfl rfl (fun b2 => ?_)
  refine TOps.hide (fun H1 l1 s1 r1 => ?_)
  replace hF0 := hF0.le l1
  refine TOps.assign rfl rfl ?_
  refine TOps.next ?_
  refine Tri.seq ?_
  refine Tri.seq (Tri.region ?_)
  refine TOps.call (vs := []) Tryz.call4 trivial (awake34_g) rfl ?_
  rintro _ _ ⟨rfl, rfl⟩
  refine TOps.not rfl rfl ?_
  refine TOps.move rfl rfl ?_
  refine' TOps.orB 3 rfl rfl rfl rfl (fun hg1_2 => ?_) ?_; rotate_left
  · have hg1_2' := hg1_2
    try simp only [decide_eq_true_eq, decide_eq_false_iff_not, Bool.and_eq_true, Bool.or_eq_true, Bool.not_eq_true', Bool.and_eq_false_iff, Bool.or_eq_false_iff, Bool.not_eq_false', Int.not_lt, Int.not_le, ne_eq, Decidable.not_not] at hg1_2'
    refine TOps.strip 2 false rfl rfl hg1_2 rfl ?_
    refine TOps.loadN (vs := [.int .i64 F.vars, slV na no F.nodes.length cap sa, .int .i64 F.top]) rfl ti24 r1 rfl rfl ?_
    refine TOps.call (vs := [_]) Tryz.call5 ⟨rfl, trivial⟩ (ready_g hF0.r hk) rfl ?_
    rintro _ _ ⟨rfl, rfl⟩
    refine TOps.not rfl rfl ?_
    refine TOps.blk rfl (by repeat (first | exact Ext.refl _ | refine Ext.cons rfl ?_)) (by repeat (first | exact Le.refl _ | apply Le.drop))
  refine TOps.move rfl rfl ?_
  refine' TOps.orB 3 rfl rfl rfl rfl (fun hg1_7 => ?_) ?_; rotate_left
  · have hg1_7' := hg1_7
    try simp only [decide_eq_true_eq, decide_eq_false_iff_not, Bool.and_eq_true, Bool.or_eq_true, Bool.not_eq_true', Bool.and_eq_false_iff, Bool.or_eq_false_iff, Bool.not_eq_false', Int.not_lt, Int.not_le, ne_eq, Decidable.not_not] at hg1_7'
    refine TOps.strip 7 false rfl rfl hg1_7 rfl ?_
    refine TOps.loadN (vs := [.int .i64 F.vars, slV na no F.nodes.length cap sa, .int .i64 F.top]) rfl ti24 r1 rfl rfl ?_
    refine TOps.call (vs := [_]) Tryz.call6 ⟨rfl, trivial⟩ (rsyntax_g hF0.r hk (readyB_ok hg1_7'.2).1) rfl ?_
    rintro _ _ ⟨rfl, rfl⟩
    refine TOps.not rfl rfl ?_
    refine TOps.blk rfl (by repeat (first | exact Ext.refl _ | refine Ext.cons rfl ?_)) (by repeat (first | exact Le.refl _ | apply Le.drop))
  refine TOps.next ?_
  refine Tri.cond rfl (fun hc1 => ?_) (fun hc1 => ?_)
  · try simp only [decide_eq_true_eq, decide_eq_false_iff_not, Bool.and_eq_true, Bool.or_eq_true, Bool.not_eq_true', Bool.and_eq_false_iff, Bool.or_eq_false_iff, Bool.not_eq_false', Int.not_lt, Int.not_le, ne_eq, Decidable.not_not, Option.isSome_iff_ne_none, Option.isNone_iff_eq_none] at hc1
    refine Tri.seq (Tri.region ?_)
    refine TOps.call (vs := []) Tryz.call4 trivial (awake34_g) rfl ?_
    rintro _ _ ⟨rfl, rfl⟩
    refine TOps.assign rfl rfl ?_
    refine TOps.next ?_
    refine Tri.ret1 (H' := H) Tryz.results3 (fun _ _ h => h) (.tmp rfl) l1 ⟨rfl, rfl⟩
  try simp only [decide_eq_true_eq, decide_eq_false_iff_not, Bool.and_eq_true, Bool.or_eq_true, Bool.not_eq_true', Bool.and_eq_false_iff, Bool.or_eq_false_iff, Bool.not_eq_false', Int.not_lt, Int.not_le, ne_eq, Decidable.not_not, Option.isSome_iff_ne_none, Option.isNone_iff_eq_none] at hc1
  obtain ⟨⟨_, hrF⟩, hsy⟩ := hc1
  obtain ⟨hg, hv8i, hn16⟩ := readyB_ok hrF
  obtain ⟨v, hv⟩ := Int.eq_ofNat_of_zero_le hg.v0
  have hv8 : v ≤ 8 := by omega
  have h28 : 2 ^ v ≤ 2 ^ 8 := Nat.pow_le_pow_right (by decide) hv8
  have hvp := Nat.two_pow_pos v
  have hdl := dualB_len F
  have hdE : F.dualE = none := by unfold Fm.dualE; rw [(Fm.good_iff F).2 hg]; exact if_neg (by omega)
  have hdF : F.dualF = F.dualB := by unfold Fm.dualF; rw [(Fm.good_iff F).2 hg]; exact if_neg (by omega)
  have hDg := dualB_good hg (by omega)
  have hDs := dualB_syn hg hsy (by omega)
  have hDv : F.dualB.vars = (v : Int) := hv
  have hdc := dual_c hg hv hv8
  have hlpc : ∀ {p c : List Nat}, _ → _ → p = c := fun {p c} => law_pc (p := p) (c := c) hg hv hv8
  have hllq : ∀ {l q : List Nat}, _ → _ → l = q := fun {l q} => law_lq (l := l) (q := q) hg hv hv8
  have hlenF : ∀ d ∈ F.nodes, d.args.length ≤ 1000 := fun d hd => by obtain ⟨i, hi, rfl⟩ := List.getElem_of_mem hd; have := (hg.fits i hi).len; omega
  have hlenD : ∀ d ∈ F.dualB.nodes, d.args.length ≤ 1000 := fun d hd => by obtain ⟨i, hi, rfl⟩ := List.getElem_of_mem hd; have := (hDg.fits i hi).len; omega
  refine Tri.fin ?_
  refine Nrm.next ?_
  refine Tri.seq (Tri.region ?_)
  refine TOps.loadN (vs := [.int .i64 F.vars, slV na no F.nodes.length cap sa, .int .i64 F.top]) rfl ti24 r1 rfl rfl ?_
  refine TOps.call (vs := [_]) Tryz.call7 ⟨rfl, trivial⟩ (dual_g hF0.r hk) rfl ?_
  rintro _ _ ⟨da, dc, N, rfl, hDN, rfl⟩
  rw [hdE, hdF]
  rw [hdF] at hDN
  generalize F.dualB = D at *
  have hkD := hDg.ok
  refine TOps.move rfl rfl ?_
  refine TOps.extract rfl rfl rfl ?_
  refine TOps.extract rfl rfl rfl ?_
  refine TOps.alloc ti24 rfl (fun b5 => ?_)
  refine TOps.storeN rfl rfl ti24 rfl rfl (by repeat (first | exact Upd.here | apply Upd.there)) (by first | decide | (simp; done) | (simp; omega)) ?_
  refine TOps.hide (fun H3 l3 s3 r5 => ?_)
  have hF3 : RFC H3 (.agg (List.toArray [.int .i64 F.vars, slV na no F.nodes.length cap sa, .int .i64 F.top])) F := hF0.le (l3.trans (Le.sub (List.sublist_append_right _ _)))
  have hD3 : RFC H3 (.agg (List.toArray [.int .i64 D.vars, slV da 0 D.nodes.length dc, .int .i64 D.top])) D := ⟨da, 0, dc, none, rfl, hDN.le (l3.trans (Le.sub (List.sublist_append_left _ _)))⟩
  replace r1 := r1.le (l3.trans (Le.sub (List.sublist_append_right _ _)))
  have l4 : Le H3 H := (l3.trans (Le.sub (List.sublist_append_right _ _))).trans l1
  refine TOps.assign rfl rfl ?_
  refine TOps.next ?_
  refine Tri.seq ?_
  refine Tri.seq (Tri.region ?_)
  refine TOps.move rfl rfl ?_
  refine TOps.neqNil (T := 57) (o := none) rfl Tryz.underlying29 rfl ?_
  refine TOps.next ?_
  refine Tri.cond rfl (fun hc2 => ?_) (fun hc2 => ?_)
  · exact absurd hc2 (by first | decide | simp)
  try simp only [decide_eq_true_eq, decide_eq_false_iff_not, Bool.and_eq_true, Bool.or_eq_true, Bool.not_eq_true', Bool.and_eq_false_iff, Bool.or_eq_false_iff, Bool.not_eq_false', Int.not_lt, Int.not_le, ne_eq, Decidable.not_not, Option.isSome_iff_ne_none, Option.isNone_iff_eq_none] at hc2
  refine Tri.fin ?_
  refine Nrm.next ?_
  refine Tri.seq (Tri.region ?_)
  refine TOps.move rfl rfl ?_
  refine TOps.convI (r := (x : Int)) rfl Tryz.underlying25 Tryz.underlying3 (wrapI (by omega) (by omega)) rfl ?_
  refine TOps.field0 rfl Tryz.underlying24 rfl rfl ti3 rfl rfl rfl ?_
  refine TOps.load1 (v := natV v) rfl ti3 (Rd.eqv (Rd.fld r1 0 rfl) (by rw [hv])) rfl ?_
  refine TOps.shl (r := ((2 ^ v : Nat) : Int)) rfl rfl (by omega) (ishl_one (by omega)) rfl ?_
  refine TOps.rem (r := ((x % 2 ^ v : Nat) : Int)) rfl rfl (by omega) (by rw [Int.tmod_eq_emod_of_nonneg (by omega)]; rfl) rfl ?_
  refine TOps.assign rfl rfl ?_
  have hsl : x % 2 ^ v < 2 ^ v := Nat.mod_lt _ hvp
  have hdx := hdc x
  obtain ⟨s, hsx⟩ : ∃ s, s = x % 2 ^ v := ⟨_, rfl⟩
  rw [← hsx] at hsl hdx ⊢
  have hcs : complN v x = 2 ^ v - 1 - s := by unfold complN; rw [hsx]
  rw [hcs] at hdx
  refine TOps.next ?_
  refine Tri.seq (Tri.region ?_)
  refine TOps.loadN (vs := [.int .i64 F.vars, slV na no F.nodes.length cap sa, .int .i64 F.top]) rfl ti24 r1 rfl rfl ?_
  refine TOps.move rfl rfl ?_
  refine TOps.call (vs := [_, _]) Tryz.call9 ⟨rfl, rfl, trivial⟩ (valueOk_g hF3.r hk (Fm.setErr_of hg (x := s) (by rw [hv]; exact hsl))) rfl ?_
  rintro _ _ ⟨rfl, rfl⟩
  refine TOps.move rfl rfl ?_
  refine TOps.extract rfl rfl rfl ?_
  refine TOps.extract rfl rfl rfl ?_
  refine TOps.assign rfl rfl ?_
  refine TOps.assign rfl rfl ?_
  refine TOps.next ?_
  refine Tri.seq ?_
  refine Tri.drawC rfl [(2, .pointer (some ⟨b2, 0, none⟩)), (5, .pointer (some ⟨b5, 0, none⟩)), (7, natV s), (8, .bool (F.value (s : Int))), (9, errV 57 none)] [] [_, _, _, _, _, _, _, _, _, _, _, _, _] (H3) [11, 12] rfl ⟨rfl, rfl, rfl, rfl, rfl, trivial⟩ trivial (by repeat (first | exact Le.refl _ | assumption | apply Le.drop)) (by
    refine ⟨?_, ?_, ?_, ?_, ?_, ?_, ?_, ?_, ?_, ?_, ?_, ?_, ?_, trivial⟩
    · refine ⟨fun x S c he hw hd hc hcu hm _ => ?_, trivial⟩
      refine TOps.loadN (vs := [.int .i64 D.vars, slV da 0 D.nodes.length dc, .int .i64 D.top]) (he _ _ rfl) ti24 r5 rfl rfl ?_
      exact TOps.fd x rfl rfl
    · refine ⟨fun x S c he hw hd hc hcu hm _ => ?_, trivial⟩
      refine TOps.field0 (he _ _ rfl) Tryz.underlying24 rfl rfl ti3 rfl rfl rfl ?_
      exact TOps.fd x rfl rfl
    · refine ⟨fun x S c he hw hd hc hcu hm _ => ?_, trivial⟩
      obtain ⟨h1, -⟩ := hd
      refine TOps.load1 (v := natV v) h1 ti3 (Rd.eqv (Rd.fld r1 0 rfl) (by rw [hv])) rfl ?_
      exact TOps.fd x rfl rfl
    · refine ⟨fun x S c he hw hd hc hcu hm _ => ?_, trivial⟩
      obtain ⟨h2, -⟩ := hd
      refine TOps.shl (r := ((2 ^ v : Nat) : Int)) rfl h2 (by omega) (ishl_one (by omega)) rfl ?_
      exact TOps.fd x rfl rfl
    · refine ⟨fun x S c he hw hd hc hcu hm _ => ?_, trivial⟩
      obtain ⟨h3, -⟩ := hd
      refine TOps.sub (r := ((2 ^ v - 1 : Nat) : Int)) h3 rfl (by rw [wrapI (by omega) (by omega)]; omega) rfl ?_
      exact TOps.fd x rfl rfl
    · refine ⟨fun x S c he hw hd hc hcu hm _ => ?_, trivial⟩
      refine TOps.move (he _ _ rfl) rfl ?_
      exact TOps.fd x rfl rfl
    · refine ⟨fun x S c he hw hd hc hcu hm _ => ?_, trivial⟩
      obtain ⟨h4, h5, -⟩ := hd
      refine TOps.sub (r := ((2 ^ v - 1 - s : Nat) : Int)) h4 h5 (by rw [wrapI (by omega) (by omega)]; omega) rfl ?_
      exact TOps.fd x rfl rfl
    · refine ⟨fun x S c he hw hd hc hcu hm _ => ?_, trivial⟩
      obtain ⟨h0, h6, -⟩ := hd
      refine TOps.call (vs := [_, _]) Tryz.call9 ⟨h0, h6, trivial⟩ (valueOk_g hD3.r hkD (Fm.setErr_of hDg (x := 2 ^ v - 1 - s) (by rw [hDv]; show 2 ^ v - 1 - s < 2 ^ v; omega))) rfl ?_
      rintro _ _ ⟨rfl, rfl⟩
      exact TOps.fd x rfl rfl
    · refine ⟨fun x S c he hw hd hc hcu hm _ => ?_, trivial⟩
      obtain ⟨h7, -⟩ := hd
      refine TOps.move h7 rfl ?_
      exact TOps.fd x rfl rfl
    · refine ⟨fun x S c he hw hd hc hcu hm _ => ?_, trivial⟩
      obtain ⟨h8, -⟩ := hd
      refine TOps.extract h8 rfl rfl ?_
      exact TOps.fd x rfl rfl
    · refine ⟨fun x S c he hw hd hc hcu hm _ => ?_, trivial⟩
      obtain ⟨h8, -⟩ := hd
      refine TOps.extract h8 rfl rfl ?_
      exact TOps.fd x rfl rfl
    · refine ⟨fun x S c he hw hd hc hcu hm _ => ?_, trivial⟩
      obtain ⟨h9, h7, h0, h1, h2, h3, h4, h5, h6, _, h8, _, -⟩ := hd
      refine TOps.assign h9 rfl ?_
      exact TOps.fd x rfl rfl
    · refine ⟨fun x S c he hw hd hc hcu hm _ => ?_, trivial⟩
      obtain ⟨h10, h11, h0, h1, h2, h3, h4, h5, h6, h7, h8, h9, _, _, -⟩ := hd
      refine TOps.assign h10 rfl ?_
      exact TOps.fd x rfl rfl
    ) ?_
  refine Nrm.next ?_
  refine Tri.seq ?_
  refine Tri.seq (Tri.region ?_)
  refine TOps.move rfl rfl ?_
  refine TOps.neqNil (T := 57) (o := none) rfl Tryz.underlying29 rfl ?_
  refine TOps.move rfl rfl ?_
  refine' TOps.orB 2 rfl rfl rfl rfl (fun hg9_2 => ?_) ?_; rotate_left
  · have hg9_2' := hg9_2
    try simp only [decide_eq_true_eq, decide_eq_false_iff_not, Bool.and_eq_true, Bool.or_eq_true, Bool.not_eq_true', Bool.and_eq_false_iff, Bool.or_eq_false_iff, Bool.not_eq_false', Int.not_lt, Int.not_le, ne_eq, Decidable.not_not] at hg9_2'
    refine TOps.strip 2 false rfl rfl hg9_2 rfl ?_
    refine TOps.move rfl rfl ?_
    refine TOps.neqNil (T := 57) (o := none) rfl Tryz.underlying29 rfl ?_
    refine TOps.blk rfl (by repeat (first | exact Ext.refl _ | refine Ext.cons rfl ?_)) (by repeat (first | exact Le.refl _ | apply Le.drop))
  refine TOps.move rfl rfl ?_
  refine' TOps.orB 3 rfl rfl rfl rfl (fun hg9_6 => ?_) ?_; rotate_left
  · have hg9_6' := hg9_6
    try simp only [decide_eq_true_eq, decide_eq_false_iff_not, Bool.and_eq_true, Bool.or_eq_true, Bool.not_eq_true', Bool.and_eq_false_iff, Bool.or_eq_false_iff, Bool.not_eq_false', Int.not_lt, Int.not_le, ne_eq, Decidable.not_not] at hg9_6'
    refine TOps.strip 6 false rfl rfl hg9_6 rfl ?_
    refine TOps.move rfl rfl ?_
    refine TOps.move rfl rfl ?_
    refine TOps.eqlB rfl rfl Tryz.underlying4 rfl ?_
    refine TOps.blk rfl (by repeat (first | exact Ext.refl _ | refine Ext.cons rfl ?_)) (by repeat (first | exact Le.refl _ | apply Le.drop))
  refine TOps.next ?_
  refine Tri.cond rfl (fun hc3 => ?_) (fun hc3 => ?_)
  · try simp only [decide_eq_true_eq, decide_eq_false_iff_not, Bool.and_eq_true, Bool.or_eq_true, Bool.not_eq_true', Bool.and_eq_false_iff, Bool.or_eq_false_iff, Bool.not_eq_false', Int.not_lt, Int.not_le, ne_eq, Decidable.not_not, Option.isSome_iff_ne_none, Option.isNone_iff_eq_none] at hc3
    (rw [hdx] at hc3; revert hc3; cases F.value (s : Int) <;> simp)
  try simp only [decide_eq_true_eq, decide_eq_false_iff_not, Bool.and_eq_true, Bool.or_eq_true, Bool.not_eq_true', Bool.and_eq_false_iff, Bool.or_eq_false_iff, Bool.not_eq_false', Int.not_lt, Int.not_le, ne_eq, Decidable.not_not, Option.isSome_iff_ne_none, Option.isNone_iff_eq_none] at hc3
  refine Tri.fin ?_
  refine Nrm.next ?_
  refine Tri.seq (Tri.region ?_)
  refine TOps.loadN (vs := [.int .i64 F.vars, slV na no F.nodes.length cap sa, .int .i64 F.top]) rfl ti24 r1 rfl rfl ?_
  refine TOps.call (vs := [_]) Tryz.call10 ⟨rfl, trivial⟩ (cuts_g hF3 hk hg hsy hv hv8 hlenF) rfl ?_
  rintro _ _ ⟨a1, c1, l, e1, rfl, p1, p2, h1, rfl⟩
  refine TOps.move rfl rfl ?_
  refine TOps.extract rfl rfl rfl ?_
  refine TOps.extract rfl rfl rfl ?_
  refine TOps.assign rfl rfl ?_
  refine TOps.assign rfl rfl ?_
  refine TOps.next ?_
  refine Tri.seq (Tri.region ?_)
  refine TOps.loadN (vs := [.int .i64 F.vars, slV na no F.nodes.length cap sa, .int .i64 F.top]) rfl ti24 r1.up rfl rfl ?_
  refine TOps.call (vs := [_]) Tryz.call11 ⟨rfl, trivial⟩ (paths_g (hF3.r.le (Le.drop (Le.refl _))) hk hg hsy hv hv8) rfl ?_
  rintro _ _ ⟨a2, c2, p, f2, rfl, h2, rfl⟩
  refine TOps.move rfl rfl ?_
  refine TOps.extract rfl rfl rfl ?_
  refine TOps.extract rfl rfl rfl ?_
  refine TOps.assign rfl rfl ?_
  refine TOps.assign rfl rfl ?_
  refine TOps.next ?_
  refine Tri.seq (Tri.region ?_)
  refine TOps.loadN (vs := [.int .i64 D.vars, slV da 0 D.nodes.length dc, .int .i64 D.top]) rfl ti24 r5.up.up rfl rfl ?_
  refine TOps.call (vs := [_]) Tryz.call10 ⟨rfl, trivial⟩ (cuts_g (hD3.le (Le.drop (Le.drop (Le.refl _)))) hkD hDg hDs hDv hv8 hlenD) rfl ?_
  rintro _ _ ⟨a3, c3, c, e3, rfl, p3, p4, h3, rfl⟩
  refine TOps.move rfl rfl ?_
  refine TOps.extract rfl rfl rfl ?_
  refine TOps.extract rfl rfl rfl ?_
  refine TOps.assign rfl rfl ?_
  refine TOps.assign rfl rfl ?_
  refine TOps.next ?_
  refine Tri.seq (Tri.region ?_)
  refine TOps.loadN (vs := [.int .i64 D.vars, slV da 0 D.nodes.length dc, .int .i64 D.top]) rfl ti24 r5.up.up.up rfl rfl ?_
  refine TOps.call (vs := [_]) Tryz.call11 ⟨rfl, trivial⟩ (paths_g (hD3.r.le (Le.drop (Le.drop (Le.drop (Le.refl _))))) hkD hDg hDs hDv hv8) rfl ?_
  rintro _ _ ⟨a4, c4, q, f4, rfl, h4, rfl⟩
  refine TOps.move rfl rfl ?_
  refine TOps.extract rfl rfl rfl ?_
  refine TOps.extract rfl rfl rfl ?_
  refine TOps.assign rfl rfl ?_
  refine TOps.assign rfl rfl ?_
  refine TOps.next ?_
  refine Tri.seq ?_
  refine Tri.seq (Tri.region ?_)
  refine TOps.move rfl rfl ?_
  refine TOps.move rfl rfl ?_
  refine TOps.move rfl rfl ?_
  refine TOps.move rfl rfl ?_
  refine TOps.buildSlice (vs := [errV 57 e1, errV 57 none, errV 57 e3, errV 57 none]) (xs := ([e1, none, e3, none] : List (Option Int)).map (errV 57)) Tryz.underlying38 ti29 ⟨rfl, rfl, rfl, rfl, rfl, rfl, rfl, rfl, trivial⟩ rfl rfl rfl (by cases e1 <;> cases e3 <;> rfl) (by cases e1 <;> cases e3 <;> rfl) rfl (by decide) rfl (fun b108 => ?_)
  obtain ⟨es, hes⟩ : ∃ es, es = ([e1, none, e3, none] : List (Option Int)) := ⟨_, rfl⟩
  have hel : es.length = 4 := by rw [hes]; rfl
  have hebad : ∀ k, k < 4 → es.getD k none ≠ none → es.getD k none = some 4 := by
    intro k hk hne
    rw [hes] at hne ⊢
    rcases k with _ | _ | _ | _ | k
    · exact (p2 hne).1
    · exact absurd rfl hne
    · exact (p4 hne).1
    · exact absurd rfl hne
    · omega
  rw [← hes]
  refine TOps.len rfl Tryz.underlying38 rfl ?_
  refine TOps.move rfl rfl ?_
  refine TOps.next ?_
  refine Tri.range (X := Unit) (fun x k => [(2, .pointer (some ⟨b2, 0, none⟩)), (5, .pointer (some ⟨b5, 0, none⟩)), (12, slV a1 0 l.length c1), (14, slV a2 0 p.length c2), (16, slV a3 0 c.length c3), (18, slV a4 0 q.length c4), (108, slV (some b108) 0 4 4)]) (fun x k => row (some b108) 29 1 4 (es.map (errV 57)) :: row a4 3 1 c4 (nats q) :: row a3 3 1 c3 (nats c) :: row a2 3 1 c2 (nats p) :: row a1 3 1 c1 (nats l) :: H3) (fun x k => ∀ j, j < k → es.getD j none = none) (by omega) rfl rfl rfl (fun _ _ => ⟨rfl, rfl, rfl, rfl⟩) () (fun j hj => absurd hj (Nat.not_lt_zero j)) ⟨rfl, rfl, rfl, rfl, rfl, rfl, rfl, trivial⟩ (by repeat (first | exact Le.refl _ | assumption | apply Le.drop)) (fun k x hlt hp => ?_) (fun x ac wc hp hS hM => ?_)
  · skip
    obtain ⟨ek, hek⟩ : ∃ ek, ek = es.getD k none := ⟨_, rfl⟩
    have hrk : Rd (row (some b108) 29 1 4 (es.map (errV 57)) :: row a4 3 1 c4 (nats q) :: row a3 3 1 c3 (nats c) :: row a2 3 1 c2 (nats p) :: row a1 3 1 c1 (nats l) :: H3) b108 (0 + k) [errV 57 ek] := by rw [hek]; exact Rd.part (Rd.all (List.Mem.head _)) k (errs_at (by omega))
    refine Tri.seq (Tri.region ?_)
    refine TOps.indexAddr (b := b108) (off := 0) (m := 4) (cap := 4) (off' := 0 + k) rfl rfl Tryz.underlying38 ti29 (by omega) (by omega) (by simp) rfl ?_
    refine TOps.load1 rfl ti29 hrk rfl ?_
    refine TOps.assign rfl rfl ?_
    refine TOps.next ?_
    refine Tri.seq (Tri.region ?_)
    refine TOps.move rfl rfl ?_
    refine TOps.neqNil (T := 57) (o := ek) rfl Tryz.underlying29 rfl ?_
    refine TOps.next ?_
    refine Tri.cond rfl (fun hc4 => ?_) (fun hc4 => ?_)
    · try simp only [decide_eq_true_eq, decide_eq_false_iff_not, Bool.and_eq_true, Bool.or_eq_true, Bool.not_eq_true', Bool.and_eq_false_iff, Bool.or_eq_false_iff, Bool.not_eq_false', Int.not_lt, Int.not_le, ne_eq, Decidable.not_not, Option.isSome_iff_ne_none, Option.isNone_iff_eq_none] at hc4
      refine Tri.seq (Tri.region ?_)
      refine TOps.move rfl rfl ?_
      refine TOps.call (vs := [_]) Tryz.call8 ⟨rfl, trivial⟩ (large_g ek) rfl ?_
      rintro _ _ ⟨rfl, rfl⟩
      refine TOps.assign rfl rfl ?_
      refine TOps.next ?_
      refine Tri.ret1 (H' := H) Tryz.results3 (fun _ _ h => h) (.tmp rfl) ((Le.drop (Le.drop (Le.drop (Le.drop (Le.drop (Le.refl _)))))).trans l4) ⟨by rw [hek, hebad k hlt (by rw [← hek]; exact hc4)]; rfl, rfl⟩
    try simp only [decide_eq_true_eq, decide_eq_false_iff_not, Bool.and_eq_true, Bool.or_eq_true, Bool.not_eq_true', Bool.and_eq_false_iff, Bool.or_eq_false_iff, Bool.not_eq_false', Int.not_lt, Int.not_le, ne_eq, Decidable.not_not, Option.isSome_iff_ne_none, Option.isNone_iff_eq_none] at hc4
    refine Tri.fin ?_
    refine Nrm.body () (fun j hj => by
      rcases Nat.lt_or_ge j k with h | h
      · exact hp j h
      · obtain rfl : j = k := by omega
        rw [← hek]
        simpa using hc4) ⟨rfl, rfl, rfl, rfl, rfl, rfl, rfl, rfl, rfl, trivial⟩ (by repeat (first | exact Le.refl _ | assumption | apply Le.drop))
  obtain rfl : e1 = none := by have := hp 0 (by omega); rw [hes] at this; exact this
  obtain rfl : e3 = none := by have := hp 2 (by omega); rw [hes] at this; exact this
  have f1 := p1 rfl
  have f3 := p3 rfl
  obtain rfl := hlpc f2 f3
  obtain rfl := hllq f1 f4
  have ll := f1.len
  have lp := f2.len
  obtain ⟨K, hK⟩ : ∃ K, K = row (some b108) 29 1 4 (es.map (errV 57)) :: row a4 3 1 c4 (nats l) :: row a3 3 1 c3 (nats p) :: row a2 3 1 c2 (nats p) :: row a1 3 1 c1 (nats l) :: H3 := ⟨_, rfl⟩
  have q1 : RdS K a1 0 (nats l) := by rw [hK]; exact RdS.ofRowA (by repeat (first | exact List.Mem.head _ | apply List.Mem.tail)) (fun h => h1 (nats_ne h))
  have q2 : RdS K a2 0 (nats p) := by rw [hK]; exact RdS.ofRowA (by repeat (first | exact List.Mem.head _ | apply List.Mem.tail)) (fun h => h2 (nats_ne h))
  have q3 : RdS K a3 0 (nats p) := by rw [hK]; exact RdS.ofRowA (by repeat (first | exact List.Mem.head _ | apply List.Mem.tail)) (fun h => h3 (nats_ne h))
  have q4 : RdS K a4 0 (nats l) := by rw [hK]; exact RdS.ofRowA (by repeat (first | exact List.Mem.head _ | apply List.Mem.tail)) (fun h => h4 (nats_ne h))
  have lK : Le K H := by rw [hK]; exact (Le.drop (Le.drop (Le.drop (Le.drop (Le.drop (Le.refl _)))))).trans l4
  have k1 : SOk K a1 l := ⟨q1, f1.lt, by omega⟩
  have k2 : SOk K a2 p := ⟨q2, f2.lt, by omega⟩
  rw [← hK] at hM
  refine Nrm.of hS hM ?_
  refine Nrm.next ?_
  refine Tri.seq ?_
  refine Tri.seq (Tri.region ?_)
  refine TOps.move rfl rfl ?_
  refine TOps.move rfl rfl ?_
  refine TOps.call (vs := [_, _]) Tryz.call12 ⟨rfl, rfl, trivial⟩ (intsN_g q2 q3 (by omega) (by omega)) rfl ?_
  rintro _ _ ⟨rfl, rfl⟩
  rw [show decide (p = p) = true from decide_eq_true rfl]
  refine TOps.not rfl rfl ?_
  refine TOps.move rfl rfl ?_
  refine TOps.strip 4 false rfl rfl rfl rfl ?_
  refine TOps.move rfl rfl ?_
  refine TOps.move rfl rfl ?_
  refine TOps.call (vs := [_, _]) Tryz.call12 ⟨rfl, rfl, trivial⟩ (intsN_g q1 q4 (by omega) (by omega)) rfl ?_
  rintro _ _ ⟨rfl, rfl⟩
  rw [show decide (l = l) = true from decide_eq_true rfl]
  refine TOps.not rfl rfl ?_
  refine TOps.pick rfl rfl rfl rfl ?_
  refine TOps.next ?_
  refine Tri.cond rfl (fun hc5 => ?_) (fun hc5 => ?_)
  · exact absurd hc5 (by first | decide | simp)
  try simp only [decide_eq_true_eq, decide_eq_false_iff_not, Bool.and_eq_true, Bool.or_eq_true, Bool.not_eq_true', Bool.and_eq_false_iff, Bool.or_eq_false_iff, Bool.not_eq_false', Int.not_lt, Int.not_le, ne_eq, Decidable.not_not, Option.isSome_iff_ne_none, Option.isNone_iff_eq_none] at hc5
  refine Tri.fin ?_
  refine Nrm.next ?_
  refine Tri.seq ?_
  refine Tri.seq (Tri.region ?_)
  refine TOps.move rfl rfl ?_
  refine TOps.len rfl Tryz.underlying35 rfl ?_
  refine TOps.move rfl rfl ?_
  refine TOps.next ?_
  refine Tri.range (X := Unit) (fun x k => [(2, .pointer (some ⟨b2, 0, none⟩)), (5, .pointer (some ⟨b5, 0, none⟩)), (12, slV a1 0 l.length c1), (14, slV a2 0 p.length c2), (129, slV a2 0 p.length c2)]) (fun x k => K) (fun x k => True) (by omega) rfl rfl rfl (fun _ _ => ⟨rfl, rfl, rfl, rfl⟩) () trivial ⟨rfl, rfl, rfl, rfl, rfl, trivial⟩ (by repeat (first | exact Le.refl _ | assumption | apply Le.drop)) (fun k x hlt hp => ?_) (fun x ac wc hp hS hM => ?_)
  · skip
    obtain ⟨rb, hra, hsp, hrk⟩ := nats_at q2 hlt
    have hpk := f2.lt _ (List.getElem_mem hlt)
    have hme := law_meets f1 f2 (List.getElem_mem hlt)
    refine Tri.seq (Tri.region ?_)
    refine TOps.indexAddr (b := rb) (off := 0) (m := p.length) (cap := c2) (off' := 0 + k) (by rw [hra]; rfl) rfl Tryz.underlying35 ti3 (by omega) (by omega) (by simp) rfl ?_
    refine TOps.load1 rfl ti3 hrk rfl ?_
    refine TOps.assign rfl rfl ?_
    refine TOps.next ?_
    refine Tri.seq (Tri.region ?_)
    refine TOps.move rfl rfl ?_
    refine TOps.move rfl rfl ?_
    refine TOps.call (vs := [_, _]) Tryz.call13 ⟨rfl, rfl, trivial⟩ (meets_g k1 hpk) rfl ?_
    rintro _ _ ⟨rfl, rfl⟩
    rw [hme]
    refine TOps.move rfl rfl ?_
    refine TOps.extract rfl rfl rfl ?_
    refine TOps.extract rfl rfl rfl ?_
    refine TOps.assign rfl rfl ?_
    refine TOps.assign rfl rfl ?_
    refine TOps.next ?_
    refine Tri.seq (Tri.region ?_)
    refine TOps.move rfl rfl ?_
    refine TOps.neqNil (T := 57) (o := none) rfl Tryz.underlying29 rfl ?_
    refine TOps.move rfl rfl ?_
    refine' TOps.orB 2 rfl rfl rfl rfl (fun hg27_2 => ?_) ?_; rotate_left
    · have hg27_2' := hg27_2
      try simp only [decide_eq_true_eq, decide_eq_false_iff_not, Bool.and_eq_true, Bool.or_eq_true, Bool.not_eq_true', Bool.and_eq_false_iff, Bool.or_eq_false_iff, Bool.not_eq_false', Int.not_lt, Int.not_le, ne_eq, Decidable.not_not] at hg27_2'
      refine TOps.strip 2 false rfl rfl hg27_2 rfl ?_
      refine TOps.move rfl rfl ?_
      refine TOps.not rfl rfl ?_
      refine TOps.blk rfl (by repeat (first | exact Ext.refl _ | refine Ext.cons rfl ?_)) (by repeat (first | exact Le.refl _ | apply Le.drop))
    refine TOps.next ?_
    refine Tri.cond rfl (fun hc6 => ?_) (fun hc6 => ?_)
    · exact absurd hc6 (by first | decide | simp)
    try simp only [decide_eq_true_eq, decide_eq_false_iff_not, Bool.and_eq_true, Bool.or_eq_true, Bool.not_eq_true', Bool.and_eq_false_iff, Bool.or_eq_false_iff, Bool.not_eq_false', Int.not_lt, Int.not_le, ne_eq, Decidable.not_not, Option.isSome_iff_ne_none, Option.isNone_iff_eq_none] at hc6
    refine Tri.fin ?_
    refine Nrm.body () trivial ⟨rfl, rfl, rfl, rfl, rfl, rfl, rfl, trivial⟩ (by repeat (first | exact Le.refl _ | assumption | apply Le.drop))
  refine Nrm.of hS hM ?_
  refine Nrm.next ?_
  refine Tri.seq (Tri.region ?_)
  refine TOps.move rfl rfl ?_
  refine TOps.move rfl rfl ?_
  refine TOps.call (vs := [_, _]) Tryz.call14 ⟨rfl, rfl, trivial⟩ (hdual_g k1 k2) rfl ?_
  rintro _ _ ⟨q', r', g1, g2, rfl, rfl⟩
  rw [show decide (q' = r') = true from decide_eq_true (law_hit f1 f2 g1 g2)]
  refine TOps.move rfl rfl ?_
  refine TOps.extract rfl rfl rfl ?_
  refine TOps.extract rfl rfl rfl ?_
  refine TOps.assign rfl rfl ?_
  refine TOps.assign rfl rfl ?_
  refine TOps.next ?_
  refine Tri.seq (Tri.region ?_)
  refine TOps.move rfl rfl ?_
  refine TOps.call (vs := [_]) Tryz.call8 ⟨rfl, trivial⟩ (large_g none) rfl ?_
  rintro _ _ ⟨rfl, rfl⟩
  refine TOps.move rfl rfl ?_
  refine' TOps.orB 5 rfl rfl rfl rfl (fun hg31_2 => ?_) ?_; rotate_left
  · have hg31_2' := hg31_2
    try simp only [decide_eq_true_eq, decide_eq_false_iff_not, Bool.and_eq_true, Bool.or_eq_true, Bool.not_eq_true', Bool.and_eq_false_iff, Bool.or_eq_false_iff, Bool.not_eq_false', Int.not_lt, Int.not_le, ne_eq, Decidable.not_not] at hg31_2'
    refine TOps.strip 2 false rfl rfl hg31_2 rfl ?_
    refine TOps.move rfl rfl ?_
    refine TOps.eqlNil (T := 57) (o := none) rfl Tryz.underlying29 rfl ?_
    refine TOps.move rfl rfl ?_
    refine' TOps.andB 1 rfl rfl rfl rfl (fun hg31_5 => ?_) ?_; rotate_left
    · have hg31_5' := hg31_5
      try simp only [decide_eq_true_eq, decide_eq_false_iff_not, Bool.and_eq_true, Bool.or_eq_true, Bool.not_eq_true', Bool.and_eq_false_iff, Bool.or_eq_false_iff, Bool.not_eq_false', Int.not_lt, Int.not_le, ne_eq, Decidable.not_not] at hg31_5'
      refine TOps.strip 5 true rfl rfl hg31_5 rfl ?_
      refine TOps.move rfl rfl ?_
      refine TOps.blk rfl (by repeat (first | exact Ext.refl _ | refine Ext.cons rfl ?_)) (by repeat (first | exact Le.refl _ | apply Le.drop))
    refine TOps.blk rfl (by repeat (first | exact Ext.refl _ | refine Ext.cons rfl ?_)) (by repeat (first | exact Le.refl _ | apply Le.drop))
  refine TOps.assign rfl rfl ?_
  refine TOps.next ?_
  refine Tri.ret1 (H' := H) Tryz.results3 (fun _ _ h => h) (.tmp rfl) lK ⟨rfl, rfl⟩
theorem wholeDualC_g {H : List Ent} {fv : Value} {F : Fm} (hF : RFC H fv F) (hk : F.ok) {x : Int} (hx : 0 ≤ x ∧ x ≤ 65535) :
    Gives Tryz.prog 3 [fv, .int .u16 x] H (R1 (.bool true) H) := by
  obtain ⟨n, rfl⟩ := Int.eq_ofNat_of_zero_le hx.1
  exact wholeDual0_g hF hk (by omega)
end Go.Proofs
