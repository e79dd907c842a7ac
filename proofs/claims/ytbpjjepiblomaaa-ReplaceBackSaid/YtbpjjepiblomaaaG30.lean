import Derived.Test.YtbpjjepiblomaaaF30
namespace Go.Proofs
open Go.GL
set_option linter.unusedVariables false
set_option linter.unusedSimpArgs false
theorem heavys_g {H : List Ent} {a sp : Option Nat} {off cap : Nat} {Fs : List Fm} (hr : RFs H a off Fs sp) (hl : Fs.length ≤ 9223372036854775807) (hk : ∀ (i : Nat) (hi : i < Fs.length), Fs[i].ok) :
    Gives Try.prog 17 [slV a off Fs.length cap sp] H (R1 (.bool (heavyFs Fs)) H) := by
  refine Gives.enter Try.func17 rfl (by exact Try.ntmps17) rfl ?_
  refine Tri.seq (Tri.region ?_)
  refine TOps.assign rfl rfl ?_
  refine TOps.next ?_
  refine Tri.seq ?_
  refine Tri.seq (Tri.region ?_)
  refine TOps.move rfl rfl ?_
  refine TOps.len rfl Try.underlying38 rfl ?_
  refine TOps.move rfl rfl ?_
  refine TOps.next ?_
  refine Tri.range (X := Unit) (fun x k => [(0, slV a off Fs.length cap sp), (5, slV a off Fs.length cap sp)]) (fun x k => H) (fun x k => ∀ i (hi : i < Fs.length), i < k → Fs[i].heavy = false) (by omega) rfl rfl rfl (fun _ _ => ⟨rfl, rfl, rfl, rfl⟩) () (by intro i _ h; omega) ⟨rfl, rfl, trivial⟩ (by repeat (first | exact Le.refl _ | assumption | apply Le.drop)) (fun k x hlt hp => ?_) (fun x ac wc hp hS hM => ?_)
  · skip
    obtain ⟨fb, na, no, nc, ns, rfl, rfl, hc, hN⟩ := hr.at hlt
    have hkk := hk k hlt
    refine Tri.seq (Tri.region ?_)
    refine TOps.indexAddr (off' := off + k * 3) rfl rfl Try.underlying38 ti24 (by omega) (by omega) (by simp) rfl ?_
    refine TOps.loadN (vs := [.int .i64 Fs[k].vars, slV na no Fs[k].nodes.length nc ns, .int .i64 Fs[k].top]) rfl ti24 (by repeat (first | exact hc | apply Rd.up)) rfl rfl ?_
    refine TOps.alloc ti24 rfl (fun b4 => ?_)
    refine TOps.storeN rfl rfl ti24 rfl rfl (by repeat (first | exact Upd.here | apply Upd.there)) (by first | decide | (simp; done) | (simp; omega)) ?_
    refine TOps.next ?_
    refine Tri.seq (Tri.region ?_)
    refine TOps.loadN rfl ti24 (by first | exact Rd.all (by repeat (first | exact List.Mem.head _ | apply List.Mem.tail)) | (repeat (first | assumption | apply Rd.up))) rfl rfl ?_
    refine TOps.call (vs := [_]) Try.call11 ⟨rfl, trivial⟩ (heavy_g (F := Fs[k]) ⟨na, no, nc, ns, rfl, hN.le (Le.drop (Le.refl _))⟩ hkk) rfl ?_
    rintro _ _ ⟨rfl, rfl⟩
    refine TOps.next ?_
    refine Tri.cond rfl (fun hc1 => ?_) (fun hc1 => ?_)
    · try simp only [decide_eq_true_eq, decide_eq_false_iff_not, Bool.and_eq_true, Bool.or_eq_true, Bool.not_eq_true', Bool.and_eq_false_iff, Bool.or_eq_false_iff, Bool.not_eq_false', Int.not_lt, Int.not_le, ne_eq, Decidable.not_not, Option.isSome_iff_ne_none, Option.isNone_iff_eq_none] at hc1
      refine Tri.seq (Tri.region ?_)
      refine TOps.assign rfl rfl ?_
      refine TOps.next ?_
      refine Tri.ret1 (H' := H) Try.results17 (fun _ _ h => h) (.tmp rfl) (Le.drop (Le.refl _)) ⟨by unfold heavyFs; rw [show Fs.any Fm.heavy = true from List.any_eq_true.2 ⟨_, List.getElem_mem hlt, hc1⟩]; rfl, rfl⟩
    try simp only [decide_eq_true_eq, decide_eq_false_iff_not, Bool.and_eq_true, Bool.or_eq_true, Bool.not_eq_true', Bool.and_eq_false_iff, Bool.or_eq_false_iff, Bool.not_eq_false', Int.not_lt, Int.not_le, ne_eq, Decidable.not_not, Option.isSome_iff_ne_none, Option.isNone_iff_eq_none] at hc1
    refine Tri.fin ?_
    refine Nrm.body () (by intro i hi h; rcases Nat.lt_succ_iff_lt_or_eq.1 h with h | rfl; exact hp i hi h; exact hc1) ⟨rfl, rfl, rfl, rfl, trivial⟩ (by repeat (first | exact Le.refl _ | assumption | apply Le.drop))
  have hany : Fs.any Fm.heavy = false := by
    rw [List.any_eq_false]
    intro x hx
    obtain ⟨i, hi, rfl⟩ := List.getElem_of_mem hx
    rw [hp i hi hi]; simp
  refine Nrm.of hS hM ?_
  refine Nrm.next ?_
  refine Tri.seq (Tri.region ?_)
  refine TOps.move rfl rfl ?_
  refine TOps.len rfl Try.underlying38 rfl ?_
  refine TOps.gtr rfl rfl rfl ?_
  refine TOps.assign rfl rfl ?_
  refine TOps.next ?_
  refine Tri.ret1 (H' := H) Try.results17 (fun _ _ h => h) (.tmp rfl) (Le.refl _) ⟨by unfold heavyFs; rw [hany, Bool.false_or]; congr 1; simp; omega, rfl⟩
theorem replacePuts_g {H : List Ent} {ov iv : Value} {O I : Fm} (hO : RF H ov O) (hkO : O.ok) (hI : RF H iv I) (hkI : I.ok) :
    Gives Try.prog 4 [ov, iv] H (R1 (.bool true) H) := by
  have hO0 := hO
  have hI0 := hI
  obtain ⟨oa, oo, oc, os, rfl, hNO⟩ := hO
  obtain ⟨ia, io, ic, is, rfl, hNI⟩ := hI
  have hsm := Fm.putF_small hkO hkI
  refine Gives.enter Try.func4 rfl (by exact Try.ntmps4) rfl ?_
  refine Tri.seq (Tri.region ?_)
  refine TOps.boxN rfl ti24 rfl rfl (fun b2 => ?_)
  refine TOps.hide (fun H1 l1 s1 r1 => ?_)
  replace hO0 := hO0.le l1; replace hI0 := hI0.le l1; replace hNO := hNO.le l1; replace hNI := hNI.le l1
  refine TOps.boxN rfl ti24 rfl rfl (fun b3 => ?_)
  refine TOps.hide (fun H2 l2 s2 r2 => ?_)
  replace hO0 := hO0.le l2; replace hI0 := hI0.le l2; replace hNO := hNO.le l2; replace hNI := hNI.le l2; replace r1 := r1.le l2; have l3 := l2.trans l1
  refine TOps.assign rfl rfl ?_
  refine TOps.next ?_
  refine Tri.seq ?_
  refine Tri.seq (Tri.region ?_)
  refine TOps.call (vs := []) Try.call10 trivial (awake30_g) rfl ?_
  rintro _ _ ⟨rfl, rfl⟩
  refine TOps.not rfl rfl ?_
  refine TOps.move rfl rfl ?_
  refine' TOps.orB 4 rfl rfl rfl rfl (fun hg1_2 => ?_) ?_; rotate_left
  · have hg1_2' := hg1_2
    try simp only [decide_eq_true_eq, decide_eq_false_iff_not, Bool.and_eq_true, Bool.or_eq_true, Bool.not_eq_true', Bool.and_eq_false_iff, Bool.or_eq_false_iff, Bool.not_eq_false', Int.not_lt, Int.not_le, ne_eq, Decidable.not_not] at hg1_2'
    refine TOps.strip 2 false rfl rfl hg1_2 rfl ?_
    refine TOps.loadN rfl ti24 (by first | exact Rd.all (by repeat (first | exact List.Mem.head _ | apply List.Mem.tail)) | (repeat (first | assumption | apply Rd.up))) rfl rfl ?_
    refine TOps.loadN rfl ti24 (by first | exact Rd.all (by repeat (first | exact List.Mem.head _ | apply List.Mem.tail)) | (repeat (first | assumption | apply Rd.up))) rfl rfl ?_
    refine TOps.buildSlice (vs := [_, _]) (xs := [_, _, _, _, _, _]) Try.underlying38 ti24 ⟨rfl, rfl, rfl, rfl, trivial⟩ rfl rfl rfl rfl rfl rfl (by decide) rfl (fun b14 => ?_)
    refine TOps.call (vs := [_]) Try.call17 ⟨rfl, trivial⟩ (heavys_g (Fs := [O, I]) (RFs.two (List.Mem.head _) (hNO.le (Le.drop (Le.refl _))) (hNI.le (Le.drop (Le.refl _)))) (by simp) (by intro i hi; rcases i with _ | _ | i; exact hkO; exact hkI; simp at hi; omega)) rfl ?_
    rintro _ _ ⟨rfl, rfl⟩
    refine TOps.blk rfl (by repeat (first | exact Ext.refl _ | refine Ext.cons rfl ?_)) (by repeat (first | exact Le.refl _ | apply Le.drop))
  refine TOps.next ?_
  refine Tri.cond rfl (fun hc1 => ?_) (fun hc1 => ?_)
  · try simp only [decide_eq_true_eq, decide_eq_false_iff_not, Bool.and_eq_true, Bool.or_eq_true, Bool.not_eq_true', Bool.and_eq_false_iff, Bool.or_eq_false_iff, Bool.not_eq_false', Int.not_lt, Int.not_le, ne_eq, Decidable.not_not, Option.isSome_iff_ne_none, Option.isNone_iff_eq_none] at hc1
    refine Tri.seq (Tri.region ?_)
    refine TOps.call (vs := []) Try.call10 trivial (awake30_g) rfl ?_
    rintro _ _ ⟨rfl, rfl⟩
    refine TOps.assign rfl rfl ?_
    refine TOps.next ?_
    refine Tri.ret1 (H' := H) Try.results4 (fun _ _ h => h) (.tmp rfl) l3 ⟨rfl, rfl⟩
  try simp only [decide_eq_true_eq, decide_eq_false_iff_not, Bool.and_eq_true, Bool.or_eq_true, Bool.not_eq_true', Bool.and_eq_false_iff, Bool.or_eq_false_iff, Bool.not_eq_false', Int.not_lt, Int.not_le, ne_eq, Decidable.not_not, Option.isSome_iff_ne_none, Option.isNone_iff_eq_none] at hc1
  refine Tri.fin ?_
  refine Nrm.next ?_
  refine Tri.seq (Tri.region ?_)
  refine TOps.loadN rfl ti24 (by first | exact Rd.all (by repeat (first | exact List.Mem.head _ | apply List.Mem.tail)) | (repeat (first | assumption | apply Rd.up))) rfl rfl ?_
  refine TOps.loadN rfl ti24 (by first | exact Rd.all (by repeat (first | exact List.Mem.head _ | apply List.Mem.tail)) | (repeat (first | assumption | apply Rd.up))) rfl rfl ?_
  refine TOps.call (vs := [_, _]) Try.call18 ⟨rfl, rfl, trivial⟩ (put_g hO0 hI0 hkO hkI) rfl ?_
  rintro _ H3 ⟨pv, rfl, l4, s4, hP⟩
  have hP0 := hP
  obtain ⟨pa, po, pc, ps, rfl, hPN⟩ := hP
  replace hO0 := hO0.le l4; replace hI0 := hI0.le l4; replace r1 := r1.le l4; replace r2 := r2.le l4
  generalize hGF : O.putF I = G at *
  generalize hGE : O.putErr I = e at *
  refine TOps.move rfl rfl ?_
  refine TOps.extract rfl rfl rfl ?_
  refine TOps.extract rfl rfl rfl ?_
  refine TOps.alloc ti24 rfl (fun b5 => ?_)
  refine TOps.storeN rfl rfl ti24 rfl rfl (by repeat (first | exact Upd.here | apply Upd.there)) (by first | decide | (simp; done) | (simp; omega)) ?_
  refine TOps.hide (fun H4 l5 s5 r3 => ?_)
  replace r3 : Rd H4 b5 0 [.int .i64 G.vars, slV pa po G.nodes.length pc ps, .int .i64 G.top] := r3
  replace hP0 := hP0.le l5; replace hO0 := hO0.le l5; replace hI0 := hI0.le l5; replace r1 := r1.le l5; replace r2 := r2.le l5
  refine TOps.assign rfl rfl ?_
  refine TOps.next ?_
  refine Tri.seq (Tri.region ?_)
  refine TOps.loadN rfl ti24 (by first | exact Rd.all (by repeat (first | exact List.Mem.head _ | apply List.Mem.tail)) | (repeat (first | assumption | apply Rd.up))) rfl rfl ?_
  refine TOps.loadN rfl ti24 (by first | exact Rd.all (by repeat (first | exact List.Mem.head _ | apply List.Mem.tail)) | (repeat (first | assumption | apply Rd.up))) rfl rfl ?_
  refine TOps.call (vs := [_, _]) Try.call19 ⟨rfl, rfl, trivial⟩ (rput_g hO0 hI0 hkO hkI) rfl ?_
  rintro _ H5 ⟨qv, rfl, l6, s6, hQ⟩
  rw [hGE]
  rw [hGF] at hQ
  have hQ0 := hQ
  obtain ⟨qa, qo, qc, qs, rfl, hQN⟩ := hQ
  replace hP0 := hP0.le l6; replace r3 := r3.le l6
  refine TOps.move rfl rfl ?_
  refine TOps.extract rfl rfl rfl ?_
  refine TOps.extract rfl rfl rfl ?_
  refine TOps.alloc ti24 rfl (fun b7 => ?_)
  refine TOps.storeN rfl rfl ti24 rfl rfl (by repeat (first | exact Upd.here | apply Upd.there)) (by first | decide | (simp; done) | (simp; omega)) ?_
  refine TOps.hide (fun H6 l7 s7 r4 => ?_)
  replace r4 : Rd H6 b7 0 [.int .i64 G.vars, slV qa qo G.nodes.length qc qs, .int .i64 G.top] := r4
  replace hP0 := hP0.le l7; replace r3 := r3.le l7; replace hQ0 := hQ0.le l7
  have hL : Le H6 H := l7.trans (l6.trans (l5.trans (l4.trans l3)))
  refine TOps.assign rfl rfl ?_
  refine TOps.next ?_
  refine Tri.seq (Tri.region ?_)
  refine TOps.move rfl rfl ?_
  refine TOps.call (vs := [_]) Try.call14 ⟨rfl, trivial⟩ (num_g e) rfl ?_
  rintro _ _ ⟨rfl, rfl⟩
  refine TOps.move rfl rfl ?_
  refine TOps.eqlI rfl rfl rfl ?_
  refine TOps.move rfl rfl ?_
  refine' TOps.andB 3 rfl rfl rfl rfl (fun hg5_4 => ?_) ?_; rotate_left
  · have hg5_4' := hg5_4
    try simp only [decide_eq_true_eq, decide_eq_false_iff_not, Bool.and_eq_true, Bool.or_eq_true, Bool.not_eq_true', Bool.and_eq_false_iff, Bool.or_eq_false_iff, Bool.not_eq_false', Int.not_lt, Int.not_le, ne_eq, Decidable.not_not] at hg5_4'
    refine TOps.strip 4 true rfl rfl hg5_4 rfl ?_
    refine TOps.loadN rfl ti24 (by first | exact Rd.all (by repeat (first | exact List.Mem.head _ | apply List.Mem.tail)) | (repeat (first | assumption | apply Rd.up))) rfl rfl ?_
    refine TOps.loadN rfl ti24 (by first | exact Rd.all (by repeat (first | exact List.Mem.head _ | apply List.Mem.tail)) | (repeat (first | assumption | apply Rd.up))) rfl rfl ?_
    refine TOps.call (vs := [_, _]) Try.call15 ⟨rfl, rfl, trivial⟩ (formulaEq_g hP0 hQ0 hsm.1 hsm.2 hsm.2) rfl ?_
    rintro _ _ ⟨rfl, rfl⟩
    refine TOps.blk rfl (by repeat (first | exact Ext.refl _ | refine Ext.cons rfl ?_)) (by repeat (first | exact Le.refl _ | apply Le.drop))
  refine TOps.assign rfl rfl ?_
  refine TOps.next ?_
  refine Tri.ret1 (H' := H) Try.results4 (fun _ _ h => h) (.tmp rfl) hL ⟨by simp, rfl⟩
end Go.Proofs
