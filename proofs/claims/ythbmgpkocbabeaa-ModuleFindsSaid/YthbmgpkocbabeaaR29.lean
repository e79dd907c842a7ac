import Derived.Test.YthbmgpkocbabeaaQ29
namespace Go.Proofs
open Go.GL
set_option linter.unusedVariables false
set_option linter.unusedSimpArgs false
theorem intsN_g {H : List Ent} {xs ys : List Nat} {a1 s1 a2 s2 : Option Nat} {o1 c1 o2 c2 m1 m2 : Nat} (hr1 : RdS H a1 o1 (nats xs) s1) (hr2 : RdS H a2 o2 (nats ys) s2) (h1 : xs.length = m1) (h2 : ys.length = m2) (hm : m1 ≤ 1000000 ∧ m2 ≤ 1000000) :
    Gives Try.prog 23 [slV a1 o1 m1 c1 s1, slV a2 o2 m2 c2 s2] H (R1 (.bool (decide (xs = ys))) H) := by
  have e : ∀ l : List Nat, nats l = ints (l.map (fun (n : Nat) => (n : Int))) := fun l => by simp [nats, ints]
  have hq : ∀ l l' : List Nat, l.map (fun (n : Nat) => (n : Int)) = l'.map (fun (n : Nat) => (n : Int)) ↔ l = l' := fun l l' => ⟨fun h => (List.map_inj_right (fun x y h => by omega)).1 h, fun h => by rw [h]⟩
  subst h1 h2
  have h := ints_g (H := H) (xs := xs.map (fun (n : Nat) => (n : Int))) (ys := ys.map (fun (n : Nat) => (n : Int))) (c1 := c1) (c2 := c2) (by unfold RInts; rw [← e]; exact hr1) (by unfold RInts; rw [← e]; exact hr2) (by rw [List.length_map]; omega) (by rw [List.length_map]; omega)
  rw [List.length_map, List.length_map, decide_eq_decide.2 (hq xs ys)] at h
  exact h
theorem moduleFinds_g {H : List Ent} {fv : Value} {F : Fm} (hF : RF H fv F) (hk : F.ok) :
    Gives Try.prog 6 [fv] H (R1 (.bool true) H) := by
  have hF0 := hF
  obtain ⟨na, off, ncap, nsp, rfl, hN⟩ := hF
  refine Gives.enter Try.func6 rfl (by exact Try.ntmps6) rfl ?_
  refine Tri.seq (Tri.region ?_)
  refine TOps.boxN rfl ti24 rfl rfl (fun b1 => ?_)
  refine TOps.hide (fun H1 l1 s1 r1 => ?_)
  replace hF0 := hF0.le l1
  refine TOps.assign rfl rfl ?_
  refine TOps.next ?_
  refine Tri.seq ?_
  refine Tri.seq (Tri.region ?_)
  refine TOps.call (vs := []) Try.call9 trivial (awake29_g) rfl ?_
  rintro _ _ ⟨rfl, rfl⟩
  refine TOps.not rfl rfl ?_
  refine TOps.move rfl rfl ?_
  refine' TOps.orB 2 rfl rfl rfl rfl (fun hg1_2 => ?_) ?_; rotate_left
  · have hg1_2' := hg1_2
    try simp only [decide_eq_true_eq, decide_eq_false_iff_not, Bool.and_eq_true, Bool.or_eq_true, Bool.not_eq_true', Bool.and_eq_false_iff, Bool.or_eq_false_iff, Bool.not_eq_false', Int.not_lt, Int.not_le, ne_eq, Decidable.not_not] at hg1_2'
    refine TOps.strip 2 false rfl rfl hg1_2 rfl ?_
    refine TOps.loadN rfl ti24 (by first | exact Rd.all (by repeat (first | exact List.Mem.head _ | apply List.Mem.tail)) | (repeat (first | assumption | apply Rd.up))) rfl rfl ?_
    refine TOps.call (vs := [_]) Try.call10 ⟨rfl, trivial⟩ (heavy_g hF0 hk) rfl ?_
    rintro _ _ ⟨rfl, rfl⟩
    refine TOps.blk rfl (by repeat (first | exact Ext.refl _ | refine Ext.cons rfl ?_)) (by repeat (first | exact Le.refl _ | apply Le.drop))
  refine TOps.next ?_
  refine Tri.cond rfl (fun hc1 => ?_) (fun hc1 => ?_)
  · try simp only [decide_eq_true_eq, decide_eq_false_iff_not, Bool.and_eq_true, Bool.or_eq_true, Bool.not_eq_true', Bool.and_eq_false_iff, Bool.or_eq_false_iff, Bool.not_eq_false', Int.not_lt, Int.not_le, ne_eq, Decidable.not_not, Option.isSome_iff_ne_none, Option.isNone_iff_eq_none] at hc1
    refine Tri.seq (Tri.region ?_)
    refine TOps.call (vs := []) Try.call9 trivial (awake29_g) rfl ?_
    rintro _ _ ⟨rfl, rfl⟩
    refine TOps.assign rfl rfl ?_
    refine TOps.next ?_
    refine Tri.ret1 (H' := H) Try.results6 (fun _ _ h => h) (.tmp rfl) l1 ⟨rfl, rfl⟩
  try simp only [decide_eq_true_eq, decide_eq_false_iff_not, Bool.and_eq_true, Bool.or_eq_true, Bool.not_eq_true', Bool.and_eq_false_iff, Bool.or_eq_false_iff, Bool.not_eq_false', Int.not_lt, Int.not_le, ne_eq, Decidable.not_not, Option.isSome_iff_ne_none, Option.isNone_iff_eq_none] at hc1
  refine Tri.fin ?_
  refine Nrm.next ?_
  refine Tri.seq (Tri.region ?_)
  refine TOps.loadN rfl ti24 (by first | exact Rd.all (by repeat (first | exact List.Mem.head _ | apply List.Mem.tail)) | (repeat (first | assumption | apply Rd.up))) rfl rfl ?_
  refine TOps.call (vs := [_]) Try.call12 ⟨rfl, trivial⟩ (find_g hF0 hk) rfl ?_
  rintro _ _ ⟨xs, la, lcap, hxs, rfl, hla, rfl⟩
  have hlr : RdS (row la 3 1 lcap (nats xs) :: H1) la 0 (nats xs) := RdS.ofRowA (List.Mem.head _) hla
  replace hF0 := hF0.le (Le.drop (e := row la 3 1 lcap (nats xs)) (Le.refl _)); replace r1 := r1.up (e := row la 3 1 lcap (nats xs))
  have l2 : Le (row la 3 1 lcap (nats xs) :: H1) H := Le.drop l1
  generalize row la 3 1 lcap (nats xs) :: H1 = H2 at *
  refine TOps.move rfl rfl ?_
  refine TOps.extract rfl rfl rfl ?_
  refine TOps.extract rfl rfl rfl ?_
  refine TOps.assign rfl rfl ?_
  refine TOps.assign rfl rfl ?_
  refine TOps.next ?_
  refine Tri.seq (Tri.region ?_)
  refine TOps.loadN rfl ti24 (by first | exact Rd.all (by repeat (first | exact List.Mem.head _ | apply List.Mem.tail)) | (repeat (first | assumption | apply Rd.up))) rfl rfl ?_
  refine TOps.call (vs := [_]) Try.call22 ⟨rfl, trivial⟩ (proper_g hF0 hk) rfl ?_
  rintro _ _ ⟨ys, ma, mcap, hys, rfl, hma, rfl⟩
  have hmr : RdS (row ma 3 1 mcap (nats ys) :: H2) ma 0 (nats ys) := RdS.ofRowA (List.Mem.head _) hma
  replace hF0 := hF0.le (Le.drop (e := row ma 3 1 mcap (nats ys)) (Le.refl _)); replace r1 := r1.up (e := row ma 3 1 mcap (nats ys)); replace hlr := RdS.up (e := row ma 3 1 mcap (nats ys)) hlr
  have l3 : Le (row ma 3 1 mcap (nats ys) :: H2) H := Le.drop l2
  generalize row ma 3 1 mcap (nats ys) :: H2 = H3 at *
  refine TOps.move rfl rfl ?_
  refine TOps.extract rfl rfl rfl ?_
  refine TOps.extract rfl rfl rfl ?_
  refine TOps.assign rfl rfl ?_
  refine TOps.assign rfl rfl ?_
  refine TOps.next ?_
  refine Tri.seq ?_
  refine Tri.seq (Tri.region ?_)
  refine TOps.loadN rfl ti24 (by first | exact Rd.all (by repeat (first | exact List.Mem.head _ | apply List.Mem.tail)) | (repeat (first | assumption | apply Rd.up))) rfl rfl ?_
  refine TOps.call (vs := [_]) Try.call15 ⟨rfl, trivial⟩ (rcheck_g hF0 hk) rfl ?_
  rintro _ _ ⟨rfl, rfl⟩
  refine TOps.assign rfl rfl ?_
  refine TOps.next ?_
  refine Tri.seq (Tri.region ?_)
  refine TOps.move rfl rfl ?_
  refine TOps.neqI rfl rfl rfl ?_
  refine TOps.next ?_
  refine Tri.cond rfl (fun hc2 => ?_) (fun hc2 => ?_)
  · try simp only [decide_eq_true_eq, decide_eq_false_iff_not, Bool.and_eq_true, Bool.or_eq_true, Bool.not_eq_true', Bool.and_eq_false_iff, Bool.or_eq_false_iff, Bool.not_eq_false', Int.not_lt, Int.not_le, ne_eq, Decidable.not_not, Option.isSome_iff_ne_none, Option.isNone_iff_eq_none] at hc2
    obtain ⟨e, he⟩ : ∃ e, F.err = some e := by
      cases h : F.err with
      | none => rw [h] at hc2; exact absurd rfl hc2
      | some e => exact ⟨e, rfl⟩
    obtain rfl : xs = [] := by rw [hxs, he]; rfl
    obtain rfl : ys = [] := by rw [hys, he]; rfl
    refine Tri.seq (Tri.region ?_)
    refine TOps.move rfl rfl ?_
    refine TOps.call (vs := [_]) Try.call16 ⟨rfl, trivial⟩ (num_g F.err) rfl ?_
    rintro _ _ ⟨rfl, rfl⟩
    refine TOps.move rfl rfl ?_
    refine TOps.eqlI rfl rfl rfl ?_
    refine TOps.move rfl rfl ?_
    refine' TOps.andB 4 rfl rfl rfl rfl (fun hg7_4 => ?_) ?_; rotate_left
    · have hg7_4' := hg7_4
      try simp only [decide_eq_true_eq, decide_eq_false_iff_not, Bool.and_eq_true, Bool.or_eq_true, Bool.not_eq_true', Bool.and_eq_false_iff, Bool.or_eq_false_iff, Bool.not_eq_false', Int.not_lt, Int.not_le, ne_eq, Decidable.not_not] at hg7_4'
      refine TOps.strip 4 true rfl rfl hg7_4 rfl ?_
      refine TOps.move rfl rfl ?_
      refine TOps.call (vs := [_]) Try.call16 ⟨rfl, trivial⟩ (num_g F.err) rfl ?_
      rintro _ _ ⟨rfl, rfl⟩
      refine TOps.move rfl rfl ?_
      refine TOps.eqlI rfl rfl rfl ?_
      refine TOps.blk rfl (by repeat (first | exact Ext.refl _ | refine Ext.cons rfl ?_)) (by repeat (first | exact Le.refl _ | apply Le.drop))
    refine TOps.move rfl rfl ?_
    refine' TOps.andB 6 rfl rfl rfl rfl (fun hg7_10 => ?_) ?_; rotate_left
    · have hg7_10' := hg7_10
      try simp only [decide_eq_true_eq, decide_eq_false_iff_not, Bool.and_eq_true, Bool.or_eq_true, Bool.not_eq_true', Bool.and_eq_false_iff, Bool.or_eq_false_iff, Bool.not_eq_false', Int.not_lt, Int.not_le, ne_eq, Decidable.not_not] at hg7_10'
      refine TOps.strip 10 true rfl rfl hg7_10 rfl ?_
      refine TOps.move rfl rfl ?_
      refine TOps.len rfl Try.underlying30 rfl ?_
      refine TOps.move rfl rfl ?_
      refine TOps.len rfl Try.underlying30 rfl ?_
      refine TOps.add (r := 0) rfl rfl (show IntKind.i64.wrap 0 = 0 from wrapI (by omega) (by omega)) rfl ?_
      refine TOps.eqlI rfl rfl rfl ?_
      refine TOps.blk rfl (by repeat (first | exact Ext.refl _ | refine Ext.cons rfl ?_)) (by repeat (first | exact Le.refl _ | apply Le.drop))
    refine TOps.assign rfl rfl ?_
    refine TOps.next ?_
    refine Tri.ret1 (H' := H) Try.results6 (fun _ _ h => h) (.tmp rfl) l3 ⟨by simp, rfl⟩
  try simp only [decide_eq_true_eq, decide_eq_false_iff_not, Bool.and_eq_true, Bool.or_eq_true, Bool.not_eq_true', Bool.and_eq_false_iff, Bool.or_eq_false_iff, Bool.not_eq_false', Int.not_lt, Int.not_le, ne_eq, Decidable.not_not, Option.isSome_iff_ne_none, Option.isNone_iff_eq_none] at hc2
  have he : F.err = none := Fm.err_of hc2
  have hg := (Fm.good_iff F).1 he
  have g0 := hg.v0; have g1 := hg.v1; have g2 := hg.n1; have gt := hg.topLt
  obtain rfl : xs = F.find := by rw [hxs, he]; rfl
  obtain rfl : ys = F.proper := by rw [hys, he]; rfl
  have hfl := F.find_len
  have hpl : F.proper.length ≤ F.find.length := List.length_filter_le _ _
  rw [he]
  refine Tri.fin ?_
  refine Nrm.next ?_
  refine Tri.seq (Tri.region ?_)
  refine TOps.move rfl rfl ?_
  refine TOps.eqlNil (T := 43) (o := none) rfl Try.underlying28 rfl ?_
  refine TOps.move rfl rfl ?_
  refine' TOps.andB 2 rfl rfl rfl rfl (fun hg8_2 => ?_) ?_; rotate_left
  · have hg8_2' := hg8_2
    try simp only [decide_eq_true_eq, decide_eq_false_iff_not, Bool.and_eq_true, Bool.or_eq_true, Bool.not_eq_true', Bool.and_eq_false_iff, Bool.or_eq_false_iff, Bool.not_eq_false', Int.not_lt, Int.not_le, ne_eq, Decidable.not_not] at hg8_2'
    refine TOps.strip 2 true rfl rfl hg8_2 rfl ?_
    refine TOps.move rfl rfl ?_
    refine TOps.eqlNil (T := 43) (o := none) rfl Try.underlying28 rfl ?_
    refine TOps.blk rfl (by repeat (first | exact Ext.refl _ | refine Ext.cons rfl ?_)) (by repeat (first | exact Le.refl _ | apply Le.drop))
  refine TOps.move rfl rfl ?_
  refine' TOps.andB 4 rfl rfl rfl rfl (fun hg8_6 => ?_) ?_; rotate_left
  · have hg8_6' := hg8_6
    try simp only [decide_eq_true_eq, decide_eq_false_iff_not, Bool.and_eq_true, Bool.or_eq_true, Bool.not_eq_true', Bool.and_eq_false_iff, Bool.or_eq_false_iff, Bool.not_eq_false', Int.not_lt, Int.not_le, ne_eq, Decidable.not_not] at hg8_6'
    refine TOps.strip 6 true rfl rfl hg8_6 rfl ?_
    refine TOps.move rfl rfl ?_
    refine TOps.loadN rfl ti24 (by first | exact Rd.all (by repeat (first | exact List.Mem.head _ | apply List.Mem.tail)) | (repeat (first | assumption | apply Rd.up))) rfl rfl ?_
    refine TOps.call (vs := [_]) Try.call24 ⟨rfl, trivial⟩ (rfind_g hF0 hk hg) rfl ?_
    rintro _ _ ⟨qa, qcap, rfl, hqa, rfl⟩
    refine TOps.call (vs := [_, _]) Try.call23 ⟨rfl, rfl, trivial⟩ (intsN_g (RdS.up hlr) (RdS.ofRowA (List.Mem.head _) hqa) rfl rfl (by omega)) rfl ?_
    rintro _ _ ⟨rfl, rfl⟩
    rw [show decide (F.find = F.find) = true from decide_eq_true rfl]
    refine TOps.blk rfl (by repeat (first | exact Ext.refl _ | refine Ext.cons rfl ?_)) (by repeat (first | exact Le.refl _ | apply Le.drop))
  refine TOps.move rfl rfl ?_
  refine' TOps.andB 4 rfl rfl rfl rfl (fun hg8_12 => ?_) ?_; rotate_left
  · have hg8_12' := hg8_12
    try simp only [decide_eq_true_eq, decide_eq_false_iff_not, Bool.and_eq_true, Bool.or_eq_true, Bool.not_eq_true', Bool.and_eq_false_iff, Bool.or_eq_false_iff, Bool.not_eq_false', Int.not_lt, Int.not_le, ne_eq, Decidable.not_not] at hg8_12'
    refine TOps.strip 12 true rfl rfl hg8_12 rfl ?_
    refine TOps.move rfl rfl ?_
    refine TOps.loadN rfl ti24 (by first | exact Rd.all (by repeat (first | exact List.Mem.head _ | apply List.Mem.tail)) | (repeat (first | assumption | apply Rd.up))) rfl rfl ?_
    refine TOps.call (vs := [_]) Try.call25 ⟨rfl, trivial⟩ (rproper_g hF0 hk hg) rfl ?_
    rintro _ _ ⟨ra, rcap, rfl, hra, rfl⟩
    refine TOps.call (vs := [_, _]) Try.call23 ⟨rfl, rfl, trivial⟩ (intsN_g (RdS.up hmr) (RdS.ofRowA (List.Mem.head _) hra) rfl rfl (by omega)) rfl ?_
    rintro _ _ ⟨rfl, rfl⟩
    rw [show decide (F.proper = F.proper) = true from decide_eq_true rfl]
    refine TOps.blk rfl (by repeat (first | exact Ext.refl _ | refine Ext.cons rfl ?_)) (by repeat (first | exact Le.refl _ | apply Le.drop))
  refine TOps.assign rfl rfl ?_
  refine TOps.next ?_
  refine Tri.ret1 (H' := H) Try.results6 (fun _ _ h => h) (.tmp rfl) l3 ⟨rfl, rfl⟩
end Go.Proofs
