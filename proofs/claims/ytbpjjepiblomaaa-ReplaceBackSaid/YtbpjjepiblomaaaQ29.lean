import Derived.Test.YtbpjjepiblomaaaP29
namespace Go.Proofs
open Go.GL
set_option linter.unusedVariables false
set_option linter.unusedSimpArgs false
theorem proper_g {H : List Ent} {fv : Value} {F : Fm} (hF : RF H fv F) (hk : F.ok) :
    Gives Try.prog 24 [fv] H (fun u H' => ∃ xs a cap, xs = (bif F.err.isNone then F.proper else []) ∧ u = .tuple (List.toArray [slV a 0 xs.length cap, errV 45 F.err]) ∧ (nats xs ≠ [] → ∃ b, a = some b) ∧ row a 3 1 cap (nats xs) :: H = H') := by
  have hF0 := hF
  obtain ⟨na, off, ncap, nsp, rfl, hN⟩ := hF
  refine Gives.enter Try.func24 rfl (by exact Try.ntmps24) rfl ?_
  refine Tri.seq (Tri.region ?_)
  refine TOps.boxN rfl ti24 rfl rfl (fun b1 => ?_)
  refine TOps.hide (fun H1 l1 s1 r1 => ?_)
  replace hF0 := hF0.le l1
  refine TOps.assign rfl rfl ?_
  refine TOps.assign rfl rfl ?_
  refine TOps.next ?_
  refine Tri.seq (Tri.region ?_)
  refine TOps.loadN rfl ti24 (by first | exact Rd.all (by repeat (first | exact List.Mem.head _ | apply List.Mem.tail)) | (repeat (first | assumption | apply Rd.up))) rfl rfl ?_
  refine TOps.call (vs := [_]) Try.call26 ⟨rfl, trivial⟩ (find_g hF0 hk) rfl ?_
  rintro _ _ ⟨xs, la, lcap, hxs, rfl, hla, rfl⟩
  have hlr : RdS (row la 3 1 lcap (nats xs) :: H1) la 0 (nats xs) := RdS.ofRowA (List.Mem.head _) hla
  replace hF0 := hF0.le (Le.drop (e := row la 3 1 lcap (nats xs)) (Le.refl _)); replace r1 := r1.up (e := row la 3 1 lcap (nats xs))
  have l2 : Le (row la 3 1 lcap (nats xs) :: H1) H := Le.drop l1
  have s2 : H.Sublist (row la 3 1 lcap (nats xs) :: H1) := s1.cons _
  generalize row la 3 1 lcap (nats xs) :: H1 = H2 at *
  refine TOps.move rfl rfl ?_
  refine TOps.extract rfl rfl rfl ?_
  refine TOps.extract rfl rfl rfl ?_
  refine TOps.assign rfl rfl ?_
  refine TOps.assign rfl rfl ?_
  refine TOps.next ?_
  refine Tri.seq ?_
  refine Tri.seq (Tri.region ?_)
  refine TOps.move rfl rfl ?_
  refine TOps.neqNil rfl Try.underlying28 rfl ?_
  refine TOps.next ?_
  refine Tri.cond rfl (fun hc1 => ?_) (fun hc1 => ?_)
  · try simp only [decide_eq_true_eq, decide_eq_false_iff_not, Bool.and_eq_true, Bool.or_eq_true, Bool.not_eq_true', Bool.and_eq_false_iff, Bool.or_eq_false_iff, Bool.not_eq_false', Int.not_lt, Int.not_le, ne_eq, Decidable.not_not, Option.isSome_iff_ne_none, Option.isNone_iff_eq_none] at hc1
    obtain ⟨e, he⟩ := Option.ne_none_iff_exists'.1 hc1
    refine Tri.seq (Tri.region ?_)
    refine TOps.move rfl rfl ?_
    refine TOps.assign rfl rfl ?_
    refine TOps.assign rfl rfl ?_
    refine TOps.next ?_
    refine Tri.ret2 (H' := _) Try.results24 (fun _ _ h => h) (.tmp rfl) (.tmp rfl) (Le.trans Le.addNil (Le.consOf s2)) ⟨[], none, 0, by rw [he]; rfl, by rw [he]; rfl, by simp, rfl⟩
  try simp only [decide_eq_true_eq, decide_eq_false_iff_not, Bool.and_eq_true, Bool.or_eq_true, Bool.not_eq_true', Bool.and_eq_false_iff, Bool.or_eq_false_iff, Bool.not_eq_false', Int.not_lt, Int.not_le, ne_eq, Decidable.not_not, Option.isSome_iff_ne_none, Option.isNone_iff_eq_none] at hc1
  have he : F.err = none := by simpa using hc1
  have hg := (Fm.good_iff F).1 he
  have g0 := hg.v0; have g1 := hg.v1; have g2 := hg.n1; have gt := hg.topLt
  have hv24 : F.vars.toNat ≤ 24 := by omega
  obtain rfl : xs = F.find := by rw [hxs, he]; rfl
  have hfl := F.find_len
  refine Tri.fin ?_
  refine Nrm.next ?_
  refine Tri.seq (Tri.region ?_)
  refine TOps.assign rfl rfl ?_
  refine TOps.next ?_
  refine Tri.seq ?_
  refine Tri.seq (Tri.region ?_)
  refine TOps.move rfl rfl ?_
  refine TOps.len rfl Try.underlying50 rfl ?_
  refine TOps.move rfl rfl ?_
  refine TOps.next ?_
  refine Tri.range (X := Option Nat × Nat) (fun z k => [(1, .pointer (some ⟨b1, 0, none⟩)), (6, slV z.1 0 (F.properTo k).length z.2), (17, slV la 0 F.find.length lcap)]) (fun z k => row z.1 3 1 z.2 (nats (F.properTo k)) :: H2) (fun z k => F.properTo k ≠ [] → ∃ b, z.1 = some b) (by omega) rfl rfl rfl (fun _ _ => ⟨rfl, rfl, rfl, rfl⟩) (none, 0) (fun h => absurd rfl h) ⟨rfl, rfl, rfl, trivial⟩ Le.addNil (fun k z hlt hp => ?_) (fun z ac wc hp hS hM => ?_)
  · skip
    have hps := F.properTo_succ hlt
    have hpl := F.properTo_le k
    obtain ⟨lb, rfl, -, hl⟩ := nats_at hlr hlt
    rw [Nat.zero_add] at hl
    have hlk := Fm.find_lt hlt
    generalize F.find[k] = m at *
    have hev := Nat.lt_of_lt_of_le (Fm.evs_lt (F := F) m) (Nat.pow_le_pow_right (by decide) hv24)
    refine Tri.seq (Tri.region ?_)
    refine TOps.indexAddr (off' := k) rfl rfl Try.underlying50 ti3 (by omega) (by omega) (by simp) rfl ?_
    refine TOps.load1 rfl ti3 (Rd.up hl) rfl ?_
    refine TOps.assign rfl rfl ?_
    refine TOps.next ?_
    refine Tri.seq (Tri.region ?_)
    refine TOps.move rfl rfl ?_
    first | refine TOps.fieldB 2 rfl Try.underlying24 rfl rfl ti3 rfl rfl rfl ?_ | refine TOps.fieldN 2 rfl Try.underlying24 rfl rfl ti3 rfl rfl rfl ?_
    refine TOps.load1 rfl ti3 (by first | exact Rd.lit (by repeat (first | exact List.Mem.head _ | apply List.Mem.tail)) rfl | (repeat (first | assumption | exact Rd.fld (by assumption) 2 rfl | apply Rd.up))) rfl ?_
    refine TOps.neqI rfl rfl rfl ?_
    refine TOps.move rfl rfl ?_
    refine' TOps.andB 5 rfl rfl rfl rfl (fun hg8_4 => ?_) ?_; rotate_left
    · have hg8_4' := hg8_4
      try simp only [decide_eq_true_eq, decide_eq_false_iff_not, Bool.and_eq_true, Bool.or_eq_true, Bool.not_eq_true', Bool.and_eq_false_iff, Bool.or_eq_false_iff, Bool.not_eq_false', Int.not_lt, Int.not_le, ne_eq, Decidable.not_not] at hg8_4'
      refine TOps.strip 4 true rfl rfl hg8_4 rfl ?_
      refine TOps.loadN rfl ti24 (by first | exact Rd.all (by repeat (first | exact List.Mem.head _ | apply List.Mem.tail)) | (repeat (first | assumption | apply Rd.up))) rfl rfl ?_
      refine TOps.move rfl rfl ?_
      refine TOps.call (vs := [_, _]) Try.call48 ⟨rfl, rfl, trivial⟩ (events_g (hF0.le (Le.drop (Le.refl _))) hg m hlk) rfl ?_
      rintro _ _ ⟨rfl, rfl⟩
      refine TOps.call (vs := [_]) Try.call47 ⟨rfl, trivial⟩ (count_g (b := F.evs m) hev) rfl ?_
      rintro _ _ ⟨rfl, rfl⟩
      refine TOps.geq rfl rfl rfl ?_
      refine TOps.blk rfl (by repeat (first | exact Ext.refl _ | refine Ext.cons rfl ?_)) (by repeat (first | exact Le.refl _ | apply Le.drop))
    refine TOps.next ?_
    refine Tri.cond rfl (fun hc2 => ?_) (fun hc2 => ?_)
    · try simp only [decide_eq_true_eq, decide_eq_false_iff_not, Bool.and_eq_true, Bool.or_eq_true, Bool.not_eq_true', Bool.and_eq_false_iff, Bool.or_eq_false_iff, Bool.not_eq_false', Int.not_lt, Int.not_le, ne_eq, Decidable.not_not, Option.isSome_iff_ne_none, Option.isNone_iff_eq_none] at hc2
      have hfs' : F.properTo (k + 1) = F.properTo k ++ [m] := by rw [hps]; unfold Fm.proper1; rw [decide_eq_true (show (m : Int) ≠ F.top from hc2.1), decide_eq_true (by omega)]; rfl
      refine Tri.region ?_
      refine TOps.move rfl rfl ?_
      refine TOps.move rfl rfl ?_
      refine TOps.buildSlice (vs := [_]) (xs := [_]) Try.underlying50 ti3 ⟨rfl, rfl, trivial⟩ rfl rfl rfl rfl rfl rfl (by decide) rfl (fun b36 => ?_)
      refine TOps.appendLit rfl rfl Try.underlying50 ti3 rfl (fun _ _ => Upd.here) rfl (by simp) rfl (by omega) (by omega) (by simp) rfl (fun b37 cap37 => ?_)
      refine TOps.assign rfl rfl ?_
      refine TOps.fin ?_
      first
       | refine Nrm.body (some b37, cap37) (fun _ => ⟨_, rfl⟩) ⟨rfl, rfl, rfl, (by rw [hfs', List.length_append]; rfl), rfl, trivial⟩ (Le.rowEq (by rw [hfs']; simp [nats]))
       | refine Nrm.body z (by rw [hfs']; exact hp) ⟨rfl, rfl, rfl, (by rw [hfs']; rfl), rfl, trivial⟩ (by rw [hfs']; exact Le.refl _)
    try simp only [decide_eq_true_eq, decide_eq_false_iff_not, Bool.and_eq_true, Bool.or_eq_true, Bool.not_eq_true', Bool.and_eq_false_iff, Bool.or_eq_false_iff, Bool.not_eq_false', Int.not_lt, Int.not_le, ne_eq, Decidable.not_not, Option.isSome_iff_ne_none, Option.isNone_iff_eq_none] at hc2
    have hfs' : F.properTo (k + 1) = F.properTo k := by
      rw [hps, show F.proper1 m = false from by unfold Fm.proper1; rcases hc2 with h | h; (rw [decide_eq_false (show ¬ (m : Int) ≠ F.top from fun g => g h), Bool.false_and]); (rw [decide_eq_false (show ¬ 2 ≤ pp 24 (F.evs m) by omega), Bool.and_false])]; simp
    refine Tri.fin ?_
    first
     | refine Nrm.body (some b37, cap37) (fun _ => ⟨_, rfl⟩) ⟨rfl, rfl, rfl, (by rw [hfs', List.length_append]; rfl), rfl, trivial⟩ (Le.rowEq (by rw [hfs']; simp [nats]))
     | refine Nrm.body z (by rw [hfs']; exact hp) ⟨rfl, rfl, rfl, (by rw [hfs']; rfl), rfl, trivial⟩ (by rw [hfs']; exact Le.refl _)
  have hpa := F.properTo_all
  rw [hpa] at hp
  rw [hpa] at hS hM
  refine Nrm.of hS hM ?_
  refine Nrm.next ?_
  refine Tri.seq (Tri.region ?_)
  refine TOps.move rfl rfl ?_
  refine TOps.assign rfl rfl ?_
  refine TOps.assign rfl rfl ?_
  refine TOps.next ?_
  refine Tri.ret2 (H' := _) Try.results24 (fun _ _ h => h) (.tmp rfl) (.tmp rfl) (Le.consOf s2) ⟨F.proper, z.1, z.2, by rw [he]; rfl, by rw [he]; rfl, fun h => hp (fun h2 => h (by rw [h2]; rfl)), rfl⟩
theorem rfind_g {H : List Ent} {fv : Value} {F : Fm} (hF : RF H fv F) (hk : F.ok) (hg : F.Good) :
    Gives Try.prog 59 [fv] H (NewS 3 (nats F.find) F.find.length H) := by
  have hF0 := hF
  obtain ⟨na, off, ncap, nsp, rfl, hN⟩ := hF
  have g0 := hg.v0; have g1 := hg.v1; have g2 := hg.n1; have gt := hg.topLt
  obtain ⟨v, hv⟩ := Int.eq_ofNat_of_zero_le g0
  have hvn : F.vars.toNat = v := by omega
  rw [hv] at hF0 ⊢
  refine Gives.enter Try.func59 rfl (by exact Try.ntmps59) rfl ?_
  refine Tri.seq (Tri.region ?_)
  refine TOps.boxN rfl ti24 rfl rfl (fun b1 => ?_)
  refine TOps.hide (fun H1 l1 s1 r1 => ?_)
  replace hF0 := hF0.le l1; replace hN := hN.le l1
  refine TOps.assign rfl rfl ?_
  refine TOps.next ?_
  refine Tri.seq (Tri.region ?_)
  refine TOps.assign rfl rfl ?_
  refine TOps.next ?_
  refine Tri.seq ?_
  refine Tri.seq (Tri.region ?_)
  first | refine TOps.fieldB 1 rfl Try.underlying24 rfl rfl ti22 rfl rfl rfl ?_ | refine TOps.fieldN 1 rfl Try.underlying24 rfl rfl ti22 rfl rfl rfl ?_
  refine TOps.load1 rfl ti22 (by first | exact Rd.lit (by repeat (first | exact List.Mem.head _ | apply List.Mem.tail)) rfl | (repeat (first | assumption | exact Rd.fld (by assumption) 1 rfl | apply Rd.up))) rfl ?_
  refine TOps.len rfl Try.underlying22 rfl ?_
  refine TOps.move rfl rfl ?_
  refine TOps.next ?_
  refine Tri.range (X := Option Nat × Nat) (fun z k => [(1, .pointer (some ⟨b1, 0, none⟩)), (3, slV z.1 0 (F.findTo k).length z.2)]) (fun z k => row z.1 3 1 z.2 (nats (F.findTo k)) :: H1) (fun z k => F.findTo k ≠ [] → ∃ b, z.1 = some b) (by omega) rfl rfl rfl (fun _ _ => ⟨rfl, rfl, rfl, rfl⟩) (none, 0) (fun h => absurd rfl h) ⟨rfl, rfl, trivial⟩ Le.addNil (fun k z hlt hp => ?_) (fun z ac wc hp hS hM => ?_)
  · skip
    have hfs := F.findTo_succ k
    have hfl := F.findTo_le k
    rw [hvn] at hfs
    refine Tri.seq (Tri.region ?_)
    refine TOps.move rfl rfl ?_
    refine TOps.assign rfl rfl ?_
    refine TOps.next ?_
    refine Tri.seq (Tri.region ?_)
    refine TOps.loadN rfl ti24 (by first | exact Rd.all (by repeat (first | exact List.Mem.head _ | apply List.Mem.tail)) | (repeat (first | assumption | apply Rd.up))) rfl rfl ?_
    refine TOps.field0 rfl Try.underlying24 rfl rfl ti3 rfl rfl rfl ?_
    refine TOps.load1 rfl ti3 (by first | exact Rd.lit (by repeat (first | exact List.Mem.head _ | apply List.Mem.tail)) rfl | (repeat (first | assumption | exact Rd.fld (by assumption) 0 rfl | apply Rd.up))) rfl ?_
    refine TOps.move rfl rfl ?_
    refine TOps.add (r := ((v + k : Nat) : Int)) rfl rfl (by rw [wrapI (by omega) (by omega)]; omega) rfl ?_
    refine TOps.call (vs := [_, _]) Try.call39 ⟨rfl, rfl, trivial⟩ (rneededN_g (hF0.le (Le.drop (Le.refl _))) hk hg k hlt hvn) rfl ?_
    rintro _ _ ⟨rfl, rfl⟩
    refine TOps.move rfl rfl ?_
    refine' TOps.andB 6 rfl rfl rfl rfl (fun hg5_6 => ?_) ?_; rotate_left
    · have hg5_6' := hg5_6
      try simp only [decide_eq_true_eq, decide_eq_false_iff_not, Bool.and_eq_true, Bool.or_eq_true, Bool.not_eq_true', Bool.and_eq_false_iff, Bool.or_eq_false_iff, Bool.not_eq_false', Int.not_lt, Int.not_le, ne_eq, Decidable.not_not] at hg5_6'
      refine TOps.strip 6 true rfl rfl hg5_6 rfl ?_
      refine TOps.loadN rfl ti24 (by first | exact Rd.all (by repeat (first | exact List.Mem.head _ | apply List.Mem.tail)) | (repeat (first | assumption | apply Rd.up))) rfl rfl ?_
      refine TOps.field0 rfl Try.underlying24 rfl rfl ti3 rfl rfl rfl ?_
      refine TOps.load1 rfl ti3 (by first | exact Rd.lit (by repeat (first | exact List.Mem.head _ | apply List.Mem.tail)) rfl | (repeat (first | assumption | exact Rd.fld (by assumption) 0 rfl | apply Rd.up))) rfl ?_
      refine TOps.move rfl rfl ?_
      refine TOps.add (r := ((v + k : Nat) : Int)) rfl rfl (by rw [wrapI (by omega) (by omega)]; omega) rfl ?_
      refine TOps.call (vs := [_, _]) Try.call40 ⟨rfl, rfl, trivial⟩ (ris_g (hF0.le (Le.drop (Le.refl _))) hg hk k hlt hvn) rfl ?_
      rintro _ _ ⟨rfl, rfl⟩
      refine TOps.blk rfl (by repeat (first | exact Ext.refl _ | refine Ext.cons rfl ?_)) (by repeat (first | exact Le.refl _ | apply Le.drop))
    refine TOps.next ?_
    refine Tri.cond rfl (fun hc1 => ?_) (fun hc1 => ?_)
    · try simp only [decide_eq_true_eq, decide_eq_false_iff_not, Bool.and_eq_true, Bool.or_eq_true, Bool.not_eq_true', Bool.and_eq_false_iff, Bool.or_eq_false_iff, Bool.not_eq_false', Int.not_lt, Int.not_le, ne_eq, Decidable.not_not, Option.isSome_iff_ne_none, Option.isNone_iff_eq_none] at hc1
      have hfs' : F.findTo (k + 1) = F.findTo k ++ [v + k] := by rw [hfs, hc1.1, hc1.2]; rfl
      refine Tri.region ?_
      refine TOps.move rfl rfl ?_
      refine TOps.field0 rfl Try.underlying24 rfl rfl ti3 rfl rfl rfl ?_
      refine TOps.load1 rfl ti3 (by first | exact Rd.lit (by repeat (first | exact List.Mem.head _ | apply List.Mem.tail)) rfl | (repeat (first | assumption | exact Rd.fld (by assumption) 0 rfl | apply Rd.up))) rfl ?_
      refine TOps.move rfl rfl ?_
      refine TOps.add (r := ((v + k : Nat) : Int)) rfl rfl (by rw [wrapI (by omega) (by omega)]; omega) rfl ?_
      refine TOps.buildSlice (vs := [_]) (xs := [_]) Try.underlying50 ti3 ⟨rfl, rfl, trivial⟩ rfl rfl rfl rfl rfl rfl (by decide) rfl (fun b30 => ?_)
      refine TOps.appendLit rfl rfl Try.underlying50 ti3 rfl (fun _ _ => Upd.here) rfl (by simp) rfl (by omega) (by omega) (by simp) rfl (fun b31 cap31 => ?_)
      refine TOps.assign rfl rfl ?_
      refine TOps.fin ?_
      first
       | refine Nrm.body (some b31, cap31) (fun _ => ⟨_, rfl⟩) ⟨rfl, rfl, rfl, (by rw [hfs', List.length_append]; rfl), trivial⟩ (Le.rowEq (by rw [hfs']; simp [nats]))
       | refine Nrm.body z (by rw [hfs']; exact hp) ⟨rfl, rfl, rfl, (by rw [hfs']; rfl), trivial⟩ (by rw [hfs']; exact Le.refl _)
    try simp only [decide_eq_true_eq, decide_eq_false_iff_not, Bool.and_eq_true, Bool.or_eq_true, Bool.not_eq_true', Bool.and_eq_false_iff, Bool.or_eq_false_iff, Bool.not_eq_false', Int.not_lt, Int.not_le, ne_eq, Decidable.not_not, Option.isSome_iff_ne_none, Option.isNone_iff_eq_none] at hc1
    have hfs' : F.findTo (k + 1) = F.findTo k := by rw [hfs]; rcases hc1 with h | h <;> rw [h] <;> simp
    refine Tri.fin ?_
    first
     | refine Nrm.body (some b31, cap31) (fun _ => ⟨_, rfl⟩) ⟨rfl, rfl, rfl, (by rw [hfs', List.length_append]; rfl), trivial⟩ (Le.rowEq (by rw [hfs']; simp [nats]))
     | refine Nrm.body z (by rw [hfs']; exact hp) ⟨rfl, rfl, rfl, (by rw [hfs']; rfl), trivial⟩ (by rw [hfs']; exact Le.refl _)
  refine Nrm.of hS hM ?_
  refine Nrm.next ?_
  refine Tri.seq (Tri.region ?_)
  refine TOps.move rfl rfl ?_
  refine TOps.assign rfl rfl ?_
  refine TOps.next ?_
  refine Tri.ret1 (H' := _) Try.results59 (fun _ _ h => h) (.tmp rfl) (Le.consOf s1) ⟨z.1, z.2, rfl, fun h => hp (fun h2 => h (by unfold Fm.find; rw [h2]; rfl)), rfl⟩
theorem rproper_g {H : List Ent} {fv : Value} {F : Fm} (hF : RF H fv F) (hk : F.ok) (hg : F.Good) :
    Gives Try.prog 54 [fv] H (NewS 3 (nats F.proper) F.proper.length H) := by
  have hF0 := hF
  obtain ⟨na, off, ncap, nsp, rfl, hN⟩ := hF
  have g0 := hg.v0; have g1 := hg.v1; have g2 := hg.n1; have gt := hg.topLt
  have hv24 : F.vars.toNat ≤ 24 := by omega
  have hfl := F.find_len
  refine Gives.enter Try.func54 rfl (by exact Try.ntmps54) rfl ?_
  refine Tri.seq (Tri.region ?_)
  refine TOps.boxN rfl ti24 rfl rfl (fun b1 => ?_)
  refine TOps.hide (fun H1 l1 s1 r1 => ?_)
  replace hF0 := hF0.le l1
  refine TOps.assign rfl rfl ?_
  refine TOps.next ?_
  refine Tri.seq (Tri.region ?_)
  refine TOps.assign rfl rfl ?_
  refine TOps.next ?_
  refine Tri.seq ?_
  refine Tri.seq (Tri.region ?_)
  refine TOps.loadN rfl ti24 (by first | exact Rd.all (by repeat (first | exact List.Mem.head _ | apply List.Mem.tail)) | (repeat (first | assumption | apply Rd.up))) rfl rfl ?_
  refine TOps.call (vs := [_]) Try.call59 ⟨rfl, trivial⟩ (rfind_g hF0 hk hg) rfl ?_
  rintro _ _ ⟨la, lcap, rfl, hla, rfl⟩
  have hlr : RdS (row la 3 1 lcap (nats F.find) :: H1) la 0 (nats F.find) := RdS.ofRowA (List.Mem.head _) hla
  replace hF0 := hF0.le (Le.drop (e := row la 3 1 lcap (nats F.find)) (Le.refl _)); replace r1 := r1.up (e := row la 3 1 lcap (nats F.find))
  have s2 : H.Sublist (row la 3 1 lcap (nats F.find) :: H1) := s1.cons _
  generalize row la 3 1 lcap (nats F.find) :: H1 = H2 at *
  refine TOps.len rfl Try.underlying50 rfl ?_
  refine TOps.move rfl rfl ?_
  refine TOps.next ?_
  refine Tri.range (X := Option Nat × Nat) (fun z k => [(1, .pointer (some ⟨b1, 0, none⟩)), (3, slV z.1 0 (F.properTo k).length z.2), (8, slV la 0 F.find.length lcap)]) (fun z k => row z.1 3 1 z.2 (nats (F.properTo k)) :: H2) (fun z k => F.properTo k ≠ [] → ∃ b, z.1 = some b) (by omega) rfl rfl rfl (fun _ _ => ⟨rfl, rfl, rfl, rfl⟩) (none, 0) (fun h => absurd rfl h) ⟨rfl, rfl, rfl, trivial⟩ Le.addNil (fun k z hlt hp => ?_) (fun z ac wc hp hS hM => ?_)
  · skip
    have hps := F.properTo_succ hlt
    have hpl := F.properTo_le k
    obtain ⟨lb, rfl, -, hl⟩ := nats_at hlr hlt
    rw [Nat.zero_add] at hl
    have hlk := Fm.find_lt hlt
    generalize F.find[k] = m at *
    have hev := Nat.lt_of_lt_of_le (Fm.evs_lt (F := F) m) (Nat.pow_le_pow_right (by decide) hv24)
    have hip := iand_pred hev
    have e24 : (2 : Nat) ^ 24 = 16777216 := by decide
    refine Tri.seq (Tri.region ?_)
    refine TOps.indexAddr (off' := k) rfl rfl Try.underlying50 ti3 (by omega) (by omega) (by simp) rfl ?_
    refine TOps.load1 rfl ti3 (Rd.up hl) rfl ?_
    refine TOps.assign rfl rfl ?_
    refine TOps.next ?_
    refine Tri.seq (Tri.region ?_)
    refine TOps.loadN rfl ti24 (by first | exact Rd.all (by repeat (first | exact List.Mem.head _ | apply List.Mem.tail)) | (repeat (first | assumption | apply Rd.up))) rfl rfl ?_
    refine TOps.move rfl rfl ?_
    refine TOps.call (vs := [_, _]) Try.call60 ⟨rfl, rfl, trivial⟩ (rBelow29_g (hF0.le (Le.drop (Le.refl _))) hg m hlk) rfl ?_
    rintro _ _ ⟨rfl, rfl⟩
    refine TOps.assign rfl rfl ?_
    refine TOps.next ?_
    refine Tri.seq (Tri.region ?_)
    refine TOps.move rfl rfl ?_
    first | refine TOps.fieldB 2 rfl Try.underlying24 rfl rfl ti3 rfl rfl rfl ?_ | refine TOps.fieldN 2 rfl Try.underlying24 rfl rfl ti3 rfl rfl rfl ?_
    refine TOps.load1 rfl ti3 (by first | exact Rd.lit (by repeat (first | exact List.Mem.head _ | apply List.Mem.tail)) rfl | (repeat (first | assumption | exact Rd.fld (by assumption) 2 rfl | apply Rd.up))) rfl ?_
    refine TOps.neqI rfl rfl rfl ?_
    refine TOps.move rfl rfl ?_
    refine' TOps.andB 5 rfl rfl rfl rfl (fun hg6_4 => ?_) ?_; rotate_left
    · have hg6_4' := hg6_4
      try simp only [decide_eq_true_eq, decide_eq_false_iff_not, Bool.and_eq_true, Bool.or_eq_true, Bool.not_eq_true', Bool.and_eq_false_iff, Bool.or_eq_false_iff, Bool.not_eq_false', Int.not_lt, Int.not_le, ne_eq, Decidable.not_not] at hg6_4'
      refine TOps.strip 4 true rfl rfl hg6_4 rfl ?_
      refine TOps.move rfl rfl ?_
      refine TOps.move rfl rfl ?_
      refine TOps.sub rfl rfl (wrapI (by omega) (by omega)) rfl ?_
      refine TOps.and rfl rfl rfl rfl ?_
      refine TOps.neqIr rfl rfl hip rfl ?_
      refine TOps.blk rfl (by repeat (first | exact Ext.refl _ | refine Ext.cons rfl ?_)) (by repeat (first | exact Le.refl _ | apply Le.drop))
    refine TOps.next ?_
    refine Tri.cond rfl (fun hc1 => ?_) (fun hc1 => ?_)
    · try simp only [decide_eq_true_eq, decide_eq_false_iff_not, Bool.and_eq_true, Bool.or_eq_true, Bool.not_eq_true', Bool.and_eq_false_iff, Bool.or_eq_false_iff, Bool.not_eq_false', Int.not_lt, Int.not_le, ne_eq, Decidable.not_not, Option.isSome_iff_ne_none, Option.isNone_iff_eq_none] at hc1
      have hfs' : F.properTo (k + 1) = F.properTo k ++ [m] := by rw [hps]; unfold Fm.proper1; rw [decide_eq_true (show (m : Int) ≠ F.top from hc1.1), decide_eq_true hc1.2]; rfl
      refine Tri.region ?_
      refine TOps.move rfl rfl ?_
      refine TOps.move rfl rfl ?_
      refine TOps.buildSlice (vs := [_]) (xs := [_]) Try.underlying50 ti3 ⟨rfl, rfl, trivial⟩ rfl rfl rfl rfl rfl rfl (by decide) rfl (fun b30 => ?_)
      refine TOps.appendLit rfl rfl Try.underlying50 ti3 rfl (fun _ _ => Upd.here) rfl (by simp) rfl (by omega) (by omega) (by simp) rfl (fun b31 cap31 => ?_)
      refine TOps.assign rfl rfl ?_
      refine TOps.fin ?_
      first
       | refine Nrm.body (some b31, cap31) (fun _ => ⟨_, rfl⟩) ⟨rfl, rfl, rfl, (by rw [hfs', List.length_append]; rfl), rfl, trivial⟩ (Le.rowEq (by rw [hfs']; simp [nats]))
       | refine Nrm.body z (by rw [hfs']; exact hp) ⟨rfl, rfl, rfl, (by rw [hfs']; rfl), rfl, trivial⟩ (by rw [hfs']; exact Le.refl _)
    try simp only [decide_eq_true_eq, decide_eq_false_iff_not, Bool.and_eq_true, Bool.or_eq_true, Bool.not_eq_true', Bool.and_eq_false_iff, Bool.or_eq_false_iff, Bool.not_eq_false', Int.not_lt, Int.not_le, ne_eq, Decidable.not_not, Option.isSome_iff_ne_none, Option.isNone_iff_eq_none] at hc1
    have hfs' : F.properTo (k + 1) = F.properTo k := by
      rw [hps, show F.proper1 m = false from by unfold Fm.proper1; rcases hc1 with h | h; (rw [decide_eq_false (show ¬ (m : Int) ≠ F.top from fun g => g h), Bool.false_and]); (rw [decide_eq_false (show ¬ 2 ≤ pp 24 (F.evs m) by omega), Bool.and_false])]; simp
    refine Tri.fin ?_
    first
     | refine Nrm.body (some b31, cap31) (fun _ => ⟨_, rfl⟩) ⟨rfl, rfl, rfl, (by rw [hfs', List.length_append]; rfl), rfl, trivial⟩ (Le.rowEq (by rw [hfs']; simp [nats]))
     | refine Nrm.body z (by rw [hfs']; exact hp) ⟨rfl, rfl, rfl, (by rw [hfs']; rfl), rfl, trivial⟩ (by rw [hfs']; exact Le.refl _)
  have hpa := F.properTo_all
  rw [hpa] at hp
  rw [hpa] at hS hM
  refine Nrm.of hS hM ?_
  refine Nrm.next ?_
  refine Tri.seq (Tri.region ?_)
  refine TOps.move rfl rfl ?_
  refine TOps.assign rfl rfl ?_
  refine TOps.next ?_
  refine Tri.ret1 (H' := _) Try.results54 (fun _ _ h => h) (.tmp rfl) (Le.consOf s2) ⟨z.1, z.2, rfl, fun h => hp (fun h2 => h (by rw [h2]; rfl)), rfl⟩
end Go.Proofs
