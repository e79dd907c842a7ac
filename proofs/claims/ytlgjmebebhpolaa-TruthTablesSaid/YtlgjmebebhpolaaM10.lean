import Derived.Test.YtlgjmebebhpolaaJ10
import Derived.Test.YtlgjmebebhpolaaL10
namespace Go.Proofs
open Go.GL
set_option linter.unusedVariables false
set_option linter.unusedSimpArgs false
theorem rweights_g {H : List Ent} {fv : Value} {F : Fm} (hF : RF H fv F) (hk : F.ok) (het : F.terr = none) :
    Gives Try.prog 29 [fv] H (fun u H' => ∃ b, u = slV (some b) 0 F.weights.length F.weights.length ∧ row (some b) 3 1 F.weights.length (nats F.weights) :: H = H') := by
  have hF0 := hF
  obtain ⟨na, off, ncap, nsp, rfl, hN⟩ := hF
  obtain ⟨hg, h12⟩ := Fm.terr_none het
  have g0 := hg.v0
  obtain ⟨v, hv⟩ := Int.eq_ofNat_of_zero_le g0
  have hvn : F.vars.toNat = v := by omega
  have h4096 := pow12 (v := v) (by omega)
  have htl := F.table_length
  rw [hvn] at htl
  have hwv : F.wTo F.table.length = F.weights := by unfold Fm.weights; rw [F.table_length]
  have hwl := F.wTo_length
  rw [hvn] at hwl
  have hwL : F.weights.length = v + 1 := by rw [F.weights_length, hvn]
  rw [hwL]
  rw [hv] at hF0 ⊢
  refine Gives.enter Try.func29 rfl (by exact Try.ntmps29) rfl ?_
  refine Tri.seq (Tri.region ?_)
  refine TOps.boxN rfl ti24 rfl rfl (fun b1 => ?_)
  refine TOps.hide (fun H1 l1 s1 r1 => ?_)
  replace hF0 := hF0.le l1
  refine TOps.assign rfl rfl ?_
  refine TOps.next ?_
  refine Tri.seq (Tri.region ?_)
  refine TOps.field0 rfl Try.underlying24 rfl rfl ti3 rfl rfl rfl ?_
  refine TOps.load1 rfl ti3 (by first | exact Rd.lit (by repeat (first | exact List.Mem.head _ | apply List.Mem.tail)) rfl | (repeat (first | assumption | exact Rd.fld (by assumption) 0 rfl | apply Rd.up))) rfl ?_
  refine TOps.add (r := ((v + 1 : Nat) : Int)) rfl rfl (by rw [wrapI (by omega) (by omega)]; omega) rfl ?_
  refine TOps.make1 rfl rfl Try.underlying36 ti3 (by omega) (by omega) (by omega) rfl (fun b11 => ?_)
  refine TOps.assign rfl rfl ?_
  refine TOps.next ?_
  refine Tri.seq ?_
  refine Tri.seq (Tri.region ?_)
  refine TOps.loadN rfl ti24 (by first | exact Rd.all (by repeat (first | exact List.Mem.head _ | apply List.Mem.tail)) | (repeat (first | assumption | apply Rd.up))) rfl rfl ?_
  refine TOps.call (vs := [_]) Try.call26 ⟨rfl, trivial⟩ (rtable_g (hF0.le (Le.drop (Le.refl _))) hk hg h12) rfl ?_
  rintro _ _ ⟨la, lcap, rfl, rfl⟩
  refine TOps.le (H' := row (some b11) 3 1 (v + 1) (List.replicate (v + 1) (.int .i64 0)) :: row (some la) 4 1 lcap (bools F.table) :: H1) Le.swap ?_
  have hlr : RdS (row (some la) 4 1 lcap (bools F.table) :: H1) (some la) 0 (bools F.table) := RdS.ofRowS (List.Mem.head _)
  replace r1 := r1.up (e := row (some la) 4 1 lcap (bools F.table))
  have s2 : H.Sublist (row (some la) 4 1 lcap (bools F.table) :: H1) := s1.cons _
  generalize row (some la) 4 1 lcap (bools F.table) :: H1 = H2 at *
  refine TOps.len rfl Try.underlying27 rfl ?_
  refine TOps.move rfl rfl ?_
  refine TOps.next ?_
  refine Tri.range (X := Unit) (fun x k => [(1, .pointer (some ⟨b1, 0, none⟩)), (3, slV (some b11) 0 (v + 1) (v + 1)), (13, slV (some la) 0 F.table.length lcap)]) (fun x k => row (some b11) 3 1 (v + 1) (nats (F.wTo k)) :: H2) (fun x k => True) (by omega) rfl rfl rfl (fun _ _ => ⟨rfl, rfl, rfl, rfl⟩) () trivial ⟨rfl, rfl, rfl, trivial⟩ (Le.rowEq (by rw [F.wTo_zero, hvn]; simp [nats])) (fun k x hlt hp => ?_) (fun x ac wc hp hS hM => ?_)
  · skip
    have hlt' : k < 2 ^ v := by omega
    obtain ⟨lb, hlb, -, hl⟩ := RdS.at hlr (i := k) (by simpa using hlt)
    cases hlb
    have htk : F.table[k] = F.value (k : Nat) := F.table_get hlt
    rw [List.getElem_map, htk, Nat.zero_add] at hl
    have hws := F.wTo_succ k
    have hwk := hwl k
    have hwle := F.wTo_le k (pp 24 k)
    have hpb := pp_bound 24 v k hlt'
    have hpe := ppBits_eq v 24 k hlt' (by omega)
    refine Tri.seq (Tri.region ?_)
    refine TOps.move rfl rfl ?_
    refine TOps.indexAddr (off' := k) rfl rfl Try.underlying27 ti4 (by omega) (by omega) (by simp) rfl ?_
    refine TOps.load1 rfl ti4 (Rd.up hl) rfl ?_
    refine TOps.assign rfl rfl ?_
    refine TOps.assign rfl rfl ?_
    refine TOps.next ?_
    refine Tri.seq (Tri.region ?_)
    refine TOps.assign rfl rfl ?_
    refine TOps.next ?_
    refine Tri.seq ?_
    refine Tri.seq (Tri.region ?_)
    refine TOps.field0 rfl Try.underlying24 rfl rfl ti3 rfl rfl rfl ?_
    refine TOps.load1 rfl ti3 (by first | exact Rd.lit (by repeat (first | exact List.Mem.head _ | apply List.Mem.tail)) rfl | (repeat (first | assumption | exact Rd.fld (by assumption) 0 rfl | apply Rd.up))) rfl ?_
    refine TOps.move rfl rfl ?_
    refine TOps.next ?_
    refine Tri.range (X := Unit) (fun y j => [(1, .pointer (some ⟨b1, 0, none⟩)), (3, slV (some b11) 0 (v + 1) (v + 1)), (13, slV (some la) 0 F.table.length lcap), (14, .int .i64 F.table.length), (15, .int .i64 k), (4, .int .i64 k), (5, .bool (F.value (k : Nat))), (6, .int .i64 (ppBits k j : Nat))]) (fun y j => row (some b11) 3 1 (v + 1) (nats (F.wTo k)) :: H2) (fun y j => True) (by omega) rfl rfl rfl (fun _ _ => ⟨rfl, rfl, rfl, rfl⟩) () trivial ⟨rfl, rfl, rfl, rfl, rfl, rfl, rfl, rfl, trivial⟩ (by repeat (first | exact Le.refl _ | assumption | apply Le.drop)) (fun j y hltj hpj => ?_) (fun y ac wc hpj hS hM => ?_)
    · skip
      have hps := ppBits_succ k j
      have hpl := ppBits_le k j
      have hbit := bit_step k j (by omega)
      refine Tri.seq (Tri.region ?_)
      refine TOps.move rfl rfl ?_
      refine TOps.assign rfl rfl ?_
      refine TOps.next ?_
      refine Tri.region ?_
      refine TOps.move rfl rfl ?_
      refine TOps.move rfl rfl ?_
      refine TOps.move rfl rfl ?_
      refine TOps.shr rfl rfl (by omega) rfl rfl ?_
      refine TOps.and (r := if k.testBit j then 1 else 0) rfl rfl (by rw [Int.toNat_natCast]; exact hbit) rfl ?_
      refine TOps.add (r := ((ppBits k (j + 1) : Nat) : Int)) rfl rfl (by rw [hps]; split <;> rw [wrapI (by omega) (by omega)] <;> omega) rfl ?_
      refine TOps.assign rfl rfl ?_
      refine TOps.fin ?_
      refine Nrm.body () trivial ⟨rfl, rfl, rfl, rfl, rfl, rfl, rfl, rfl, rfl, rfl, trivial⟩ (by repeat (first | exact Le.refl _ | assumption | apply Le.drop))
    rw [hpe] at hS
    refine Nrm.of hS hM ?_
    refine Nrm.next ?_
    refine Tri.seq (Tri.region ?_)
    refine TOps.move rfl rfl ?_
    refine TOps.next ?_
    refine Tri.cond rfl (fun hc1 => ?_) (fun hc1 => ?_)
    · try simp only [decide_eq_true_eq, decide_eq_false_iff_not, Bool.and_eq_true, Bool.or_eq_true, Bool.not_eq_true', Bool.and_eq_false_iff, Bool.or_eq_false_iff, Bool.not_eq_false', Int.not_lt, Int.not_le, ne_eq, Decidable.not_not, Option.isSome_iff_ne_none, Option.isNone_iff_eq_none] at hc1
      refine Tri.region ?_
      refine TOps.move rfl rfl ?_
      refine TOps.move rfl rfl ?_
      refine TOps.indexAddr (off' := pp 24 k) rfl rfl Try.underlying36 ti3 (by omega) (by omega) (by simp) rfl ?_
      refine TOps.load1 (v := .int .i64 ((F.wTo k).getD (pp 24 k) 0 : Nat)) rfl ti3 (Rd.lit (List.Mem.head _) (by simp [List.getD_eq_getElem?_getD, show pp 24 k < (F.wTo k).length by omega])) rfl ?_
      refine TOps.add (r := (((F.wTo k).getD (pp 24 k) 0 + 1 : Nat) : Int)) rfl rfl (by rw [wrapI (by omega) (by omega)]; omega) rfl ?_
      refine TOps.indexAddr (off' := pp 24 k) rfl rfl Try.underlying36 ti3 (by omega) (by omega) (by simp) rfl ?_
      refine TOps.store1 rfl rfl ti3 rfl rfl (by repeat (first | exact Upd.here | apply Upd.there)) (by first | decide | (simp; done) | (simp; omega)) ?_
      refine TOps.fin ?_
      first
       | refine Nrm.body () trivial ⟨rfl, rfl, rfl, rfl, rfl, trivial⟩ (Le.rowEq (by rw [hws, hc1, cond_true, nats_set]))
       | refine Nrm.body () trivial ⟨rfl, rfl, rfl, rfl, rfl, trivial⟩ (Le.rowEq (by rw [hws, hc1, cond_false]))
    try simp only [decide_eq_true_eq, decide_eq_false_iff_not, Bool.and_eq_true, Bool.or_eq_true, Bool.not_eq_true', Bool.and_eq_false_iff, Bool.or_eq_false_iff, Bool.not_eq_false', Int.not_lt, Int.not_le, ne_eq, Decidable.not_not, Option.isSome_iff_ne_none, Option.isNone_iff_eq_none] at hc1
    refine Tri.fin ?_
    first
     | refine Nrm.body () trivial ⟨rfl, rfl, rfl, rfl, rfl, trivial⟩ (Le.rowEq (by rw [hws, hc1, cond_true, nats_set]))
     | refine Nrm.body () trivial ⟨rfl, rfl, rfl, rfl, rfl, trivial⟩ (Le.rowEq (by rw [hws, hc1, cond_false]))
  rw [hwv] at hM
  refine Nrm.of hS hM ?_
  refine Nrm.next ?_
  refine Tri.seq (Tri.region ?_)
  refine TOps.move rfl rfl ?_
  refine TOps.assign rfl rfl ?_
  refine TOps.next ?_
  refine Tri.ret1 (H' := _) Try.results29 (fun _ _ h => h) (.tmp rfl) (Le.consOf s2) ⟨b11, rfl, rfl⟩
theorem rcount_g {H : List Ent} {fv : Value} {F : Fm} (hF : RF H fv F) (hk : F.ok) (het : F.terr = none) :
    Gives Try.prog 27 [fv] H (R1 (.int .i64 (F.count : Nat)) H) := by
  have hF0 := hF
  obtain ⟨na, off, ncap, nsp, rfl, hN⟩ := hF
  obtain ⟨hg, h12⟩ := Fm.terr_none het
  have g0 := hg.v0
  have hx4 := Fm.weights_le h12
  have hxl : F.weights.length ≤ 13 := by rw [F.weights_length]; omega
  have hcs : (F.weights.sum : Nat) = F.count := rfl
  refine Gives.enter Try.func27 rfl (by exact Try.ntmps27) rfl ?_
  refine Tri.seq (Tri.region ?_)
  refine TOps.boxN rfl ti24 rfl rfl (fun b1 => ?_)
  refine TOps.hide (fun H1 l1 s1 r1 => ?_)
  replace hF0 := hF0.le l1
  refine TOps.assign rfl rfl ?_
  refine TOps.next ?_
  refine Tri.seq (Tri.region ?_)
  refine TOps.assign rfl rfl ?_
  refine TOps.next ?_
  refine Tri.seq ?_
  refine Tri.seq (Tri.region ?_)
  refine TOps.loadN rfl ti24 (by first | exact Rd.all (by repeat (first | exact List.Mem.head _ | apply List.Mem.tail)) | (repeat (first | assumption | apply Rd.up))) rfl rfl ?_
  refine TOps.call (vs := [_]) Try.call29 ⟨rfl, trivial⟩ (rweights_g hF0 hk het) rfl ?_
  rintro _ _ ⟨la, rfl, rfl⟩
  have hlr : RdS (row (some la) 3 1 F.weights.length (nats F.weights) :: H1) (some la) 0 (nats F.weights) := RdS.ofRowS (List.Mem.head _)
  have l2 : Le (row (some la) 3 1 F.weights.length (nats F.weights) :: H1) H := Le.drop l1
  generalize row (some la) 3 1 F.weights.length (nats F.weights) :: H1 = H2 at *
  generalize F.weights = xs at *
  refine TOps.len rfl Try.underlying36 rfl ?_
  refine TOps.move rfl rfl ?_
  refine TOps.next ?_
  refine Tri.range (X := Unit) (fun x k => [(7, slV (some la) 0 xs.length xs.length), (3, .int .i64 ((xs.take k).sum : Nat))]) (fun x k => H2) (fun x k => True) (by omega) rfl rfl rfl (fun _ _ => ⟨rfl, rfl, rfl, rfl⟩) () trivial ⟨rfl, rfl, trivial⟩ (by repeat (first | exact Le.refl _ | assumption | apply Le.drop)) (fun k x hlt hp => ?_) (fun x ac wc hp hS hM => ?_)
  · skip
    obtain ⟨lb, hlb, -, hl⟩ := RdS.at hlr (i := k) (by simpa using hlt)
    cases hlb
    rw [List.getElem_map, Nat.zero_add] at hl
    have hsu := sum_take_succ hlt
    have hsl := sum_take_le (k := k) hx4
    have hsl2 : k * 4096 ≤ 13 * 4096 := Nat.mul_le_mul_right _ (by omega)
    have hxk := hx4 _ (List.getElem_mem hlt)
    refine Tri.seq (Tri.region ?_)
    refine TOps.indexAddr (off' := k) rfl rfl Try.underlying36 ti3 (by omega) (by omega) (by simp) rfl ?_
    refine TOps.load1 rfl ti3 hl rfl ?_
    refine TOps.assign rfl rfl ?_
    refine TOps.next ?_
    refine Tri.region ?_
    refine TOps.move rfl rfl ?_
    refine TOps.move rfl rfl ?_
    refine TOps.add (r := (((xs.take (k + 1)).sum : Nat) : Int)) rfl rfl (by rw [wrapI (by omega) (by omega)]; omega) rfl ?_
    refine TOps.assign rfl rfl ?_
    refine TOps.fin ?_
    refine Nrm.body () trivial ⟨rfl, rfl, rfl, rfl, trivial⟩ (by repeat (first | exact Le.refl _ | assumption | apply Le.drop))
  rw [List.take_length, hcs] at hS
  refine Nrm.of hS hM ?_
  refine Nrm.next ?_
  refine Tri.seq (Tri.region ?_)
  refine TOps.move rfl rfl ?_
  refine TOps.assign rfl rfl ?_
  refine TOps.next ?_
  refine Tri.ret1 (H' := H) Try.results27 (fun _ _ h => h) (.tmp rfl) l2 ⟨rfl, rfl⟩
theorem rmonotone_g {H : List Ent} {fv : Value} {F : Fm} (hF : RF H fv F) (hk : F.ok) (het : F.terr = none) :
    Gives Try.prog 30 [fv] H (R1 (.bool F.mono) H) := by
  have hF0 := hF
  obtain ⟨na, off, ncap, nsp, rfl, hN⟩ := hF
  obtain ⟨hg, h12⟩ := Fm.terr_none het
  have g0 := hg.v0
  obtain ⟨v, hv⟩ := Int.eq_ofNat_of_zero_le g0
  have hvn : F.vars.toNat = v := by omega
  have h4096 := pow12 (v := v) (by omega)
  have htl := F.table_length
  rw [hvn] at htl
  rw [hv] at hF0 ⊢
  refine Gives.enter Try.func30 rfl (by exact Try.ntmps30) rfl ?_
  refine Tri.seq (Tri.region ?_)
  refine TOps.boxN rfl ti24 rfl rfl (fun b1 => ?_)
  refine TOps.hide (fun H1 l1 s1 r1 => ?_)
  replace hF0 := hF0.le l1
  refine TOps.assign rfl rfl ?_
  refine TOps.next ?_
  refine Tri.seq (Tri.region ?_)
  refine TOps.loadN rfl ti24 (by first | exact Rd.all (by repeat (first | exact List.Mem.head _ | apply List.Mem.tail)) | (repeat (first | assumption | apply Rd.up))) rfl rfl ?_
  refine TOps.call (vs := [_]) Try.call26 ⟨rfl, trivial⟩ (rtable_g hF0 hk hg h12) rfl ?_
  rintro _ _ ⟨la, lcap, rfl, rfl⟩
  have hlr : RdS (row (some la) 4 1 lcap (bools F.table) :: H1) (some la) 0 (bools F.table) := RdS.ofRowS (List.Mem.head _)
  replace r1 := r1.up (e := row (some la) 4 1 lcap (bools F.table))
  have l2 : Le (row (some la) 4 1 lcap (bools F.table) :: H1) H := Le.drop l1
  generalize row (some la) 4 1 lcap (bools F.table) :: H1 = H2 at *
  refine TOps.assign rfl rfl ?_
  refine TOps.next ?_
  refine Tri.seq ?_
  refine Tri.seq (Tri.region ?_)
  refine TOps.move rfl rfl ?_
  refine TOps.len rfl Try.underlying27 rfl ?_
  refine TOps.move rfl rfl ?_
  refine TOps.next ?_
  refine Tri.range (X := Unit) (fun x k => [(1, .pointer (some ⟨b1, 0, none⟩)), (3, slV (some la) 0 F.table.length lcap), (9, slV (some la) 0 F.table.length lcap)]) (fun x k => H2) (fun x k => ∀ s, s < k → ∀ i, i < v → F.mono1 s i = true) (by omega) rfl rfl rfl (fun _ _ => ⟨rfl, rfl, rfl, rfl⟩) () (fun s h => absurd h (Nat.not_lt_zero _)) ⟨rfl, rfl, rfl, trivial⟩ (by repeat (first | exact Le.refl _ | assumption | apply Le.drop)) (fun k x hlt hp => ?_) (fun x ac wc hp hS hM => ?_)
  · skip
    have hlt' : k < 2 ^ v := by omega
    obtain ⟨lb, hlb, -, hl⟩ := RdS.at hlr (i := k) (by simpa using hlt)
    cases hlb
    rw [List.getElem_map, F.table_get hlt, Nat.zero_add] at hl
    refine Tri.seq (Tri.region ?_)
    refine TOps.move rfl rfl ?_
    refine TOps.indexAddr (off' := k) rfl rfl Try.underlying27 ti4 (by omega) (by omega) (by simp) rfl ?_
    refine TOps.load1 rfl ti4 hl rfl ?_
    refine TOps.assign rfl rfl ?_
    refine TOps.assign rfl rfl ?_
    refine TOps.next ?_
    refine Tri.seq (Tri.region ?_)
    refine TOps.field0 rfl Try.underlying24 rfl rfl ti3 rfl rfl rfl ?_
    refine TOps.load1 rfl ti3 (by first | exact Rd.lit (by repeat (first | exact List.Mem.head _ | apply List.Mem.tail)) rfl | (repeat (first | assumption | exact Rd.fld (by assumption) 0 rfl | apply Rd.up))) rfl ?_
    refine TOps.move rfl rfl ?_
    refine TOps.next ?_
    refine Tri.range (X := Unit) (fun y j => [(1, .pointer (some ⟨b1, 0, none⟩)), (3, slV (some la) 0 F.table.length lcap), (9, slV (some la) 0 F.table.length lcap), (10, .int .i64 F.table.length), (11, .int .i64 k), (4, .int .i64 k), (5, .bool (F.value (k : Nat)))]) (fun y j => H2) (fun y j => ∀ i, i < j → F.mono1 k i = true) (by omega) rfl rfl rfl (fun _ _ => ⟨rfl, rfl, rfl, rfl⟩) () (fun i h => absurd h (Nat.not_lt_zero _)) ⟨rfl, rfl, rfl, rfl, rfl, rfl, rfl, trivial⟩ (by repeat (first | exact Le.refl _ | assumption | apply Le.drop)) (fun j y hltj hpj => ?_) (fun y ac wc hpj hS hM => ?_)
    · skip
      have h2j : 2 ^ j < 2 ^ v := Nat.pow_lt_pow_right (by decide) hltj
      have hor : k ||| 2 ^ j < 2 ^ v := Nat.or_lt_two_pow hlt' h2j
      obtain ⟨lb2, hlb2, -, hl2⟩ := RdS.at hlr (i := k ||| 2 ^ j) (by simp; omega)
      cases hlb2
      rw [List.getElem_map, F.table_get (by omega), Nat.zero_add] at hl2
      refine Tri.seq (Tri.region ?_)
      refine TOps.move rfl rfl ?_
      refine TOps.assign rfl rfl ?_
      refine TOps.next ?_
      refine Tri.seq (Tri.region ?_)
      refine TOps.move rfl rfl ?_
      refine TOps.move rfl rfl ?_
      refine' TOps.andB 8 rfl rfl rfl rfl (fun hg8_1 => ?_) ?_; rotate_left
      · have hg8_1' := hg8_1
        try simp only [decide_eq_true_eq, decide_eq_false_iff_not, Bool.and_eq_true, Bool.or_eq_true, Bool.not_eq_true', Bool.and_eq_false_iff, Bool.or_eq_false_iff, Bool.not_eq_false', Int.not_lt, Int.not_le, ne_eq, Decidable.not_not] at hg8_1'
        refine TOps.strip 1 true rfl rfl hg8_1 rfl ?_
        refine TOps.move rfl rfl ?_
        refine TOps.move rfl rfl ?_
        refine TOps.move rfl rfl ?_
        refine TOps.shl (r := ((2 ^ j : Nat) : Int)) rfl rfl (by omega) (by rw [Int.toNat_natCast]; exact ishl_one (by omega)) rfl ?_
        refine TOps.or (r := ((k ||| 2 ^ j : Nat) : Int)) rfl rfl (ior_nat (by omega) (by omega)) rfl ?_
        refine TOps.indexAddr (off' := k ||| 2 ^ j) rfl rfl Try.underlying27 ti4 (by omega) (by omega) (by simp) rfl ?_
        refine TOps.load1 rfl ti4 hl2 rfl ?_
        refine TOps.not rfl rfl ?_
        refine TOps.blk rfl (by repeat (first | exact Ext.refl _ | refine Ext.cons rfl ?_)) (by repeat (first | exact Le.refl _ | apply Le.drop))
      refine TOps.next ?_
      refine Tri.cond rfl (fun hc1 => ?_) (fun hc1 => ?_)
      · try simp only [decide_eq_true_eq, decide_eq_false_iff_not, Bool.and_eq_true, Bool.or_eq_true, Bool.not_eq_true', Bool.and_eq_false_iff, Bool.or_eq_false_iff, Bool.not_eq_false', Int.not_lt, Int.not_le, ne_eq, Decidable.not_not, Option.isSome_iff_ne_none, Option.isNone_iff_eq_none] at hc1
        have hm0 : F.mono = false := Fm.mono_false (s := k) (i := j) (by rw [hvn]; exact hlt') (by rw [hvn]; exact hltj) (by unfold Fm.mono1; rw [hc1.1, hc1.2]; rfl)
        refine Tri.seq (Tri.region ?_)
        refine TOps.assign rfl rfl ?_
        refine TOps.next ?_
        refine Tri.ret1 (H' := H) Try.results30 (fun _ _ h => h) (.tmp rfl) l2 ⟨by rw [hm0], rfl⟩
      try simp only [decide_eq_true_eq, decide_eq_false_iff_not, Bool.and_eq_true, Bool.or_eq_true, Bool.not_eq_true', Bool.and_eq_false_iff, Bool.or_eq_false_iff, Bool.not_eq_false', Int.not_lt, Int.not_le, ne_eq, Decidable.not_not, Option.isSome_iff_ne_none, Option.isNone_iff_eq_none] at hc1
      have hm1 : F.mono1 k j = true := by unfold Fm.mono1; rcases hc1 with h | h <;> rw [h] <;> simp
      refine Tri.fin ?_
      refine Nrm.body () (by intro i hi; rcases Nat.lt_succ_iff_lt_or_eq.1 hi with h | rfl; exact hpj i h; exact hm1) ⟨rfl, rfl, rfl, rfl, rfl, rfl, rfl, rfl, rfl, trivial⟩ (by repeat (first | exact Le.refl _ | assumption | apply Le.drop))
    refine Nrm.of hS hM ?_
    refine Nrm.body () (by intro s hs; rcases Nat.lt_succ_iff_lt_or_eq.1 hs with h | rfl; exact hp s h; exact hpj) ⟨rfl, rfl, rfl, rfl, rfl, trivial⟩ (by repeat (first | exact Le.refl _ | assumption | apply Le.drop))
  refine Nrm.of hS hM ?_
  refine Nrm.next ?_
  refine Tri.seq (Tri.region ?_)
  refine TOps.assign rfl rfl ?_
  refine TOps.next ?_
  refine Tri.ret1 (H' := H) Try.results30 (fun _ _ h => h) (.tmp rfl) l2 ⟨by rw [Fm.mono_true (fun s hs i hi => hp s (by rw [hvn] at hs; omega) i (by omega))], rfl⟩
theorem rrelevant_g {H : List Ent} {fv : Value} {F : Fm} (hF : RF H fv F) (hk : F.ok) (het : F.terr = none) :
    Gives Try.prog 31 [fv] H (fun u H' => ∃ r : Nat, RelOf F r ∧ u = .int .i64 r ∧ H = H') := by
  have hF0 := hF
  obtain ⟨na, off, ncap, nsp, rfl, hN⟩ := hF
  obtain ⟨hg, h12⟩ := Fm.terr_none het
  have g0 := hg.v0
  obtain ⟨v, hv⟩ := Int.eq_ofNat_of_zero_le g0
  have hvn : F.vars.toNat = v := by omega
  have h4096 := pow12 (v := v) (by omega)
  have htl := F.table_length
  rw [hvn] at htl
  rw [hv] at hF0 ⊢
  refine Gives.enter Try.func31 rfl (by exact Try.ntmps31) rfl ?_
  refine Tri.seq (Tri.region ?_)
  refine TOps.boxN rfl ti24 rfl rfl (fun b1 => ?_)
  refine TOps.hide (fun H1 l1 s1 r1 => ?_)
  replace hF0 := hF0.le l1
  refine TOps.assign rfl rfl ?_
  refine TOps.next ?_
  refine Tri.seq (Tri.region ?_)
  refine TOps.loadN rfl ti24 (by first | exact Rd.all (by repeat (first | exact List.Mem.head _ | apply List.Mem.tail)) | (repeat (first | assumption | apply Rd.up))) rfl rfl ?_
  refine TOps.call (vs := [_]) Try.call26 ⟨rfl, trivial⟩ (rtable_g hF0 hk hg h12) rfl ?_
  rintro _ _ ⟨la, lcap, rfl, rfl⟩
  have hlr : RdS (row (some la) 4 1 lcap (bools F.table) :: H1) (some la) 0 (bools F.table) := RdS.ofRowS (List.Mem.head _)
  replace r1 := r1.up (e := row (some la) 4 1 lcap (bools F.table))
  have l2 : Le (row (some la) 4 1 lcap (bools F.table) :: H1) H := Le.drop l1
  generalize row (some la) 4 1 lcap (bools F.table) :: H1 = H2 at *
  refine TOps.assign rfl rfl ?_
  refine TOps.next ?_
  refine Tri.seq (Tri.region ?_)
  refine TOps.assign rfl rfl ?_
  refine TOps.next ?_
  refine Tri.seq ?_
  refine Tri.seq (Tri.region ?_)
  refine TOps.move rfl rfl ?_
  refine TOps.len rfl Try.underlying27 rfl ?_
  refine TOps.move rfl rfl ?_
  refine TOps.next ?_
  refine Tri.range (X := Nat) (fun x k => [(1, .pointer (some ⟨b1, 0, none⟩)), (3, slV (some la) 0 F.table.length lcap), (4, .int .i64 (x : Nat)), (10, slV (some la) 0 F.table.length lcap)]) (fun x k => H2) (fun x k => RelTo F k 0 x) (by omega) rfl rfl rfl (fun _ _ => ⟨rfl, rfl, rfl, rfl⟩) 0 (RelTo.start F) ⟨rfl, rfl, rfl, rfl, trivial⟩ (by repeat (first | exact Le.refl _ | assumption | apply Le.drop)) (fun k x hlt hp => ?_) (fun x ac wc hp hS hM => ?_)
  · skip
    have hlt' : k < 2 ^ v := by omega
    obtain ⟨lb, hlb, -, hl⟩ := RdS.at hlr (i := k) (by simpa using hlt)
    cases hlb
    rw [List.getElem_map, F.table_get hlt, Nat.zero_add] at hl
    refine Tri.seq (Tri.region ?_)
    refine TOps.move rfl rfl ?_
    refine TOps.indexAddr (off' := k) rfl rfl Try.underlying27 ti4 (by omega) (by omega) (by simp) rfl ?_
    refine TOps.load1 rfl ti4 hl rfl ?_
    refine TOps.assign rfl rfl ?_
    refine TOps.assign rfl rfl ?_
    refine TOps.next ?_
    refine Tri.seq (Tri.region ?_)
    refine TOps.field0 rfl Try.underlying24 rfl rfl ti3 rfl rfl rfl ?_
    refine TOps.load1 rfl ti3 (by first | exact Rd.lit (by repeat (first | exact List.Mem.head _ | apply List.Mem.tail)) rfl | (repeat (first | assumption | exact Rd.fld (by assumption) 0 rfl | apply Rd.up))) rfl ?_
    refine TOps.move rfl rfl ?_
    refine TOps.next ?_
    refine Tri.range (X := Nat) (fun y j => [(1, .pointer (some ⟨b1, 0, none⟩)), (3, slV (some la) 0 F.table.length lcap), (4, .int .i64 (y : Nat)), (10, slV (some la) 0 F.table.length lcap), (11, .int .i64 F.table.length), (12, .int .i64 k), (5, .int .i64 k), (6, .bool (F.value (k : Nat)))]) (fun y j => H2) (fun y j => RelTo F k j y) (by omega) rfl rfl rfl (fun _ _ => ⟨rfl, rfl, rfl, rfl⟩) x hp ⟨rfl, rfl, rfl, rfl, rfl, rfl, rfl, rfl, trivial⟩ (by repeat (first | exact Le.refl _ | assumption | apply Le.drop)) (fun j y hltj hpj => ?_) (fun y ac wc hpj hS hM => ?_)
    · skip
      have h2j : 2 ^ j < 2 ^ v := Nat.pow_lt_pow_right (by decide) hltj
      have hor : k ||| 2 ^ j < 2 ^ v := Nat.or_lt_two_pow hlt' h2j
      have hylt := hpj.lt
      rw [hvn] at hylt
      obtain ⟨lb2, hlb2, -, hl2⟩ := RdS.at hlr (i := k ||| 2 ^ j) (by simp; omega)
      cases hlb2
      rw [List.getElem_map, F.table_get (by omega), Nat.zero_add] at hl2
      refine Tri.seq (Tri.region ?_)
      refine TOps.move rfl rfl ?_
      refine TOps.assign rfl rfl ?_
      refine TOps.next ?_
      refine Tri.seq (Tri.region ?_)
      refine TOps.move rfl rfl ?_
      refine TOps.move rfl rfl ?_
      refine TOps.move rfl rfl ?_
      refine TOps.move rfl rfl ?_
      refine TOps.shl (r := ((2 ^ j : Nat) : Int)) rfl rfl (by omega) (by rw [Int.toNat_natCast]; exact ishl_one (by omega)) rfl ?_
      refine TOps.or (r := ((k ||| 2 ^ j : Nat) : Int)) rfl rfl (ior_nat (by omega) (by omega)) rfl ?_
      refine TOps.indexAddr (off' := k ||| 2 ^ j) rfl rfl Try.underlying27 ti4 (by omega) (by omega) (by simp) rfl ?_
      refine TOps.load1 rfl ti4 hl2 rfl ?_
      refine TOps.neqB rfl rfl Try.underlying4 rfl ?_
      refine TOps.next ?_
      refine Tri.cond rfl (fun hc1 => ?_) (fun hc1 => ?_)
      · try simp only [decide_eq_true_eq, decide_eq_false_iff_not, Bool.and_eq_true, Bool.or_eq_true, Bool.not_eq_true', Bool.and_eq_false_iff, Bool.or_eq_false_iff, Bool.not_eq_false', Int.not_lt, Int.not_le, ne_eq, Decidable.not_not, Option.isSome_iff_ne_none, Option.isNone_iff_eq_none] at hc1
        have hd : F.dif1 k j = true := hc1
        refine Tri.region ?_
        refine TOps.move rfl rfl ?_
        refine TOps.move rfl rfl ?_
        refine TOps.shl (r := ((2 ^ j : Nat) : Int)) rfl rfl (by omega) (by rw [Int.toNat_natCast]; exact ishl_one (by omega)) rfl ?_
        refine TOps.or (r := ((y ||| 2 ^ j : Nat) : Int)) rfl rfl (ior_nat (by omega) (by omega)) rfl ?_
        refine TOps.assign rfl rfl ?_
        refine TOps.fin ?_
        first
         | refine Nrm.body (y ||| 2 ^ j) (hpj.yes (by omega) hd) ⟨rfl, rfl, rfl, rfl, rfl, rfl, rfl, rfl, rfl, rfl, trivial⟩ (by repeat (first | exact Le.refl _ | assumption | apply Le.drop))
         | refine Nrm.body y (hpj.no hd) ⟨rfl, rfl, rfl, rfl, rfl, rfl, rfl, rfl, rfl, rfl, trivial⟩ (by repeat (first | exact Le.refl _ | assumption | apply Le.drop))
      try simp only [decide_eq_true_eq, decide_eq_false_iff_not, Bool.and_eq_true, Bool.or_eq_true, Bool.not_eq_true', Bool.and_eq_false_iff, Bool.or_eq_false_iff, Bool.not_eq_false', Int.not_lt, Int.not_le, ne_eq, Decidable.not_not, Option.isSome_iff_ne_none, Option.isNone_iff_eq_none] at hc1
      have hd : F.dif1 k j = false := by unfold Fm.dif1; simpa using hc1
      refine Tri.fin ?_
      first
       | refine Nrm.body (y ||| 2 ^ j) (hpj.yes (by omega) hd) ⟨rfl, rfl, rfl, rfl, rfl, rfl, rfl, rfl, rfl, rfl, trivial⟩ (by repeat (first | exact Le.refl _ | assumption | apply Le.drop))
       | refine Nrm.body y (hpj.no hd) ⟨rfl, rfl, rfl, rfl, rfl, rfl, rfl, rfl, rfl, rfl, trivial⟩ (by repeat (first | exact Le.refl _ | assumption | apply Le.drop))
    refine Nrm.of hS hM ?_
    refine Nrm.body y (RelTo.next (by rw [hvn]; exact hpj)) ⟨rfl, rfl, rfl, rfl, rfl, rfl, trivial⟩ (by repeat (first | exact Le.refl _ | assumption | apply Le.drop))
  refine Nrm.of hS hM ?_
  refine Nrm.next ?_
  refine Tri.seq (Tri.region ?_)
  refine TOps.move rfl rfl ?_
  refine TOps.assign rfl rfl ?_
  refine TOps.next ?_
  refine Tri.ret1 (H' := H) Try.results31 (fun _ _ h => h) (.tmp rfl) l2 ⟨x, (by unfold RelOf; rw [hvn, ← htl]; exact hp), rfl, rfl⟩
theorem truthTables_g {H : List Ent} {fv : Value} {F : Fm} (hF : RF H fv F) (hk : F.ok) :
    Gives Try.prog 7 [fv] H (R1 (.bool true) H) := by
  have hF0 := hF
  obtain ⟨na, off, ncap, nsp, rfl, hN⟩ := hF
  refine Gives.enter Try.func7 rfl (by exact Try.ntmps7) rfl ?_
  refine Tri.seq (Tri.region ?_)
  refine TOps.boxN rfl ti24 rfl rfl (fun b1 => ?_)
  refine TOps.hide (fun H1 l1 s1 r1 => ?_)
  replace hF0 := hF0.le l1
  refine TOps.assign rfl rfl ?_
  refine TOps.next ?_
  refine Tri.seq ?_
  refine Tri.seq (Tri.region ?_)
  refine TOps.call (vs := []) Try.call9 trivial (awake10_g) rfl ?_
  rintro _ _ ⟨rfl, rfl⟩
  refine TOps.not rfl rfl ?_
  refine TOps.move rfl rfl ?_
  refine' TOps.orB 3 rfl rfl rfl rfl (fun hg1_2 => ?_) ?_; rotate_left
  · have hg1_2' := hg1_2
    try simp only [decide_eq_true_eq, decide_eq_false_iff_not, Bool.and_eq_true, Bool.or_eq_true, Bool.not_eq_true', Bool.and_eq_false_iff, Bool.or_eq_false_iff, Bool.not_eq_false', Int.not_lt, Int.not_le, ne_eq, Decidable.not_not] at hg1_2'
    refine TOps.strip 2 false rfl rfl hg1_2 rfl ?_
    refine TOps.loadN rfl ti24 (by first | exact Rd.all (by repeat (first | exact List.Mem.head _ | apply List.Mem.tail)) | (repeat (first | assumption | apply Rd.up))) rfl rfl ?_
    refine TOps.call (vs := [_]) Try.call10 ⟨rfl, trivial⟩ (light_g hF0 hk) rfl ?_
    rintro _ _ ⟨rfl, rfl⟩
    refine TOps.not rfl rfl ?_
    refine TOps.blk rfl (by repeat (first | exact Ext.refl _ | refine Ext.cons rfl ?_)) (by repeat (first | exact Le.refl _ | apply Le.drop))
  refine TOps.next ?_
  refine Tri.cond rfl (fun hc1 => ?_) (fun hc1 => ?_)
  · try simp only [decide_eq_true_eq, decide_eq_false_iff_not, Bool.and_eq_true, Bool.or_eq_true, Bool.not_eq_true', Bool.and_eq_false_iff, Bool.or_eq_false_iff, Bool.not_eq_false', Int.not_lt, Int.not_le, ne_eq, Decidable.not_not, Option.isSome_iff_ne_none, Option.isNone_iff_eq_none] at hc1
    refine Tri.seq (Tri.region ?_)
    refine TOps.call (vs := []) Try.call9 trivial (awake10_g) rfl ?_
    rintro _ _ ⟨rfl, rfl⟩
    refine TOps.assign rfl rfl ?_
    refine TOps.next ?_
    refine Tri.ret1 (H' := H) Try.results7 (fun _ _ h => h) (.tmp rfl) l1 ⟨rfl, rfl⟩
  try simp only [decide_eq_true_eq, decide_eq_false_iff_not, Bool.and_eq_true, Bool.or_eq_true, Bool.not_eq_true', Bool.and_eq_false_iff, Bool.or_eq_false_iff, Bool.not_eq_false', Int.not_lt, Int.not_le, ne_eq, Decidable.not_not, Option.isSome_iff_ne_none, Option.isNone_iff_eq_none] at hc1
  refine Tri.fin ?_
  refine Nrm.next ?_
  refine Tri.seq (Tri.region ?_)
  refine TOps.loadN rfl ti24 (by first | exact Rd.all (by repeat (first | exact List.Mem.head _ | apply List.Mem.tail)) | (repeat (first | assumption | apply Rd.up))) rfl rfl ?_
  refine TOps.call (vs := [_]) Try.call11 ⟨rfl, trivial⟩ (table_g hF0 hk) rfl ?_
  rintro _ _ ⟨xs, la, lcap, hxs, rfl, hla, rfl⟩
  have hlr : RdS (row la 4 1 lcap (bools xs) :: H1) la 0 (bools xs) := RdS.ofRowA (List.Mem.head _) hla
  replace hF0 := hF0.le (Le.drop (e := row la 4 1 lcap (bools xs)) (Le.refl _)); replace r1 := r1.up (e := row la 4 1 lcap (bools xs))
  have l2 : Le (row la 4 1 lcap (bools xs) :: H1) H := Le.drop l1
  generalize row la 4 1 lcap (bools xs) :: H1 = H2 at *
  refine TOps.move rfl rfl ?_
  refine TOps.extract rfl rfl rfl ?_
  refine TOps.extract rfl rfl rfl ?_
  refine TOps.assign rfl rfl ?_
  refine TOps.assign rfl rfl ?_
  refine TOps.next ?_
  refine Tri.seq (Tri.region ?_)
  refine TOps.loadN rfl ti24 (by first | exact Rd.all (by repeat (first | exact List.Mem.head _ | apply List.Mem.tail)) | (repeat (first | assumption | apply Rd.up))) rfl rfl ?_
  refine TOps.call (vs := [_]) Try.call15 ⟨rfl, trivial⟩ (count_g hF0 hk) rfl ?_
  rintro _ _ ⟨rfl, rfl⟩
  refine TOps.move rfl rfl ?_
  refine TOps.extract rfl rfl rfl ?_
  refine TOps.extract rfl rfl rfl ?_
  refine TOps.assign rfl rfl ?_
  refine TOps.assign rfl rfl ?_
  refine TOps.next ?_
  refine Tri.seq (Tri.region ?_)
  refine TOps.loadN rfl ti24 (by first | exact Rd.all (by repeat (first | exact List.Mem.head _ | apply List.Mem.tail)) | (repeat (first | assumption | apply Rd.up))) rfl rfl ?_
  refine TOps.call (vs := [_]) Try.call14 ⟨rfl, trivial⟩ (weights_g hF0 hk) rfl ?_
  rintro _ _ ⟨ys, ma, mcap, hys, rfl, hma, rfl⟩
  have hmr : RdS (row ma 3 1 mcap (nats ys) :: H2) ma 0 (nats ys) := RdS.ofRowA (List.Mem.head _) hma
  replace hlr := RdS.up (e := row ma 3 1 mcap (nats ys)) hlr
  replace hF0 := hF0.le (Le.drop (e := row ma 3 1 mcap (nats ys)) (Le.refl _)); replace r1 := r1.up (e := row ma 3 1 mcap (nats ys))
  replace l2 := Le.drop (e := row ma 3 1 mcap (nats ys)) l2
  generalize row ma 3 1 mcap (nats ys) :: H2 = H3 at *
  refine TOps.move rfl rfl ?_
  refine TOps.extract rfl rfl rfl ?_
  refine TOps.extract rfl rfl rfl ?_
  refine TOps.assign rfl rfl ?_
  refine TOps.assign rfl rfl ?_
  refine TOps.next ?_
  refine Tri.seq (Tri.region ?_)
  refine TOps.loadN rfl ti24 (by first | exact Rd.all (by repeat (first | exact List.Mem.head _ | apply List.Mem.tail)) | (repeat (first | assumption | apply Rd.up))) rfl rfl ?_
  refine TOps.call (vs := [_]) Try.call23 ⟨rfl, trivial⟩ (monotone_g hF0 hk) rfl ?_
  rintro _ _ ⟨rfl, rfl⟩
  refine TOps.move rfl rfl ?_
  refine TOps.extract rfl rfl rfl ?_
  refine TOps.extract rfl rfl rfl ?_
  refine TOps.assign rfl rfl ?_
  refine TOps.assign rfl rfl ?_
  refine TOps.next ?_
  refine Tri.seq (Tri.region ?_)
  refine TOps.loadN rfl ti24 (by first | exact Rd.all (by repeat (first | exact List.Mem.head _ | apply List.Mem.tail)) | (repeat (first | assumption | apply Rd.up))) rfl rfl ?_
  refine TOps.call (vs := [_]) Try.call24 ⟨rfl, trivial⟩ (relevant_g hF0 hk) rfl ?_
  rintro _ _ ⟨r, hrel, rfl, rfl⟩
  refine TOps.move rfl rfl ?_
  refine TOps.extract rfl rfl rfl ?_
  refine TOps.extract rfl rfl rfl ?_
  refine TOps.assign rfl rfl ?_
  refine TOps.assign rfl rfl ?_
  refine TOps.next ?_
  refine Tri.seq ?_
  refine Tri.seq (Tri.region ?_)
  refine TOps.loadN rfl ti24 (by first | exact Rd.all (by repeat (first | exact List.Mem.head _ | apply List.Mem.tail)) | (repeat (first | assumption | apply Rd.up))) rfl rfl ?_
  refine TOps.call (vs := [_]) Try.call20 ⟨rfl, trivial⟩ (rcheck10_g hF0 hk) rfl ?_
  rintro _ _ ⟨rfl, rfl⟩
  refine TOps.assign rfl rfl ?_
  refine TOps.next ?_
  refine Tri.seq (Tri.region ?_)
  refine TOps.move rfl rfl ?_
  refine TOps.neqI rfl rfl rfl ?_
  refine TOps.next ?_
  refine Tri.cond rfl (fun hc2 => ?_) (fun hc2 => ?_)
  · try simp only [decide_eq_true_eq, decide_eq_false_iff_not, Bool.and_eq_true, Bool.or_eq_true, Bool.not_eq_true', Bool.and_eq_false_iff, Bool.or_eq_false_iff, Bool.not_eq_false', Int.not_lt, Int.not_le, ne_eq, Decidable.not_not, Option.isSome_iff_ne_none, Option.isNone_iff_eq_none] at hc2
    obtain ⟨e, he⟩ : ∃ e, F.terr = some e := by
      cases h : F.terr with
      | none => rw [h] at hc2; exact absurd rfl hc2
      | some e => exact ⟨e, rfl⟩
    rw [he]
    obtain rfl : xs = [] := by rw [hxs, he]; rfl
    obtain rfl : ys = [] := by rw [hys, he]; rfl
    refine Tri.seq ?_
    refine Tri.seq (Tri.region ?_)
    refine TOps.move rfl rfl ?_
    refine TOps.move rfl rfl ?_
    refine TOps.move rfl rfl ?_
    refine TOps.move rfl rfl ?_
    refine TOps.move rfl rfl ?_
    refine TOps.buildSlice (vs := [_, _, _, _, _]) (xs := [_, _, _, _, _]) Try.underlying54 ti29 ⟨rfl, rfl, rfl, rfl, rfl, rfl, rfl, rfl, rfl, rfl, trivial⟩ rfl rfl rfl rfl rfl rfl (by decide) rfl (fun b58 => ?_)
    refine TOps.len rfl Try.underlying54 rfl ?_
    refine TOps.move rfl rfl ?_
    refine TOps.next ?_
    refine Tri.range (X := Unit) (fun x k => [(3, slV la 0 0 lcap), (5, .int .i64 0), (7, slV ma 0 0 mcap), (9, .bool false), (11, .int .i64 0), (13, .int .i64 e), (58, slV (some b58) 0 5 5)]) (fun x k => row (some b58) 29 1 5 [errV 48 (some e), errV 48 (some e), errV 48 (some e), errV 48 (some e), errV 48 (some e)] :: H3) (fun x k => True) (by omega) rfl rfl rfl (fun _ _ => ⟨rfl, rfl, rfl, rfl⟩) () trivial ⟨rfl, rfl, rfl, rfl, rfl, rfl, rfl, trivial⟩ (by repeat (first | exact Le.refl _ | assumption | apply Le.drop)) (fun k x hlt hp => ?_) (fun x ac wc hp hS hM => ?_)
    · skip
      refine Tri.seq (Tri.region ?_)
      refine TOps.indexAddr (off' := k) rfl rfl Try.underlying54 ti29 (by omega) (by omega) (by simp) rfl ?_
      refine TOps.load1 (v := errV 48 (some e)) rfl ti29 (Rd.lit (List.Mem.head _) (by rcases k with _|_|_|_|_|k <;> first | rfl | omega)) rfl ?_
      refine TOps.assign rfl rfl ?_
      refine TOps.next ?_
      refine Tri.seq (Tri.region ?_)
      refine TOps.move rfl rfl ?_
      refine TOps.call (vs := [_]) Try.call16 ⟨rfl, trivial⟩ (num_g (some e)) rfl ?_
      rintro _ _ ⟨rfl, rfl⟩
      refine TOps.move rfl rfl ?_
      refine TOps.neqIr (r := false) rfl rfl (by simp) rfl ?_
      refine TOps.next ?_
      refine Tri.cond rfl (fun hc3 => ?_) (fun hc3 => ?_)
      · try simp only [decide_eq_true_eq, decide_eq_false_iff_not, Bool.and_eq_true, Bool.or_eq_true, Bool.not_eq_true', Bool.and_eq_false_iff, Bool.or_eq_false_iff, Bool.not_eq_false', Int.not_lt, Int.not_le, ne_eq, Decidable.not_not, Option.isSome_iff_ne_none, Option.isNone_iff_eq_none] at hc3
        have hfalse : False := by simp at hc3
        refine Tri.seq (Tri.region ?_)
        refine TOps.assign rfl rfl ?_
        refine TOps.next ?_
        exact hfalse.elim
      try simp only [decide_eq_true_eq, decide_eq_false_iff_not, Bool.and_eq_true, Bool.or_eq_true, Bool.not_eq_true', Bool.and_eq_false_iff, Bool.or_eq_false_iff, Bool.not_eq_false', Int.not_lt, Int.not_le, ne_eq, Decidable.not_not, Option.isSome_iff_ne_none, Option.isNone_iff_eq_none] at hc3
      refine Tri.fin ?_
      refine Nrm.body () trivial ⟨rfl, rfl, rfl, rfl, rfl, rfl, rfl, rfl, rfl, trivial⟩ (by repeat (first | exact Le.refl _ | assumption | apply Le.drop))
    refine Nrm.of hS hM ?_
    refine Nrm.next ?_
    refine Tri.seq (Tri.region ?_)
    refine TOps.move rfl rfl ?_
    refine TOps.len rfl Try.underlying27 rfl ?_
    refine TOps.move rfl rfl ?_
    refine TOps.add rfl rfl (wrapI (by omega) (by omega)) rfl ?_
    refine TOps.move rfl rfl ?_
    refine TOps.len rfl Try.underlying36 rfl ?_
    refine TOps.add rfl rfl (wrapI (by omega) (by omega)) rfl ?_
    refine TOps.move rfl rfl ?_
    refine TOps.add rfl rfl (wrapI (by omega) (by omega)) rfl ?_
    refine TOps.eqlI rfl rfl rfl ?_
    refine TOps.move rfl rfl ?_
    refine' TOps.andB 2 rfl rfl rfl rfl (fun hg16_10 => ?_) ?_; rotate_left
    · have hg16_10' := hg16_10
      try simp only [decide_eq_true_eq, decide_eq_false_iff_not, Bool.and_eq_true, Bool.or_eq_true, Bool.not_eq_true', Bool.and_eq_false_iff, Bool.or_eq_false_iff, Bool.not_eq_false', Int.not_lt, Int.not_le, ne_eq, Decidable.not_not] at hg16_10'
      refine TOps.strip 10 true rfl rfl hg16_10 rfl ?_
      refine TOps.move rfl rfl ?_
      refine TOps.not rfl rfl ?_
      refine TOps.blk rfl (by repeat (first | exact Ext.refl _ | refine Ext.cons rfl ?_)) (by repeat (first | exact Le.refl _ | apply Le.drop))
    refine TOps.assign rfl rfl ?_
    refine TOps.next ?_
    refine Tri.ret1 (H' := H) Try.results7 (fun _ _ h => h) (.tmp rfl) (Le.drop l2) ⟨rfl, rfl⟩
  try simp only [decide_eq_true_eq, decide_eq_false_iff_not, Bool.and_eq_true, Bool.or_eq_true, Bool.not_eq_true', Bool.and_eq_false_iff, Bool.or_eq_false_iff, Bool.not_eq_false', Int.not_lt, Int.not_le, ne_eq, Decidable.not_not, Option.isSome_iff_ne_none, Option.isNone_iff_eq_none] at hc2
  have he : F.terr = none := Fm.terr_of hc2
  obtain ⟨hg, h12⟩ := Fm.terr_none he
  replace hrel := hrel he
  obtain rfl : xs = F.table := by rw [hxs, he]; rfl
  obtain rfl : ys = F.weights := by rw [hys, he]; rfl
  rw [he, show (bif (none : Option Int).isNone then (r : Int) else 0) = (r : Int) from rfl, show ((none : Option Int).isNone && F.mono) = F.mono from rfl, show (bif (none : Option Int).isNone then (F.count : Int) else 0) = (F.count : Int) from rfl]
  have g0 := hg.v0
  have h4096 := pow12 (v := F.vars.toNat) (by omega)
  have htl := F.table_length
  have hwl := F.weights_length
  refine Tri.fin ?_
  refine Nrm.next ?_
  refine Tri.seq ?_
  refine Tri.seq (Tri.region ?_)
  refine TOps.move rfl rfl ?_
  refine TOps.neqNil (T := 48) (o := none) rfl Try.underlying29 rfl ?_
  refine TOps.move rfl rfl ?_
  refine' TOps.orB 2 rfl rfl rfl rfl (fun hg17_2 => ?_) ?_; rotate_left
  · have hg17_2' := hg17_2
    try simp only [decide_eq_true_eq, decide_eq_false_iff_not, Bool.and_eq_true, Bool.or_eq_true, Bool.not_eq_true', Bool.and_eq_false_iff, Bool.or_eq_false_iff, Bool.not_eq_false', Int.not_lt, Int.not_le, ne_eq, Decidable.not_not] at hg17_2'
    refine TOps.strip 2 false rfl rfl hg17_2 rfl ?_
    refine TOps.move rfl rfl ?_
    refine TOps.neqNil (T := 48) (o := none) rfl Try.underlying29 rfl ?_
    refine TOps.blk rfl (by repeat (first | exact Ext.refl _ | refine Ext.cons rfl ?_)) (by repeat (first | exact Le.refl _ | apply Le.drop))
  refine TOps.move rfl rfl ?_
  refine' TOps.orB 2 rfl rfl rfl rfl (fun hg17_6 => ?_) ?_; rotate_left
  · have hg17_6' := hg17_6
    try simp only [decide_eq_true_eq, decide_eq_false_iff_not, Bool.and_eq_true, Bool.or_eq_true, Bool.not_eq_true', Bool.and_eq_false_iff, Bool.or_eq_false_iff, Bool.not_eq_false', Int.not_lt, Int.not_le, ne_eq, Decidable.not_not] at hg17_6'
    refine TOps.strip 6 false rfl rfl hg17_6 rfl ?_
    refine TOps.move rfl rfl ?_
    refine TOps.neqNil (T := 48) (o := none) rfl Try.underlying29 rfl ?_
    refine TOps.blk rfl (by repeat (first | exact Ext.refl _ | refine Ext.cons rfl ?_)) (by repeat (first | exact Le.refl _ | apply Le.drop))
  refine TOps.move rfl rfl ?_
  refine' TOps.orB 2 rfl rfl rfl rfl (fun hg17_10 => ?_) ?_; rotate_left
  · have hg17_10' := hg17_10
    try simp only [decide_eq_true_eq, decide_eq_false_iff_not, Bool.and_eq_true, Bool.or_eq_true, Bool.not_eq_true', Bool.and_eq_false_iff, Bool.or_eq_false_iff, Bool.not_eq_false', Int.not_lt, Int.not_le, ne_eq, Decidable.not_not] at hg17_10'
    refine TOps.strip 10 false rfl rfl hg17_10 rfl ?_
    refine TOps.move rfl rfl ?_
    refine TOps.neqNil (T := 48) (o := none) rfl Try.underlying29 rfl ?_
    refine TOps.blk rfl (by repeat (first | exact Ext.refl _ | refine Ext.cons rfl ?_)) (by repeat (first | exact Le.refl _ | apply Le.drop))
  refine TOps.move rfl rfl ?_
  refine' TOps.orB 2 rfl rfl rfl rfl (fun hg17_14 => ?_) ?_; rotate_left
  · have hg17_14' := hg17_14
    try simp only [decide_eq_true_eq, decide_eq_false_iff_not, Bool.and_eq_true, Bool.or_eq_true, Bool.not_eq_true', Bool.and_eq_false_iff, Bool.or_eq_false_iff, Bool.not_eq_false', Int.not_lt, Int.not_le, ne_eq, Decidable.not_not] at hg17_14'
    refine TOps.strip 14 false rfl rfl hg17_14 rfl ?_
    refine TOps.move rfl rfl ?_
    refine TOps.neqNil (T := 48) (o := none) rfl Try.underlying29 rfl ?_
    refine TOps.blk rfl (by repeat (first | exact Ext.refl _ | refine Ext.cons rfl ?_)) (by repeat (first | exact Le.refl _ | apply Le.drop))
  refine TOps.next ?_
  refine Tri.cond rfl (fun hc4 => ?_) (fun hc4 => ?_)
  · try simp only [decide_eq_true_eq, decide_eq_false_iff_not, Bool.and_eq_true, Bool.or_eq_true, Bool.not_eq_true', Bool.and_eq_false_iff, Bool.or_eq_false_iff, Bool.not_eq_false', Int.not_lt, Int.not_le, ne_eq, Decidable.not_not, Option.isSome_iff_ne_none, Option.isNone_iff_eq_none] at hc4
    have hfalse : False := by simp at hc4
    refine Tri.seq (Tri.region ?_)
    refine TOps.assign rfl rfl ?_
    refine TOps.next ?_
    exact hfalse.elim
  try simp only [decide_eq_true_eq, decide_eq_false_iff_not, Bool.and_eq_true, Bool.or_eq_true, Bool.not_eq_true', Bool.and_eq_false_iff, Bool.or_eq_false_iff, Bool.not_eq_false', Int.not_lt, Int.not_le, ne_eq, Decidable.not_not, Option.isSome_iff_ne_none, Option.isNone_iff_eq_none] at hc4
  refine Tri.fin ?_
  refine Nrm.next ?_
  refine Tri.seq (Tri.region ?_)
  refine TOps.move rfl rfl ?_
  refine TOps.loadN rfl ti24 (by first | exact Rd.all (by repeat (first | exact List.Mem.head _ | apply List.Mem.tail)) | (repeat (first | assumption | apply Rd.up))) rfl rfl ?_
  refine TOps.call (vs := [_]) Try.call26 ⟨rfl, trivial⟩ (rtable_g hF0 hk hg h12) rfl ?_
  rintro _ _ ⟨ta, tcap, rfl, rfl⟩
  have htr : RdS (row (some ta) 4 1 tcap (bools F.table) :: H3) (some ta) 0 (bools F.table) := RdS.ofRowS (List.Mem.head _)
  replace hlr := RdS.up (e := row (some ta) 4 1 tcap (bools F.table)) hlr
  replace hmr := RdS.up (e := row (some ta) 4 1 tcap (bools F.table)) hmr
  replace hF0 := hF0.le (Le.drop (e := row (some ta) 4 1 tcap (bools F.table)) (Le.refl _)); replace r1 := r1.up (e := row (some ta) 4 1 tcap (bools F.table))
  replace l2 := Le.drop (e := row (some ta) 4 1 tcap (bools F.table)) l2
  generalize row (some ta) 4 1 tcap (bools F.table) :: H3 = H4 at *
  refine TOps.call (vs := [_, _]) Try.call25 ⟨rfl, rfl, trivial⟩ (bools_g (xs := F.table) (ys := F.table) hlr htr (by omega) (by omega)) rfl ?_
  rintro _ _ ⟨rfl, rfl⟩
  rw [decide_eq_true rfl]
  refine TOps.move rfl rfl ?_
  refine' TOps.andB 4 rfl rfl rfl rfl (fun hg19_4 => ?_) ?_; rotate_left
  · have hg19_4' := hg19_4
    try simp only [decide_eq_true_eq, decide_eq_false_iff_not, Bool.and_eq_true, Bool.or_eq_true, Bool.not_eq_true', Bool.and_eq_false_iff, Bool.or_eq_false_iff, Bool.not_eq_false', Int.not_lt, Int.not_le, ne_eq, Decidable.not_not] at hg19_4'
    refine TOps.strip 4 true rfl rfl hg19_4 rfl ?_
    refine TOps.move rfl rfl ?_
    refine TOps.loadN rfl ti24 (by first | exact Rd.all (by repeat (first | exact List.Mem.head _ | apply List.Mem.tail)) | (repeat (first | assumption | apply Rd.up))) rfl rfl ?_
    refine TOps.call (vs := [_]) Try.call27 ⟨rfl, trivial⟩ (rcount_g hF0 hk he) rfl ?_
    rintro _ _ ⟨rfl, rfl⟩
    refine TOps.eqlIr (r := true) rfl rfl (by simp) rfl ?_
    refine TOps.blk rfl (by repeat (first | exact Ext.refl _ | refine Ext.cons rfl ?_)) (by repeat (first | exact Le.refl _ | apply Le.drop))
  refine TOps.move rfl rfl ?_
  refine' TOps.andB 4 rfl rfl rfl rfl (fun hg19_10 => ?_) ?_; rotate_left
  · have hg19_10' := hg19_10
    try simp only [decide_eq_true_eq, decide_eq_false_iff_not, Bool.and_eq_true, Bool.or_eq_true, Bool.not_eq_true', Bool.and_eq_false_iff, Bool.or_eq_false_iff, Bool.not_eq_false', Int.not_lt, Int.not_le, ne_eq, Decidable.not_not] at hg19_10'
    refine TOps.strip 10 true rfl rfl hg19_10 rfl ?_
    refine TOps.move rfl rfl ?_
    refine TOps.loadN rfl ti24 (by first | exact Rd.all (by repeat (first | exact List.Mem.head _ | apply List.Mem.tail)) | (repeat (first | assumption | apply Rd.up))) rfl rfl ?_
    refine TOps.call (vs := [_]) Try.call29 ⟨rfl, trivial⟩ (rweights_g hF0 hk he) rfl ?_
    rintro _ _ ⟨wa, rfl, rfl⟩
    refine TOps.call (vs := [_, _]) Try.call28 ⟨rfl, rfl, trivial⟩ (intsN_g (xs := F.weights) (ys := F.weights) (RdS.up hmr) (RdS.ofRowS (List.Mem.head _)) rfl rfl (by omega)) rfl ?_
    rintro _ _ ⟨rfl, rfl⟩
    rw [decide_eq_true rfl]
    refine TOps.blk rfl (by repeat (first | exact Ext.refl _ | refine Ext.cons rfl ?_)) (by repeat (first | exact Le.refl _ | apply Le.drop))
  refine TOps.move rfl rfl ?_
  refine' TOps.andB 4 rfl rfl rfl rfl (fun hg19_16 => ?_) ?_; rotate_left
  · have hg19_16' := hg19_16
    try simp only [decide_eq_true_eq, decide_eq_false_iff_not, Bool.and_eq_true, Bool.or_eq_true, Bool.not_eq_true', Bool.and_eq_false_iff, Bool.or_eq_false_iff, Bool.not_eq_false', Int.not_lt, Int.not_le, ne_eq, Decidable.not_not] at hg19_16'
    refine TOps.strip 16 true rfl rfl hg19_16 rfl ?_
    refine TOps.move rfl rfl ?_
    refine TOps.loadN rfl ti24 (by first | exact Rd.all (by repeat (first | exact List.Mem.head _ | apply List.Mem.tail)) | (repeat (first | assumption | apply Rd.up))) rfl rfl ?_
    refine TOps.call (vs := [_]) Try.call30 ⟨rfl, trivial⟩ (rmonotone_g hF0 hk he) rfl ?_
    rintro _ _ ⟨rfl, rfl⟩
    refine TOps.eqlBr (r := true) rfl rfl (by simp) Try.underlying4 rfl ?_
    refine TOps.blk rfl (by repeat (first | exact Ext.refl _ | refine Ext.cons rfl ?_)) (by repeat (first | exact Le.refl _ | apply Le.drop))
  refine TOps.move rfl rfl ?_
  refine' TOps.andB 4 rfl rfl rfl rfl (fun hg19_22 => ?_) ?_; rotate_left
  · have hg19_22' := hg19_22
    try simp only [decide_eq_true_eq, decide_eq_false_iff_not, Bool.and_eq_true, Bool.or_eq_true, Bool.not_eq_true', Bool.and_eq_false_iff, Bool.or_eq_false_iff, Bool.not_eq_false', Int.not_lt, Int.not_le, ne_eq, Decidable.not_not] at hg19_22'
    refine TOps.strip 22 true rfl rfl hg19_22 rfl ?_
    refine TOps.move rfl rfl ?_
    refine TOps.loadN rfl ti24 (by first | exact Rd.all (by repeat (first | exact List.Mem.head _ | apply List.Mem.tail)) | (repeat (first | assumption | apply Rd.up))) rfl rfl ?_
    refine TOps.call (vs := [_]) Try.call31 ⟨rfl, trivial⟩ (rrelevant_g hF0 hk he) rfl ?_
    rintro _ _ ⟨r2, hr2, rfl, rfl⟩
    obtain rfl : r = r2 := hrel.uniq hr2
    refine TOps.eqlIr (r := true) rfl rfl (by simp) rfl ?_
    refine TOps.blk rfl (by repeat (first | exact Ext.refl _ | refine Ext.cons rfl ?_)) (by repeat (first | exact Le.refl _ | apply Le.drop))
  refine TOps.assign rfl rfl ?_
  refine TOps.next ?_
  refine Tri.ret1 (H' := H) Try.results7 (fun _ _ h => h) (.tmp rfl) l2 ⟨rfl, rfl⟩
end Go.Proofs
