import Derived.Test.YtlgjmebebhpolaaI10
namespace Go.Proofs
open Go.GL
set_option linter.unusedVariables false
set_option linter.unusedSimpArgs false
theorem relevant_g {H : List Ent} {fv : Value} {F : Fm} (hF : RF H fv F) (hk : F.ok) :
    Gives Try.prog 24 [fv] H (fun u H' => ∃ r : Nat, (F.terr = none → RelOf F r) ∧ u = .tuple (List.toArray [.int .i64 (bif F.terr.isNone then (r : Int) else 0), errV 48 F.terr]) ∧ H = H') := by
  have hF0 := hF
  obtain ⟨na, off, ncap, nsp, rfl, hN⟩ := hF
  refine Gives.enter Try.func24 rfl (by exact Try.ntmps24) rfl ?_
  refine Tri.seq (Tri.region ?_)
  refine TOps.boxN rfl ti24 rfl rfl (fun b1 => ?_)
  refine TOps.hide (fun H1 l1 s1 r1 => ?_)
  replace hF0 := hF0.le l1
  refine TOps.assign rfl rfl ?_
  refine TOps.assign rfl rfl ?_
  refine TOps.next ?_
  refine Tri.seq (Tri.region ?_)
  refine TOps.loadN rfl ti24 (by first | exact Rd.all (by repeat (first | exact List.Mem.head _ | apply List.Mem.tail)) | (repeat (first | assumption | apply Rd.up))) rfl rfl ?_
  refine TOps.call (vs := [_]) Try.call11 ⟨rfl, trivial⟩ (table_g hF0 hk) rfl ?_
  rintro _ _ ⟨xs, la, lcap, hxs, rfl, hla, rfl⟩
  have hlr : RdS (row la 4 1 lcap (bools xs) :: H1) la 0 (bools xs) := RdS.ofRowA (List.Mem.head _) hla
  replace r1 := r1.up (e := row la 4 1 lcap (bools xs))
  have l2 : Le (row la 4 1 lcap (bools xs) :: H1) H := Le.drop l1
  generalize row la 4 1 lcap (bools xs) :: H1 = H2 at *
  refine TOps.move rfl rfl ?_
  refine TOps.extract rfl rfl rfl ?_
  refine TOps.extract rfl rfl rfl ?_
  refine TOps.assign rfl rfl ?_
  refine TOps.assign rfl rfl ?_
  refine TOps.next ?_
  refine Tri.seq ?_
  refine Tri.seq (Tri.region ?_)
  refine TOps.move rfl rfl ?_
  refine TOps.neqNil rfl Try.underlying29 rfl ?_
  refine TOps.next ?_
  refine Tri.cond rfl (fun hc1 => ?_) (fun hc1 => ?_)
  · try simp only [decide_eq_true_eq, decide_eq_false_iff_not, Bool.and_eq_true, Bool.or_eq_true, Bool.not_eq_true', Bool.and_eq_false_iff, Bool.or_eq_false_iff, Bool.not_eq_false', Int.not_lt, Int.not_le, ne_eq, Decidable.not_not, Option.isSome_iff_ne_none, Option.isNone_iff_eq_none] at hc1
    obtain ⟨e, he⟩ := Option.ne_none_iff_exists'.1 hc1
    refine Tri.seq (Tri.region ?_)
    refine TOps.move rfl rfl ?_
    refine TOps.assign rfl rfl ?_
    refine TOps.assign rfl rfl ?_
    refine TOps.next ?_
    refine Tri.ret2 (H' := H) Try.results24 (fun _ _ h => h) (.tmp rfl) (.tmp rfl) l2 ⟨0, fun h => (by rw [he] at h; cases h), by rw [he]; rfl, rfl⟩
  try simp only [decide_eq_true_eq, decide_eq_false_iff_not, Bool.and_eq_true, Bool.or_eq_true, Bool.not_eq_true', Bool.and_eq_false_iff, Bool.or_eq_false_iff, Bool.not_eq_false', Int.not_lt, Int.not_le, ne_eq, Decidable.not_not, Option.isSome_iff_ne_none, Option.isNone_iff_eq_none] at hc1
  have he : F.terr = none := by simpa using hc1
  obtain ⟨hg, h12⟩ := Fm.terr_none he
  have g0 := hg.v0
  obtain rfl : xs = F.table := by rw [hxs, he]; rfl
  obtain ⟨v, hv⟩ := Int.eq_ofNat_of_zero_le g0
  have hvn : F.vars.toNat = v := by omega
  have h4096 := pow12 (v := v) (by omega)
  have htl := F.table_length
  rw [hvn] at htl
  rw [hv] at r1
  refine Tri.fin ?_
  refine Nrm.next ?_
  refine Tri.seq (Tri.region ?_)
  refine TOps.assign rfl rfl ?_
  refine TOps.next ?_
  refine Tri.seq ?_
  refine Tri.seq (Tri.region ?_)
  refine TOps.move rfl rfl ?_
  refine TOps.len rfl Try.underlying27 rfl ?_
  refine TOps.move rfl rfl ?_
  refine TOps.next ?_
  refine Tri.range (X := Nat) (fun x k => [(1, .pointer (some ⟨b1, 0, none⟩)), (4, slV la 0 F.table.length lcap), (6, .int .i64 (x : Nat)), (18, slV la 0 F.table.length lcap)]) (fun x k => H2) (fun x k => RelTo F k 0 x) (by omega) rfl rfl rfl (fun _ _ => ⟨rfl, rfl, rfl, rfl⟩) 0 (RelTo.start F) ⟨rfl, rfl, rfl, rfl, trivial⟩ (by repeat (first | exact Le.refl _ | assumption | apply Le.drop)) (fun k x hlt hp => ?_) (fun x ac wc hp hS hM => ?_)
  · skip
    have hlt' : k < 2 ^ v := by omega
    obtain ⟨lb, rfl, -, hl⟩ := RdS.at hlr (i := k) (by simpa using hlt)
    rw [List.getElem_map, F.table_get hlt, Nat.zero_add] at hl
    refine Tri.seq (Tri.region ?_)
    refine TOps.move rfl rfl ?_
    refine TOps.indexAddr (off' := k) rfl rfl Try.underlying27 ti4 (by omega) (by omega) (by simp) rfl ?_
    refine TOps.load1 rfl ti4 hl rfl ?_
    refine TOps.assign rfl rfl ?_
    refine TOps.assign rfl rfl ?_
    refine TOps.next ?_
    refine Tri.seq (Tri.region ?_)
    refine TOps.field0 rfl Try.underlying24 rfl rfl ti3 rfl rfl rfl ?_
    refine TOps.load1 rfl ti3 (by first | exact Rd.lit (by repeat (first | exact List.Mem.head _ | apply List.Mem.tail)) rfl | (repeat (first | assumption | exact Rd.fld (by assumption) 0 rfl | apply Rd.up))) rfl ?_
    refine TOps.move rfl rfl ?_
    refine TOps.next ?_
    refine Tri.range (X := Nat) (fun y j => [(1, .pointer (some ⟨b1, 0, none⟩)), (4, slV (some lb) 0 F.table.length lcap), (6, .int .i64 (y : Nat)), (18, slV (some lb) 0 F.table.length lcap), (19, .int .i64 F.table.length), (20, .int .i64 k), (7, .int .i64 k), (8, .bool (F.value (k : Nat)))]) (fun y j => H2) (fun y j => RelTo F k j y) (by omega) rfl rfl rfl (fun _ _ => ⟨rfl, rfl, rfl, rfl⟩) x hp ⟨rfl, rfl, rfl, rfl, rfl, rfl, rfl, rfl, trivial⟩ (by repeat (first | exact Le.refl _ | assumption | apply Le.drop)) (fun j y hltj hpj => ?_) (fun y ac wc hpj hS hM => ?_)
    · skip
      have h2j : 2 ^ j < 2 ^ v := Nat.pow_lt_pow_right (by decide) hltj
      have hor : k ||| 2 ^ j < 2 ^ v := Nat.or_lt_two_pow hlt' h2j
      have hylt := hpj.lt
      rw [hvn] at hylt
      obtain ⟨lb2, hlb2, -, hl2⟩ := RdS.at hlr (i := k ||| 2 ^ j) (by simp; omega)
      cases hlb2
      rw [List.getElem_map, F.table_get (by omega), Nat.zero_add] at hl2
      refine Tri.seq (Tri.region ?_)
      refine TOps.move rfl rfl ?_
      refine TOps.assign rfl rfl ?_
      refine TOps.next ?_
      refine Tri.seq (Tri.region ?_)
      refine TOps.move rfl rfl ?_
      refine TOps.move rfl rfl ?_
      refine TOps.move rfl rfl ?_
      refine TOps.move rfl rfl ?_
      refine TOps.shl (r := ((2 ^ j : Nat) : Int)) rfl rfl (by omega) (by rw [Int.toNat_natCast]; exact ishl_one (by omega)) rfl ?_
      refine TOps.or (r := ((k ||| 2 ^ j : Nat) : Int)) rfl rfl (ior_nat (by omega) (by omega)) rfl ?_
      refine TOps.indexAddr (off' := k ||| 2 ^ j) rfl rfl Try.underlying27 ti4 (by omega) (by omega) (by simp) rfl ?_
      refine TOps.load1 rfl ti4 hl2 rfl ?_
      refine TOps.neqB rfl rfl Try.underlying4 rfl ?_
      refine TOps.next ?_
      refine Tri.cond rfl (fun hc2 => ?_) (fun hc2 => ?_)
      · try simp only [decide_eq_true_eq, decide_eq_false_iff_not, Bool.and_eq_true, Bool.or_eq_true, Bool.not_eq_true', Bool.and_eq_false_iff, Bool.or_eq_false_iff, Bool.not_eq_false', Int.not_lt, Int.not_le, ne_eq, Decidable.not_not, Option.isSome_iff_ne_none, Option.isNone_iff_eq_none] at hc2
        have hd : F.dif1 k j = true := hc2
        refine Tri.region ?_
        refine TOps.move rfl rfl ?_
        refine TOps.move rfl rfl ?_
        refine TOps.shl (r := ((2 ^ j : Nat) : Int)) rfl rfl (by omega) (by rw [Int.toNat_natCast]; exact ishl_one (by omega)) rfl ?_
        refine TOps.or (r := ((y ||| 2 ^ j : Nat) : Int)) rfl rfl (ior_nat (by omega) (by omega)) rfl ?_
        refine TOps.assign rfl rfl ?_
        refine TOps.fin ?_
        first
         | refine Nrm.body (y ||| 2 ^ j) (hpj.yes (by omega) hd) ⟨rfl, rfl, rfl, rfl, rfl, rfl, rfl, rfl, rfl, rfl, trivial⟩ (by repeat (first | exact Le.refl _ | assumption | apply Le.drop))
         | refine Nrm.body y (hpj.no hd) ⟨rfl, rfl, rfl, rfl, rfl, rfl, rfl, rfl, rfl, rfl, trivial⟩ (by repeat (first | exact Le.refl _ | assumption | apply Le.drop))
      try simp only [decide_eq_true_eq, decide_eq_false_iff_not, Bool.and_eq_true, Bool.or_eq_true, Bool.not_eq_true', Bool.and_eq_false_iff, Bool.or_eq_false_iff, Bool.not_eq_false', Int.not_lt, Int.not_le, ne_eq, Decidable.not_not, Option.isSome_iff_ne_none, Option.isNone_iff_eq_none] at hc2
      have hd : F.dif1 k j = false := by unfold Fm.dif1; simpa using hc2
      refine Tri.fin ?_
      first
       | refine Nrm.body (y ||| 2 ^ j) (hpj.yes (by omega) hd) ⟨rfl, rfl, rfl, rfl, rfl, rfl, rfl, rfl, rfl, rfl, trivial⟩ (by repeat (first | exact Le.refl _ | assumption | apply Le.drop))
       | refine Nrm.body y (hpj.no hd) ⟨rfl, rfl, rfl, rfl, rfl, rfl, rfl, rfl, rfl, rfl, trivial⟩ (by repeat (first | exact Le.refl _ | assumption | apply Le.drop))
    refine Nrm.of hS hM ?_
    refine Nrm.body y (RelTo.next (by rw [hvn]; exact hpj)) ⟨rfl, rfl, rfl, rfl, rfl, rfl, trivial⟩ (by repeat (first | exact Le.refl _ | assumption | apply Le.drop))
  refine Nrm.of hS hM ?_
  refine Nrm.next ?_
  refine Tri.seq (Tri.region ?_)
  refine TOps.move rfl rfl ?_
  refine TOps.assign rfl rfl ?_
  refine TOps.assign rfl rfl ?_
  refine TOps.next ?_
  refine Tri.ret2 (H' := H) Try.results24 (fun _ _ h => h) (.tmp rfl) (.tmp rfl) l2 ⟨x, fun _ => (by unfold RelOf; rw [hvn, ← htl]; exact hp), by rw [he]; rfl, rfl⟩
end Go.Proofs
