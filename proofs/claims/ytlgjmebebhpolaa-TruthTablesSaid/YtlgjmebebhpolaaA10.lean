import Derived.Test.YtlgjmebebhpolaaPP
import Derived.Test.YtlgjmebebhpolaaGL38
namespace Go.Proofs
open Go.GL
set_option linter.unusedVariables false
set_option linter.unusedSimpArgs false
theorem intsN_g {H : List Ent} {xs ys : List Nat} {a1 s1 a2 s2 : Option Nat} {o1 c1 o2 c2 m1 m2 : Nat} (hr1 : RdS H a1 o1 (nats xs) s1) (hr2 : RdS H a2 o2 (nats ys) s2) (h1 : xs.length = m1) (h2 : ys.length = m2) (hm : m1 ≤ 1000000 ∧ m2 ≤ 1000000) :
    Gives Try.prog 28 [slV a1 o1 m1 c1 s1, slV a2 o2 m2 c2 s2] H (R1 (.bool (decide (xs = ys))) H) := by
  have e : ∀ l : List Nat, nats l = ints (l.map (fun (n : Nat) => (n : Int))) := fun l => by simp [nats, ints]
  have hq : ∀ l l' : List Nat, l.map (fun (n : Nat) => (n : Int)) = l'.map (fun (n : Nat) => (n : Int)) ↔ l = l' := fun l l' => ⟨fun h => (List.map_inj_right (fun x y h => by omega)).1 h, fun h => by rw [h]⟩
  subst h1 h2
  have h := ints_g (H := H) (xs := xs.map (fun (n : Nat) => (n : Int))) (ys := ys.map (fun (n : Nat) => (n : Int))) (c1 := c1) (c2 := c2) (by unfold RInts; rw [← e]; exact hr1) (by unfold RInts; rw [← e]; exact hr2) (by rw [List.length_map]; omega) (by rw [List.length_map]; omega)
  rw [List.length_map, List.length_map, decide_eq_decide.2 (hq xs ys)] at h
  exact h
theorem tcheck10_g {H : List Ent} {fv : Value} {F : Fm} (hF : RF H fv F) (hk : F.ok) :
    Gives Try.prog 33 [fv] H (R1 (errV 48 F.terr) H) := by
  have hF0 := hF
  obtain ⟨a, off, cap, nsp, rfl, hN⟩ := hF
  refine Gives.enter Try.func33 rfl (by exact Try.ntmps33) rfl ?_
  refine Tri.seq (Tri.region ?_)
  refine TOps.boxN rfl ti24 rfl rfl (fun b1 => ?_)
  refine TOps.hide (fun H1 l1 s1 r1 => ?_)
  replace hF0 := hF0.le l1
  refine TOps.assign rfl rfl ?_
  refine TOps.next ?_
  refine Tri.seq ?_
  refine Tri.seq (Tri.region ?_)
  refine TOps.loadN rfl ti24 (by first | exact Rd.all (by repeat (first | exact List.Mem.head _ | apply List.Mem.tail)) | (repeat (first | assumption | apply Rd.up))) rfl rfl ?_
  refine TOps.call (vs := [_]) Try.call18 ⟨rfl, trivial⟩ (check_g hF0 hk) rfl ?_
  rintro _ _ ⟨rfl, rfl⟩
  refine TOps.assign rfl rfl ?_
  refine TOps.next ?_
  refine Tri.seq (Tri.region ?_)
  refine TOps.move rfl rfl ?_
  refine TOps.neqNil rfl Try.underlying29 rfl ?_
  refine TOps.next ?_
  refine Tri.cond rfl (fun hc1 => ?_) (fun hc1 => ?_)
  · try simp only [decide_eq_true_eq, decide_eq_false_iff_not, Bool.and_eq_true, Bool.or_eq_true, Bool.not_eq_true', Bool.and_eq_false_iff, Bool.or_eq_false_iff, Bool.not_eq_false', Int.not_lt, Int.not_le, ne_eq, Decidable.not_not, Option.isSome_iff_ne_none, Option.isNone_iff_eq_none] at hc1
    obtain ⟨e, he⟩ := Option.ne_none_iff_exists'.1 hc1
    refine Tri.seq (Tri.region ?_)
    refine TOps.move rfl rfl ?_
    refine TOps.assign rfl rfl ?_
    refine TOps.next ?_
    refine Tri.ret1 (H' := H) Try.results33 (fun _ _ h => h) (.tmp rfl) l1 ⟨by rw [show F.terr = F.err from by unfold Fm.terr; rw [he]], rfl⟩
  try simp only [decide_eq_true_eq, decide_eq_false_iff_not, Bool.and_eq_true, Bool.or_eq_true, Bool.not_eq_true', Bool.and_eq_false_iff, Bool.or_eq_false_iff, Bool.not_eq_false', Int.not_lt, Int.not_le, ne_eq, Decidable.not_not, Option.isSome_iff_ne_none, Option.isNone_iff_eq_none] at hc1
  have he : F.err = none := by simpa using hc1
  refine Tri.fin ?_
  refine Nrm.next ?_
  refine Tri.seq ?_
  refine Tri.seq (Tri.region ?_)
  refine TOps.field0 rfl Try.underlying24 rfl rfl ti3 rfl rfl rfl ?_
  refine TOps.load1 rfl ti3 (by first | exact Rd.lit (by repeat (first | exact List.Mem.head _ | apply List.Mem.tail)) rfl | (repeat (first | assumption | exact Rd.fld (by assumption) 0 rfl | apply Rd.up))) rfl ?_
  refine TOps.gtr rfl rfl rfl ?_
  refine TOps.next ?_
  refine Tri.cond rfl (fun hc2 => ?_) (fun hc2 => ?_)
  · try simp only [decide_eq_true_eq, decide_eq_false_iff_not, Bool.and_eq_true, Bool.or_eq_true, Bool.not_eq_true', Bool.and_eq_false_iff, Bool.or_eq_false_iff, Bool.not_eq_false', Int.not_lt, Int.not_le, ne_eq, Decidable.not_not, Option.isSome_iff_ne_none, Option.isNone_iff_eq_none] at hc2
    refine Tri.seq (Tri.region ?_)
    refine TOps.makeInterface rfl Try.underlying48 rfl rfl ?_
    refine TOps.assign rfl rfl ?_
    refine TOps.next ?_
    refine Tri.ret1 (H' := H) Try.results33 (fun _ _ h => h) (.tmp rfl) l1 ⟨by rw [show F.terr = some 4 from by unfold Fm.terr; rw [he]; exact if_pos hc2]; rfl, rfl⟩
  try simp only [decide_eq_true_eq, decide_eq_false_iff_not, Bool.and_eq_true, Bool.or_eq_true, Bool.not_eq_true', Bool.and_eq_false_iff, Bool.or_eq_false_iff, Bool.not_eq_false', Int.not_lt, Int.not_le, ne_eq, Decidable.not_not, Option.isSome_iff_ne_none, Option.isNone_iff_eq_none] at hc2
  refine Tri.fin ?_
  refine Nrm.next ?_
  refine Tri.seq (Tri.region ?_)
  refine TOps.assign rfl rfl ?_
  refine TOps.next ?_
  refine Tri.ret1 (H' := H) Try.results33 (fun _ _ h => h) (.tmp rfl) l1 ⟨by rw [show F.terr = none from by unfold Fm.terr; rw [he]; exact if_neg (by omega)]; rfl, rfl⟩
theorem table_g {H : List Ent} {fv : Value} {F : Fm} (hF : RF H fv F) (hk : F.ok) :
    Gives Try.prog 11 [fv] H (fun u H' => ∃ xs a cap, xs = (bif F.terr.isNone then F.table else []) ∧ u = .tuple (List.toArray [slV a 0 xs.length cap, errV 48 F.terr]) ∧ (bools xs ≠ [] → ∃ b, a = some b) ∧ row a 4 1 cap (bools xs) :: H = H') := by
  have hF0 := hF
  obtain ⟨na, off, ncap, nsp, rfl, hN⟩ := hF
  refine Gives.enter Try.func11 rfl (by exact Try.ntmps11) rfl ?_
  refine Tri.seq (Tri.region ?_)
  refine TOps.boxN rfl ti24 rfl rfl (fun b1 => ?_)
  refine TOps.hide (fun H1 l1 s1 r1 => ?_)
  replace hF0 := hF0.le l1
  refine TOps.assign rfl rfl ?_
  refine TOps.assign rfl rfl ?_
  refine TOps.next ?_
  refine Tri.seq ?_
  refine Tri.seq (Tri.region ?_)
  refine TOps.loadN rfl ti24 (by first | exact Rd.all (by repeat (first | exact List.Mem.head _ | apply List.Mem.tail)) | (repeat (first | assumption | apply Rd.up))) rfl rfl ?_
  refine TOps.call (vs := [_]) Try.call33 ⟨rfl, trivial⟩ (tcheck10_g hF0 hk) rfl ?_
  rintro _ _ ⟨rfl, rfl⟩
  refine TOps.assign rfl rfl ?_
  refine TOps.next ?_
  refine Tri.seq (Tri.region ?_)
  refine TOps.move rfl rfl ?_
  refine TOps.neqNil rfl Try.underlying29 rfl ?_
  refine TOps.next ?_
  refine Tri.cond rfl (fun hc1 => ?_) (fun hc1 => ?_)
  · try simp only [decide_eq_true_eq, decide_eq_false_iff_not, Bool.and_eq_true, Bool.or_eq_true, Bool.not_eq_true', Bool.and_eq_false_iff, Bool.or_eq_false_iff, Bool.not_eq_false', Int.not_lt, Int.not_le, ne_eq, Decidable.not_not, Option.isSome_iff_ne_none, Option.isNone_iff_eq_none] at hc1
    obtain ⟨e, he⟩ := Option.ne_none_iff_exists'.1 hc1
    refine Tri.seq (Tri.region ?_)
    refine TOps.move rfl rfl ?_
    refine TOps.assign rfl rfl ?_
    refine TOps.assign rfl rfl ?_
    refine TOps.next ?_
    refine Tri.ret2 (H' := _) Try.results11 (fun _ _ h => h) (.tmp rfl) (.tmp rfl) (Le.trans Le.addNil (Le.consOf s1)) ⟨[], none, 0, by rw [he]; rfl, by rw [he]; rfl, by simp, rfl⟩
  try simp only [decide_eq_true_eq, decide_eq_false_iff_not, Bool.and_eq_true, Bool.or_eq_true, Bool.not_eq_true', Bool.and_eq_false_iff, Bool.or_eq_false_iff, Bool.not_eq_false', Int.not_lt, Int.not_le, ne_eq, Decidable.not_not, Option.isSome_iff_ne_none, Option.isNone_iff_eq_none] at hc1
  have he : F.terr = none := by simpa using hc1
  obtain ⟨hg, h12⟩ := Fm.terr_none he
  have g0 := hg.v0
  obtain ⟨v, hv⟩ := Int.eq_ofNat_of_zero_le g0
  have hvn : F.vars.toNat = v := by omega
  have h4096 := pow12 (v := v) (by omega)
  have htl := F.table_length
  rw [hvn] at htl
  have hpv : ∀ s, s < 2 ^ v → F.setErr (s : Nat) = none := fun s hs => Fm.setErr_of hg (by rw [hvn]; exact hs)
  have hall : (List.range (2 ^ v)).map (fun (s : Nat) => F.value s) = F.table := by unfold Fm.table; rw [hvn]
  have hsh : ishl 1 v = ((2 ^ v : Nat) : Int) := ishl_one (by omega)
  rw [hv] at r1 hF0 ⊢
  generalize 2 ^ v = N at *
  refine Tri.fin ?_
  refine Nrm.next ?_
  refine Tri.seq (Tri.region ?_)
  refine TOps.field0 rfl Try.underlying24 rfl rfl ti3 rfl rfl rfl ?_
  refine TOps.load1 rfl ti3 (by first | exact Rd.lit (by repeat (first | exact List.Mem.head _ | apply List.Mem.tail)) rfl | (repeat (first | assumption | exact Rd.fld (by assumption) 0 rfl | apply Rd.up))) rfl ?_
  refine TOps.shl (r := (N : Int)) rfl rfl (by omega) hsh rfl ?_
  refine TOps.make1 rfl rfl Try.underlying27 ti4 (by omega) (by omega) (by omega) rfl (fun b17 => ?_)
  refine TOps.assign rfl rfl ?_
  refine TOps.next ?_
  refine Tri.seq ?_
  refine Tri.seq (Tri.region ?_)
  refine TOps.move rfl rfl ?_
  refine TOps.len rfl Try.underlying27 rfl ?_
  refine TOps.move rfl rfl ?_
  refine TOps.next ?_
  refine Tri.range (X := Unit) (fun x k => [(1, .pointer (some ⟨b1, 0, none⟩)), (5, slV (some b17) 0 N N)]) (fun x k => row (some b17) 4 1 N (bools ((List.range k).map (fun (s : Nat) => F.value s) ++ List.replicate (N - k) false)) :: H1) (fun x k => True) (by omega) rfl rfl rfl (fun _ _ => ⟨rfl, rfl, rfl, rfl⟩) () trivial ⟨rfl, rfl, trivial⟩ (Le.rowEq (by simp)) (fun k x hlt hp => ?_) (fun x ac wc hp hS hM => ?_)
  · skip
    have hse := hpv k hlt
    refine Tri.seq (Tri.region ?_)
    refine TOps.move rfl rfl ?_
    refine TOps.assign rfl rfl ?_
    refine TOps.next ?_
    refine Tri.seq (Tri.region ?_)
    refine TOps.loadN rfl ti24 (by first | exact Rd.all (by repeat (first | exact List.Mem.head _ | apply List.Mem.tail)) | (repeat (first | assumption | apply Rd.up))) rfl rfl ?_
    refine TOps.move rfl rfl ?_
    refine TOps.call (vs := [_, _]) Try.call13 ⟨rfl, rfl, trivial⟩ (value_g (hF0.le (Le.drop (Le.refl _))) hk (k : Int)) rfl ?_
    rintro _ _ ⟨rfl, rfl⟩
    rw [hse, show ((none : Option Int).isNone && F.value (k : Nat)) = F.value (k : Nat) from rfl]
    refine TOps.move rfl rfl ?_
    refine TOps.extract rfl rfl rfl ?_
    refine TOps.extract rfl rfl rfl ?_
    refine TOps.assign rfl rfl ?_
    refine TOps.assign rfl rfl ?_
    refine TOps.next ?_
    refine Tri.seq ?_
    refine Tri.seq (Tri.region ?_)
    refine TOps.move rfl rfl ?_
    refine TOps.neqNil (T := 48) (o := none) rfl Try.underlying29 rfl ?_
    refine TOps.next ?_
    refine Tri.cond rfl (fun hc2 => ?_) (fun hc2 => ?_)
    · try simp only [decide_eq_true_eq, decide_eq_false_iff_not, Bool.and_eq_true, Bool.or_eq_true, Bool.not_eq_true', Bool.and_eq_false_iff, Bool.or_eq_false_iff, Bool.not_eq_false', Int.not_lt, Int.not_le, ne_eq, Decidable.not_not, Option.isSome_iff_ne_none, Option.isNone_iff_eq_none] at hc2
      have hfalse : False := by simp at hc2
      refine Tri.seq (Tri.region ?_)
      refine TOps.move rfl rfl ?_
      refine TOps.assign rfl rfl ?_
      refine TOps.assign rfl rfl ?_
      refine TOps.next ?_
      exact hfalse.elim
    try simp only [decide_eq_true_eq, decide_eq_false_iff_not, Bool.and_eq_true, Bool.or_eq_true, Bool.not_eq_true', Bool.and_eq_false_iff, Bool.or_eq_false_iff, Bool.not_eq_false', Int.not_lt, Int.not_le, ne_eq, Decidable.not_not, Option.isSome_iff_ne_none, Option.isNone_iff_eq_none] at hc2
    refine Tri.fin ?_
    refine Nrm.next ?_
    refine Tri.region ?_
    refine TOps.move rfl rfl ?_
    refine TOps.move rfl rfl ?_
    refine TOps.move rfl rfl ?_
    refine TOps.indexAddr (off' := k) rfl rfl Try.underlying27 ti4 (by omega) (by omega) (by simp) rfl ?_
    refine TOps.store1 rfl rfl ti4 rfl rfl (by repeat (first | exact Upd.here | apply Upd.there)) (by first | decide | (simp; done) | (simp; omega)) ?_
    refine TOps.fin ?_
    refine Nrm.body () trivial ⟨rfl, rfl, rfl, rfl, trivial⟩ (Le.rowEq (by rw [← fill_set (fun (s : Nat) => F.value s) false hlt]; simp [bools]))
  rw [Nat.sub_self, List.replicate_zero, List.append_nil, hall] at hM
  refine Nrm.of hS hM ?_
  refine Nrm.next ?_
  refine Tri.seq (Tri.region ?_)
  refine TOps.move rfl rfl ?_
  refine TOps.assign rfl rfl ?_
  refine TOps.assign rfl rfl ?_
  refine TOps.next ?_
  refine Tri.ret2 (H' := _) Try.results11 (fun _ _ h => h) (.tmp rfl) (.tmp rfl) (Le.consOf s1) ⟨F.table, some b17, N, by rw [he]; rfl, by rw [he, htl]; rfl, fun _ => ⟨_, rfl⟩, rfl⟩
theorem weights_g {H : List Ent} {fv : Value} {F : Fm} (hF : RF H fv F) (hk : F.ok) :
    Gives Try.prog 14 [fv] H (fun u H' => ∃ xs a cap, xs = (bif F.terr.isNone then F.weights else []) ∧ u = .tuple (List.toArray [slV a 0 xs.length cap, errV 48 F.terr]) ∧ (nats xs ≠ [] → ∃ b, a = some b) ∧ row a 3 1 cap (nats xs) :: H = H') := by
  have hF0 := hF
  obtain ⟨na, off, ncap, nsp, rfl, hN⟩ := hF
  refine Gives.enter Try.func14 rfl (by exact Try.ntmps14) rfl ?_
  refine Tri.seq (Tri.region ?_)
  refine TOps.boxN rfl ti24 rfl rfl (fun b1 => ?_)
  refine TOps.hide (fun H1 l1 s1 r1 => ?_)
  replace hF0 := hF0.le l1
  refine TOps.assign rfl rfl ?_
  refine TOps.assign rfl rfl ?_
  refine TOps.next ?_
  refine Tri.seq (Tri.region ?_)
  refine TOps.loadN rfl ti24 (by first | exact Rd.all (by repeat (first | exact List.Mem.head _ | apply List.Mem.tail)) | (repeat (first | assumption | apply Rd.up))) rfl rfl ?_
  refine TOps.call (vs := [_]) Try.call11 ⟨rfl, trivial⟩ (table_g hF0 hk) rfl ?_
  rintro _ _ ⟨xs, la, lcap, hxs, rfl, hla, rfl⟩
  have hlr : RdS (row la 4 1 lcap (bools xs) :: H1) la 0 (bools xs) := RdS.ofRowA (List.Mem.head _) hla
  replace hF0 := hF0.le (Le.drop (e := row la 4 1 lcap (bools xs)) (Le.refl _)); replace r1 := r1.up (e := row la 4 1 lcap (bools xs))
  have s2 : H.Sublist (row la 4 1 lcap (bools xs) :: H1) := s1.cons _
  generalize row la 4 1 lcap (bools xs) :: H1 = H2 at *
  refine TOps.move rfl rfl ?_
  refine TOps.extract rfl rfl rfl ?_
  refine TOps.extract rfl rfl rfl ?_
  refine TOps.assign rfl rfl ?_
  refine TOps.assign rfl rfl ?_
  refine TOps.next ?_
  refine Tri.seq ?_
  refine Tri.seq (Tri.region ?_)
  refine TOps.move rfl rfl ?_
  refine TOps.neqNil rfl Try.underlying29 rfl ?_
  refine TOps.next ?_
  refine Tri.cond rfl (fun hc1 => ?_) (fun hc1 => ?_)
  · try simp only [decide_eq_true_eq, decide_eq_false_iff_not, Bool.and_eq_true, Bool.or_eq_true, Bool.not_eq_true', Bool.and_eq_false_iff, Bool.or_eq_false_iff, Bool.not_eq_false', Int.not_lt, Int.not_le, ne_eq, Decidable.not_not, Option.isSome_iff_ne_none, Option.isNone_iff_eq_none] at hc1
    obtain ⟨e, he⟩ := Option.ne_none_iff_exists'.1 hc1
    refine Tri.seq (Tri.region ?_)
    refine TOps.move rfl rfl ?_
    refine TOps.assign rfl rfl ?_
    refine TOps.assign rfl rfl ?_
    refine TOps.next ?_
    refine Tri.ret2 (H' := _) Try.results14 (fun _ _ h => h) (.tmp rfl) (.tmp rfl) (Le.trans Le.addNil (Le.consOf s2)) ⟨[], none, 0, by rw [he]; rfl, by rw [he]; rfl, by simp, rfl⟩
  try simp only [decide_eq_true_eq, decide_eq_false_iff_not, Bool.and_eq_true, Bool.or_eq_true, Bool.not_eq_true', Bool.and_eq_false_iff, Bool.or_eq_false_iff, Bool.not_eq_false', Int.not_lt, Int.not_le, ne_eq, Decidable.not_not, Option.isSome_iff_ne_none, Option.isNone_iff_eq_none] at hc1
  have he : F.terr = none := by simpa using hc1
  obtain ⟨hg, h12⟩ := Fm.terr_none he
  have g0 := hg.v0
  obtain rfl : xs = F.table := by rw [hxs, he]; rfl
  obtain ⟨v, hv⟩ := Int.eq_ofNat_of_zero_le g0
  have hvn : F.vars.toNat = v := by omega
  have h4096 := pow12 (v := v) (by omega)
  have htl := F.table_length
  rw [hvn] at htl
  have hwv : F.wTo F.table.length = F.weights := by unfold Fm.weights; rw [F.table_length]
  have hwl := F.wTo_length
  rw [hvn] at hwl
  rw [hv] at r1 hF0 ⊢
  refine Tri.fin ?_
  refine Nrm.next ?_
  refine Tri.seq (Tri.region ?_)
  refine TOps.field0 rfl Try.underlying24 rfl rfl ti3 rfl rfl rfl ?_
  refine TOps.load1 rfl ti3 (by first | exact Rd.lit (by repeat (first | exact List.Mem.head _ | apply List.Mem.tail)) rfl | (repeat (first | assumption | exact Rd.fld (by assumption) 0 rfl | apply Rd.up))) rfl ?_
  refine TOps.add (r := ((v + 1 : Nat) : Int)) rfl rfl (by rw [wrapI (by omega) (by omega)]; omega) rfl ?_
  refine TOps.make1 rfl rfl Try.underlying36 ti3 (by omega) (by omega) (by omega) rfl (fun b20 => ?_)
  refine TOps.assign rfl rfl ?_
  refine TOps.next ?_
  refine Tri.seq ?_
  refine Tri.seq (Tri.region ?_)
  refine TOps.move rfl rfl ?_
  refine TOps.len rfl Try.underlying27 rfl ?_
  refine TOps.move rfl rfl ?_
  refine TOps.next ?_
  refine Tri.range (X := Unit) (fun x k => [(1, .pointer (some ⟨b1, 0, none⟩)), (6, slV (some b20) 0 (v + 1) (v + 1)), (21, slV la 0 F.table.length lcap)]) (fun x k => row (some b20) 3 1 (v + 1) (nats (F.wTo k)) :: H2) (fun x k => True) (by omega) rfl rfl rfl (fun _ _ => ⟨rfl, rfl, rfl, rfl⟩) () trivial ⟨rfl, rfl, rfl, trivial⟩ (Le.rowEq (by rw [F.wTo_zero, hvn]; simp [nats])) (fun k x hlt hp => ?_) (fun x ac wc hp hS hM => ?_)
  · skip
    have hlt' : k < 2 ^ v := by omega
    obtain ⟨lb, rfl, -, hl⟩ := RdS.at hlr (i := k) (by simpa using hlt)
    have htk : F.table[k] = F.value (k : Nat) := F.table_get hlt
    rw [List.getElem_map, htk, Nat.zero_add] at hl
    have hws := F.wTo_succ k
    have hwk := hwl k
    have hwle := F.wTo_le k (pp 24 k)
    have hpb := pp_bound 24 v k hlt'
    refine Tri.seq (Tri.region ?_)
    refine TOps.move rfl rfl ?_
    refine TOps.indexAddr (off' := k) rfl rfl Try.underlying27 ti4 (by omega) (by omega) (by simp) rfl ?_
    refine TOps.load1 rfl ti4 (Rd.up hl) rfl ?_
    refine TOps.assign rfl rfl ?_
    refine TOps.assign rfl rfl ?_
    refine TOps.next ?_
    refine Tri.seq (Tri.region ?_)
    refine TOps.move rfl rfl ?_
    refine TOps.next ?_
    refine Tri.cond rfl (fun hc2 => ?_) (fun hc2 => ?_)
    · try simp only [decide_eq_true_eq, decide_eq_false_iff_not, Bool.and_eq_true, Bool.or_eq_true, Bool.not_eq_true', Bool.and_eq_false_iff, Bool.or_eq_false_iff, Bool.not_eq_false', Int.not_lt, Int.not_le, ne_eq, Decidable.not_not, Option.isSome_iff_ne_none, Option.isNone_iff_eq_none] at hc2
      refine Tri.region ?_
      refine TOps.move rfl rfl ?_
      refine TOps.move rfl rfl ?_
      refine TOps.convI (r := (k : Int)) rfl Try.underlying3 Try.underlying63 (wrapU _ (by omega) (by omega)) rfl ?_
      refine TOps.call (vs := [_]) Try.call36 ⟨rfl, trivial⟩ (ones_g (x := k) (by omega)) rfl ?_
      rintro _ _ ⟨rfl, rfl⟩
      refine TOps.indexAddr (off' := pp 24 k) rfl rfl Try.underlying36 ti3 (by omega) (by omega) (by simp) rfl ?_
      refine TOps.load1 (v := .int .i64 ((F.wTo k).getD (pp 24 k) 0 : Nat)) rfl ti3 (Rd.lit (List.Mem.head _) (by simp [List.getD_eq_getElem?_getD, show pp 24 k < (F.wTo k).length by omega])) rfl ?_
      refine TOps.add (r := (((F.wTo k).getD (pp 24 k) 0 + 1 : Nat) : Int)) rfl rfl (by rw [wrapI (by omega) (by omega)]; omega) rfl ?_
      refine TOps.indexAddr (off' := pp 24 k) rfl rfl Try.underlying36 ti3 (by omega) (by omega) (by simp) rfl ?_
      refine TOps.store1 rfl rfl ti3 rfl rfl (by repeat (first | exact Upd.here | apply Upd.there)) (by first | decide | (simp; done) | (simp; omega)) ?_
      refine TOps.fin ?_
      first
       | refine Nrm.body () trivial ⟨rfl, rfl, rfl, rfl, rfl, trivial⟩ (Le.rowEq (by rw [hws, hc2, cond_true, nats_set]))
       | refine Nrm.body () trivial ⟨rfl, rfl, rfl, rfl, rfl, trivial⟩ (Le.rowEq (by rw [hws, hc2, cond_false]))
    try simp only [decide_eq_true_eq, decide_eq_false_iff_not, Bool.and_eq_true, Bool.or_eq_true, Bool.not_eq_true', Bool.and_eq_false_iff, Bool.or_eq_false_iff, Bool.not_eq_false', Int.not_lt, Int.not_le, ne_eq, Decidable.not_not, Option.isSome_iff_ne_none, Option.isNone_iff_eq_none] at hc2
    refine Tri.fin ?_
    first
     | refine Nrm.body () trivial ⟨rfl, rfl, rfl, rfl, rfl, trivial⟩ (Le.rowEq (by rw [hws, hc2, cond_true, nats_set]))
     | refine Nrm.body () trivial ⟨rfl, rfl, rfl, rfl, rfl, trivial⟩ (Le.rowEq (by rw [hws, hc2, cond_false]))
  rw [hwv] at hM
  refine Nrm.of hS hM ?_
  refine Nrm.next ?_
  refine Tri.seq (Tri.region ?_)
  refine TOps.move rfl rfl ?_
  refine TOps.assign rfl rfl ?_
  refine TOps.assign rfl rfl ?_
  refine TOps.next ?_
  refine Tri.ret2 (H' := _) Try.results14 (fun _ _ h => h) (.tmp rfl) (.tmp rfl) (Le.consOf s2) ⟨F.weights, some b20, v + 1, by rw [he]; rfl, by rw [he, show F.weights.length = v + 1 from by rw [← hwv]; exact hwl _]; rfl, fun _ => ⟨_, rfl⟩, rfl⟩
end Go.Proofs
