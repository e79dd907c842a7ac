import Derived.Test.YthehdjppejmfcaaWE
import Derived.Test.YthehdjppejmfcaaWB
import Derived.Test.YthehdjppejmfcaaWC
namespace Go.Proofs
open Go.GL
set_option linter.unusedVariables false
set_option linter.unusedSimpArgs false
theorem trimN_g {H : List Ent} {fv : Value} {F : Fm} (hF : RF H fv F) (hk : F.ok) (he : F.err = none) :
    Gives Try.prog 48 [fv] H (NewT 73 F.trim none H) := by
  have hF0 := hF
  obtain ⟨a, off, cap, nsp, rfl, hN⟩ := hF
  refine Gives.enter Try.func48 rfl (by exact Try.ntmps48) rfl ?_
  refine Tri.seq (Tri.region ?_)
  refine TOps.boxN rfl ti24 rfl rfl (fun b1 => ?_)
  refine TOps.hide (fun H1 l1 s1 r1 => ?_)
  replace hF0 := hF0.le l1; replace hN := hN.le l1
  refine TOps.alloc ti24 rfl (fun b2 => ?_)
  refine TOps.assign rfl rfl ?_
  refine TOps.next ?_
  refine Tri.seq ?_
  refine Tri.seq (Tri.region ?_)
  refine TOps.loadN rfl ti24 (by first | exact Rd.all (by repeat (first | exact List.Mem.head _ | apply List.Mem.tail)) | (repeat (first | assumption | apply Rd.up))) rfl rfl ?_
  refine TOps.call (vs := [_]) Try.call30 ⟨rfl, trivial⟩ (check_g (hF0.le (Le.drop (Le.refl _))) hk) rfl ?_
  rintro _ _ ⟨rfl, rfl⟩
  rw [he]
  refine TOps.assign rfl rfl ?_
  refine TOps.next ?_
  refine Tri.seq (Tri.region ?_)
  refine TOps.move rfl rfl ?_
  refine TOps.neqNil (T := 73) (o := none) rfl Try.underlying34 rfl ?_
  refine TOps.next ?_
  refine Tri.cond rfl (fun hc1 => ?_) (fun hc1 => ?_)
  · exact absurd hc1 (by first | decide | simp)
  try simp only [decide_eq_true_eq, decide_eq_false_iff_not, Bool.and_eq_true, Bool.or_eq_true, Bool.not_eq_true', Bool.and_eq_false_iff, Bool.or_eq_false_iff, Bool.not_eq_false', Int.not_lt, Int.not_le, ne_eq, Decidable.not_not, Option.isSome_iff_ne_none, Option.isNone_iff_eq_none] at hc1
  skip
  have hg := (Fm.good_iff F).1 he
  have g0 := hg.v0; have g1 := hg.v1; have g2 := hg.n1; have gt := hg.topLt
  obtain ⟨v, hv⟩ := Int.eq_ofNat_of_zero_le g0
  have hvn : F.vars.toNat = v := by omega
  have hbl := F.below_length
  have hbd : ∀ k j, (F.trS k).1.getD j 0 ≤ v + k := fun k j => by rw [← hvn]; exact trS_bound k j
  have hle : ∀ k, (F.trS k).2.length ≤ k := fun k => trS_le k
  have hln : ∀ k, (F.trS k).1.length = v + F.nodes.length := fun k => by rw [← hvn]; exact trS_length k
  rw [hv] at r1 hF0 ⊢
  refine Tri.fin ?_
  refine Nrm.next ?_
  refine Tri.seq (Tri.region ?_)
  refine TOps.field0 rfl Try.underlying24 rfl rfl ti3 rfl rfl rfl ?_
  refine TOps.load1 rfl ti3 (by first | exact Rd.lit (by repeat (first | exact List.Mem.head _ | apply List.Mem.tail)) rfl | (repeat (first | assumption | exact Rd.fld (by assumption) 0 rfl | apply Rd.up))) rfl ?_
  refine TOps.buildStruct (vs := [(0, _)]) (xs := [_, _, _]) [(0, 1), (1, 1), (2, 1)] Try.underlying24 ti24 (fun w => by simp) ⟨rfl, rfl, trivial⟩ rfl rfl ?_
  refine TOps.alloc ti24 rfl (fun b5 => ?_)
  refine TOps.storeN rfl rfl ti24 rfl rfl (by repeat (first | exact Upd.here | apply Upd.there)) (by first | decide | (simp; done) | (simp; omega)) ?_
  refine TOps.next ?_
  refine Tri.seq (Tri.region ?_)
  refine TOps.field0 rfl Try.underlying24 rfl rfl ti3 rfl rfl rfl ?_
  refine TOps.load1 rfl ti3 (by first | exact Rd.lit (by repeat (first | exact List.Mem.head _ | apply List.Mem.tail)) rfl | (repeat (first | assumption | exact Rd.fld (by assumption) 0 rfl | apply Rd.up))) rfl ?_
  first | refine TOps.fieldB 1 rfl Try.underlying24 rfl rfl ti22 rfl rfl rfl ?_ | refine TOps.fieldN 1 rfl Try.underlying24 rfl rfl ti22 rfl rfl rfl ?_
  refine TOps.load1 rfl ti22 (by first | exact Rd.lit (by repeat (first | exact List.Mem.head _ | apply List.Mem.tail)) rfl | (repeat (first | assumption | exact Rd.fld (by assumption) 1 rfl | apply Rd.up))) rfl ?_
  refine TOps.len rfl Try.underlying22 rfl ?_
  refine TOps.add (r := ((v + F.nodes.length : Nat) : Int)) rfl rfl (by rw [wrapI (by omega) (by omega)]; omega) rfl ?_
  refine TOps.make1 rfl rfl Try.underlying53 ti3 (by omega) (by omega) (by omega) rfl (fun b29 => ?_)
  refine TOps.assign rfl rfl ?_
  refine TOps.next ?_
  refine Tri.seq ?_
  refine Tri.seq (Tri.region ?_)
  refine TOps.field0 rfl Try.underlying24 rfl rfl ti3 rfl rfl rfl ?_
  refine TOps.load1 rfl ti3 (by first | exact Rd.lit (by repeat (first | exact List.Mem.head _ | apply List.Mem.tail)) rfl | (repeat (first | assumption | exact Rd.fld (by assumption) 0 rfl | apply Rd.up))) rfl ?_
  refine TOps.move rfl rfl ?_
  refine TOps.next ?_
  refine Tri.range (X := Unit) (fun x k => [(1, .pointer (some ⟨b1, 0, none⟩)), (2, .pointer (some ⟨b2, 0, none⟩)), (5, .pointer (some ⟨b5, 0, none⟩)), (6, slV (some b29) 0 (v + F.nodes.length) (v + F.nodes.length))]) (fun x k => row (some b29) 3 1 (v + F.nodes.length) (nats (List.range k ++ List.replicate (v + F.nodes.length - k) 0)) :: row (some b5) 24 3 1 [.int .i64 v, slV none 0 0 0, .int .i64 0] :: row (some b2) 24 3 1 [.int .i64 0, slV none 0 0 0, .int .i64 0] :: H1) (fun x k => True) (by omega) rfl rfl rfl (fun _ _ => ⟨rfl, rfl, rfl, rfl⟩) () trivial ⟨rfl, rfl, rfl, rfl, trivial⟩ (Sp.le (by repeat (first | exact Sp.refl _ | exact Sp.sub (by assumption) | refine Sp.cons (by repeat (first | exact Pick.here | exact Pick.row (by simp) | apply Pick.there)) ?_ | exact Sp.nil | apply Sp.skip))) (fun k x hlt hp => ?_) (fun x ac wc hp hS hM => ?_)
  · skip
    refine Tri.seq (Tri.region ?_)
    refine TOps.move rfl rfl ?_
    refine TOps.assign rfl rfl ?_
    refine TOps.next ?_
    refine Tri.region ?_
    refine TOps.move rfl rfl ?_
    refine TOps.move rfl rfl ?_
    refine TOps.move rfl rfl ?_
    refine TOps.indexAddr (off' := k) rfl rfl Try.underlying53 ti3 (by omega) (by omega) (by simp) rfl ?_
    refine TOps.store1 rfl rfl ti3 rfl rfl (by repeat (first | exact Upd.here | apply Upd.there)) (by first | decide | (simp; done) | (simp; omega)) ?_
    refine TOps.fin ?_
    refine Nrm.body () trivial ⟨rfl, rfl, rfl, rfl, rfl, rfl, trivial⟩ (Le.rowEq (by rw [← nats_set, setRange hlt]))
  have hz : nats (List.range v ++ List.replicate (v + F.nodes.length - v) 0) = nats (F.trS 0).1 := by unfold Fm.trS trS; rw [hvn]; simp
  rw [hz] at hM
  refine Nrm.of hS hM ?_
  refine Nrm.next ?_
  refine Tri.seq ?_
  refine Tri.seq ?_
  obtain ⟨H0, hH0⟩ : ∃ H0, H0 = row (some b29) 3 1 (v + F.nodes.length) (nats (F.trS 0).1) :: row (some b5) 24 3 1 [.int .i64 v, slV none 0 0 0, .int .i64 0] :: row (some b2) 24 3 1 [.int .i64 0, slV none 0 0 0, .int .i64 0] :: H1 := ⟨_, rfl⟩
  have l0 : Le H0 H1 := by rw [hH0]; exact Le.drop (Le.drop (Le.drop (Le.refl _)))
  have hll : ∀ (x : Nat × Nat) (c : Nat), Le (match c with | 0 => H0 | _ + 1 => row (some x.1) 4 1 x.2 (bools F.below) :: H0) H1 := by
    intro x c; cases c; exact l0; exact Le.drop l0
  refine Tri.drawX (X := Nat × Nat) rfl [(1, .pointer (some ⟨b1, 0, none⟩)), (2, .pointer (some ⟨b2, 0, none⟩)), (5, .pointer (some ⟨b5, 0, none⟩)), (6, slV (some b29) 0 (v + F.nodes.length) (v + F.nodes.length))] [] (fun x => [_, slV (some x.1) 0 (F.vars.toNat + F.nodes.length) x.2, _, _, slV (some x.1) (bif x.2 == v then 0 else 0 + v * 1) (F.vars.toNat + F.nodes.length - v) (x.2 - v), _, _]) (fun x c => match c with | 0 => H0 | _ + 1 => row (some x.1) 4 1 x.2 (bools F.below) :: H0) [1] (0, 0) [4, 5, 6] rfl rfl ⟨rfl, rfl, rfl, rfl, trivial⟩ trivial (by subst hH0; exact Le.refl _) (by
    refine ⟨?_, ?_, ?_, ?_, ?_, ?_, ?_, trivial⟩
    · refine ⟨fun x S c he hw hd hc hcu hm _ => ?_, trivial⟩
      refine TOps.loadN (he _ _ rfl) ti24 (Rd.le (by first | exact Rd.all (by repeat (first | exact List.Mem.head _ | apply List.Mem.tail)) | (repeat (first | assumption | apply Rd.up))) (hll x c)) rfl rfl ?_
      exact TOps.fd x rfl rfl
    · refine ⟨fun x S c he hw hd hc hcu hm _ => ?_, trivial⟩
      obtain ⟨h0, -⟩ := hd
      obtain rfl : c = 0 := hm rfl
      refine TOps.call (vs := [_]) Try.call73 ⟨h0, trivial⟩ (below_g (hF0.le l0) hk hg) rfl ?_
      rintro _ _ ⟨b, cp, rfl, rfl⟩
      refine TOps.fin (Nrm.draw (b, cp) ?_ rfl (Le.refl _))
      intro j hj hcj
      rcases j with _|_|_|_|_|_|_|j <;> first | rfl | exact absurd rfl hj | exact absurd hcj (by decide)
    · refine ⟨fun x S c he hw hd hc hcu hm _ => ?_, trivial⟩
      refine TOps.field0 (he _ _ rfl) Try.underlying24 rfl rfl ti3 rfl rfl rfl ?_
      exact TOps.fd x rfl rfl
    · refine ⟨fun x S c he hw hd hc hcu hm _ => ?_, trivial⟩
      obtain ⟨h2, -⟩ := hd
      refine TOps.load1 h2 ti3 (Rd.le (by first | exact Rd.lit (by repeat (first | exact List.Mem.head _ | apply List.Mem.tail)) rfl | (repeat (first | assumption | exact Rd.fld (by assumption) 0 rfl | apply Rd.up))) (hll x c)) rfl ?_
      exact TOps.fd x rfl rfl
    · refine ⟨fun x S c he hw hd hc hcu hm _ => ?_, trivial⟩
      obtain ⟨h1, h3, -⟩ := hd
      obtain ⟨c', rfl⟩ : ∃ c', c = c' + 1 := ⟨c - 1, by have : 1 ≤ c := hc; omega⟩
      refine TOps.rowCap (List.Mem.head _) (fun hcap => ?_)
      have hcap' : v ≤ x.2 := by rw [List.length_map, hbl] at hcap; omega
      refine TOps.sliceLo h1 h3 Try.underlying77 ti4 (by omega) rfl ?_
      exact TOps.fd x rfl rfl
    · refine ⟨fun x S c he hw hd hc hcu hm _ => ?_, trivial⟩
      obtain ⟨h4, -⟩ := hd
      obtain ⟨c', rfl⟩ : ∃ c', c = c' + 1 := ⟨c - 1, by have : 1 ≤ c := hc; omega⟩
      refine TOps.len h4 Try.underlying77 rfl ?_
      exact TOps.fd x rfl rfl
    · refine ⟨fun x S c he hw hd hc hcu hm _ => ?_, trivial⟩
      refine TOps.move rfl rfl ?_
      exact TOps.fd x rfl rfl
    ) (fun m => ?_)
  subst hH0
  refine Nrm.rowCap (List.Mem.head _) (fun hcap => ?_)
  rw [List.length_map, hbl] at hcap
  have r2 : Rd (row (some m.1) 4 1 m.2 (bools F.below) :: H1) m.1 0 (bools F.below) := Rd.all (List.Mem.head _)
  refine Nrm.next ?_
  refine Tri.range (X := (Option Nat × Nat) × List SA × List Ent) (fun z k => [(1, .pointer (some ⟨b1, 0, none⟩)), (2, .pointer (some ⟨b2, 0, none⟩)), (5, .pointer (some ⟨b5, 0, none⟩)), (6, slV (some b29) 0 (v + F.nodes.length) (v + F.nodes.length)), (44, slV (some m.1) (bif m.2 == v then 0 else 0 + v * 1) (F.vars.toNat + F.nodes.length - v) (m.2 - v))]) (fun z k => row (some b5) 24 3 1 [.int .i64 v, slV z.1.1 0 (F.trS k).2.length z.1.2, .int .i64 0] :: row z.1.1 102 3 z.1.2 (nsCells (F.trS k).2 z.2.1) :: row (some b29) 3 1 (v + F.nodes.length) (nats (F.trS k).1) :: row (some b2) 24 3 1 [.int .i64 0, slV none 0 0 0, .int .i64 0] :: (z.2.2 ++ (row (some m.1) 4 1 m.2 (bools F.below) :: H1))) (fun z k => ArgsIn z.2.2 (F.trS k).2 z.2.1 ∧ ((F.trS k).2 ≠ [] → ∃ b, z.1.1 = some b)) (by omega) rfl rfl rfl (fun _ _ => ⟨rfl, rfl, rfl, rfl⟩) ((none, 0), [], []) ⟨ArgsIn.nil, fun h => absurd rfl h⟩ ⟨rfl, rfl, rfl, rfl, rfl, trivial⟩ (Le.addNil.trans (Sp.le (by repeat (first | exact Sp.refl _ | exact Sp.sub (by assumption) | refine Sp.cons (by repeat (first | exact Pick.here | apply Pick.there)) ?_ | exact Sp.nil | apply Sp.skip)))) (fun k z hlt hp => ?_) (fun z ac wc hp hS hM => ?_)
  · skip
    obtain ⟨⟨oa, ocap⟩, qs, N⟩ := z
    obtain ⟨hpA, hp4⟩ := hp
    dsimp only at hpA hp4 ⊢
    obtain ⟨H3, hH3⟩ : ∃ H3, H3 = N ++ (row (some m.1) 4 1 m.2 (bools F.below) :: H1) := ⟨_, rfl⟩
    have hp1 : Le H3 (row (some m.1) 4 1 m.2 (bools F.below) :: H1) := by rw [hH3]; exact Le.sub (List.sublist_append_right _ _)
    have hp3 : ArgsIn H3 (F.trS k).2 qs := hpA.le (by rw [hH3]; exact Le.sub (List.sublist_append_left _ _))
    rw [← hH3]
    have hk2 : k < F.nodes.length := by omega
    obtain ⟨nb, aa, ao, acap, asp, rfl, rfl, hn⟩ := hN.at hk2
    have hfi := hg.fits k hk2
    have hcells := hn.cells
    have hal := hfi.len
    have lp := hp1.trans (Le.drop (Le.refl _))
    replace hcells := hcells.le lp; replace hn := hn.le lp
    have r1' := r1.le lp; have r2' := r2.le hp1
    have hlk := hle k; have hlnk := hln k
    have hoff : (bif m.2 == v then 0 else 0 + v * 1) = v := by rw [show (m.2 == v) = false from beq_eq_false_iff_ne.2 (by omega)]; simp
    have hst : F.trS (k + 1) = (bif F.below.getD (v + k) false then ((F.trS k).1.set (v + k) (v + (F.trS k).2.length), (F.trS k).2 ++ [trN (F.trS k).1 F.nodes[k]]) else F.trS k) := by
      unfold Fm.trS; rw [← hvn, trS, show F.nodes.getD k ⟨0, 0, []⟩ = F.nodes[k] from by simp [hk2]]
    refine Tri.seq (Tri.region ?_)
    refine TOps.move rfl rfl ?_
    refine TOps.indexAddr (off' := v + k) rfl rfl Try.underlying77 ti4 (by omega) (by omega) (by rw [hoff]; simp) rfl ?_
    refine TOps.load1 (v := .bool (F.below.getD (v + k) false)) rfl ti4 (Rd.up (Rd.up (Rd.up (Rd.up (by have := r2'.part (v + k) (bools_get (by omega)); rwa [Nat.zero_add] at this))))) rfl ?_
    refine TOps.assign rfl rfl ?_
    refine TOps.assign rfl rfl ?_
    refine TOps.next ?_
    refine Tri.seq ?_
    refine Tri.seq (Tri.region ?_)
    refine TOps.move rfl rfl ?_
    refine TOps.not rfl rfl ?_
    refine TOps.next ?_
    refine Tri.cond rfl (fun hc2 => ?_) (fun hc2 => ?_)
    · try simp only [decide_eq_true_eq, decide_eq_false_iff_not, Bool.and_eq_true, Bool.or_eq_true, Bool.not_eq_true', Bool.and_eq_false_iff, Bool.or_eq_false_iff, Bool.not_eq_false', Int.not_lt, Int.not_le, ne_eq, Decidable.not_not, Option.isSome_iff_ne_none, Option.isNone_iff_eq_none] at hc2
      refine Tri.exitTo ?_
      repeat (with_reducible first | refine ExitTo.blk ?_ | refine ExitTo.blkNe rfl ?_ | refine ExitTo.body ?_ | refine ExitTo.brk rfl ?_ | refine ExitTo.bodyNe rfl rfl ?_ | refine ExitTo.seq ?_ | refine ExitTo.loop ?_)
      have hst' : F.trS (k + 1) = F.trS k := by rw [hst, hc2]; rfl
      refine Nrm.body ((oa, ocap), qs, N) (by rw [hst']; exact ⟨hpA, hp4⟩) ⟨rfl, rfl, rfl, rfl, rfl, rfl, rfl, trivial⟩ (by rw [hst', ← hH3]; exact (Sp.le (by repeat (first | exact Sp.refl _ | exact Sp.sub (by assumption) | refine Sp.cons (by repeat (first | exact Pick.here | apply Pick.there)) ?_ | exact Sp.nil | apply Sp.skip))))
    try simp only [decide_eq_true_eq, decide_eq_false_iff_not, Bool.and_eq_true, Bool.or_eq_true, Bool.not_eq_true', Bool.and_eq_false_iff, Bool.or_eq_false_iff, Bool.not_eq_false', Int.not_lt, Int.not_le, ne_eq, Decidable.not_not, Option.isSome_iff_ne_none, Option.isNone_iff_eq_none] at hc2
    refine Tri.fin ?_
    refine Nrm.next ?_
    refine Tri.seq (Tri.region ?_)
    first | refine TOps.fieldB 1 rfl Try.underlying24 rfl rfl ti22 rfl rfl rfl ?_ | refine TOps.fieldN 1 rfl Try.underlying24 rfl rfl ti22 rfl rfl rfl ?_
    refine TOps.load1 rfl ti22 (by first | exact Rd.lit (by repeat (first | exact List.Mem.head _ | apply List.Mem.tail)) rfl | (repeat (first | assumption | exact Rd.fld (by assumption) 1 rfl | apply Rd.up))) rfl ?_
    refine TOps.move rfl rfl ?_
    refine TOps.indexAddr (off' := off + k * 3) rfl rfl Try.underlying22 ti102 (by omega) (by omega) (by simp) rfl ?_
    refine TOps.loadN rfl ti102 (by first | exact Rd.all (by repeat (first | exact List.Mem.head _ | apply List.Mem.tail)) | (repeat (first | assumption | apply Rd.up))) rfl rfl ?_
    refine TOps.alloc ti102 rfl (fun b10 => ?_)
    refine TOps.storeN rfl rfl ti102 rfl rfl (by repeat (first | exact Upd.here | apply Upd.there)) (by first | decide | (simp; done) | (simp; omega)) ?_
    refine TOps.next ?_
    refine Tri.seq (Tri.region ?_)
    refine TOps.field0 rfl Try.underlying102 rfl rfl ti3 rfl rfl rfl ?_
    refine TOps.load1 rfl ti3 (by first | exact Rd.lit (by repeat (first | exact List.Mem.head _ | apply List.Mem.tail)) rfl | (repeat (first | assumption | exact Rd.fld (by assumption) 0 rfl | apply Rd.up))) rfl ?_
    first | refine TOps.fieldB 1 rfl Try.underlying102 rfl rfl ti3 rfl rfl rfl ?_ | refine TOps.fieldN 1 rfl Try.underlying102 rfl rfl ti3 rfl rfl rfl ?_
    refine TOps.load1 rfl ti3 (by first | exact Rd.lit (by repeat (first | exact List.Mem.head _ | apply List.Mem.tail)) rfl | (repeat (first | assumption | exact Rd.fld (by assumption) 1 rfl | apply Rd.up))) rfl ?_
    refine TOps.buildStruct (vs := [(0, _), (1, _)]) (xs := [_, _, _]) [(0, 1), (1, 1), (2, 1)] Try.underlying102 ti102 (fun w => by simp) ⟨rfl, rfl, rfl, rfl, trivial⟩ rfl rfl ?_
    refine TOps.alloc ti102 rfl (fun b11 => ?_)
    refine TOps.storeN rfl rfl ti102 rfl rfl (by repeat (first | exact Upd.here | apply Upd.there)) (by first | decide | (simp; done) | (simp; omega)) ?_
    refine TOps.next ?_
    refine Tri.seq ?_
    refine Tri.seq (Tri.region ?_)
    first | refine TOps.fieldB 2 rfl Try.underlying102 rfl rfl ti53 rfl rfl rfl ?_ | refine TOps.fieldN 2 rfl Try.underlying102 rfl rfl ti53 rfl rfl rfl ?_
    refine TOps.load1 rfl ti53 (by first | exact Rd.lit (by repeat (first | exact List.Mem.head _ | apply List.Mem.tail)) rfl | (repeat (first | assumption | exact Rd.fld (by assumption) 2 rfl | apply Rd.up))) rfl ?_
    refine TOps.len rfl Try.underlying53 rfl ?_
    refine TOps.move rfl rfl ?_
    refine TOps.next ?_
    refine Tri.range (X := Option Nat × Nat) (fun y j => [(1, .pointer (some ⟨b1, 0, none⟩)), (2, .pointer (some ⟨b2, 0, none⟩)), (5, .pointer (some ⟨b5, 0, none⟩)), (6, slV (some b29) 0 (v + F.nodes.length) (v + F.nodes.length)), (44, slV (some m.1) (bif m.2 == v then 0 else 0 + v * 1) (F.vars.toNat + F.nodes.length - v) (m.2 - v)), (45, .int .i64 ((F.vars.toNat + F.nodes.length - v : Nat) : Int)), (46, .int .i64 k), (8, .int .i64 k), (11, .pointer (some ⟨b11, 0, none⟩)), (64, slV aa ao F.nodes[k].args.length acap asp)]) (fun y j => row (some b11) 102 3 1 [.int .i64 F.nodes[k].kind, .int .i64 F.nodes[k].k, slV y.1 0 j y.2] :: row y.1 3 1 y.2 (ints (trA (F.trS k).1 (F.nodes[k].args.take j))) :: row (some b5) 24 3 1 [.int .i64 v, slV oa 0 (F.trS k).2.length ocap, .int .i64 0] :: row oa 102 3 ocap (nsCells (F.trS k).2 qs) :: row (some b29) 3 1 (v + F.nodes.length) (nats (F.trS k).1) :: row (some b2) 24 3 1 [.int .i64 0, slV none 0 0 0, .int .i64 0] :: H3) (fun y j => j ≠ 0 → ∃ b, y.1 = some b) (by omega) rfl rfl rfl (fun _ _ => ⟨rfl, rfl, rfl, rfl⟩) (none, 0) (fun h => absurd rfl h) ⟨rfl, rfl, rfl, rfl, rfl, rfl, rfl, rfl, rfl, rfl, trivial⟩ (Le.addNil.trans (Sp.le (by repeat (first | exact Sp.refl _ | exact Sp.sub (by assumption) | refine Sp.cons (by repeat (first | exact Pick.here | apply Pick.there)) ?_ | exact Sp.nil | apply Sp.skip)))) (fun j y hltj hpj => ?_) (fun y ac wc hpj hS hM => ?_)
    · skip
      obtain ⟨ab, rfl, rfl, ha⟩ := hn.args.at hltj
      have hb := hfi.args _ (List.getElem_mem hltj)
      refine Tri.seq (Tri.region ?_)
      refine TOps.indexAddr (off' := ao + j) rfl rfl Try.underlying53 ti3 (by omega) (by omega) (by simp) rfl ?_
      refine TOps.load1 rfl ti3 (by first | exact Rd.lit (by repeat (first | exact List.Mem.head _ | apply List.Mem.tail)) rfl | (repeat (first | assumption | apply Rd.up))) rfl ?_
      refine TOps.assign rfl rfl ?_
      refine TOps.next ?_
      obtain ⟨HR, hHR⟩ : ∃ HR, HR = row (some b5) 24 3 1 [.int .i64 v, slV oa 0 (F.trS k).2.length ocap, .int .i64 0] :: row oa 102 3 ocap (nsCells (F.trS k).2 qs) :: row (some b29) 3 1 (v + F.nodes.length) (nats (F.trS k).1) :: row (some b2) 24 3 1 [.int .i64 0, slV none 0 0 0, .int .i64 0] :: H3 := ⟨_, rfl⟩
      have rto : Rd HR b29 F.nodes[k].args[j].toNat [.int .i64 ((F.trS k).1.getD F.nodes[k].args[j].toNat 0 : Nat)] := by rw [hHR]; exact Rd.lit (by repeat (first | exact List.Mem.head _ | apply List.Mem.tail)) (nats_get (by omega))
      have hal4 : (ints (trA (F.trS k).1 (F.nodes[k].args.take j))).length = j := by simp [trA_length]; omega
      generalize hcA : ints (trA (F.trS k).1 (F.nodes[k].args.take j)) = cellsA at hal4
      refine Tri.drawX (X := Nat × Nat × Nat) rfl [(1, .pointer (some ⟨b1, 0, none⟩)), (2, .pointer (some ⟨b2, 0, none⟩)), (5, .pointer (some ⟨b5, 0, none⟩)), (6, slV (some b29) 0 (v + F.nodes.length) (v + F.nodes.length)), (44, slV (some m.1) (bif m.2 == v then 0 else 0 + v * 1) (F.vars.toNat + F.nodes.length - v) (m.2 - v)), (45, .int .i64 ((F.vars.toNat + F.nodes.length - v : Nat) : Int)), (46, .int .i64 k), (8, .int .i64 k), (11, .pointer (some ⟨b11, 0, none⟩)), (64, slV (some ab) ao F.nodes[k].args.length acap none), (65, .int .i64 F.nodes[k].args.length), (66, .int .i64 j), (13, .int .i64 F.nodes[k].args[j])] [] (fun x => [_, _, _, _, _, _, slV (some x.1) 0 1 1, slV (some x.2.1) 0 (j + 1) x.2.2, _, undef]) (fun x c => match c with | 0 => row (some b11) 102 3 1 [.int .i64 F.nodes[k].kind, .int .i64 F.nodes[k].k, slV y.1 0 j y.2] :: row y.1 3 1 y.2 cellsA :: HR | 1 => row (some x.1) 3 1 1 [.int .i64 ((F.trS k).1.getD F.nodes[k].args[j].toNat 0 : Nat)] :: row (some b11) 102 3 1 [.int .i64 F.nodes[k].kind, .int .i64 F.nodes[k].k, slV y.1 0 j y.2] :: row y.1 3 1 y.2 cellsA :: HR | 2 => row (some b11) 102 3 1 [.int .i64 F.nodes[k].kind, .int .i64 F.nodes[k].k, slV y.1 0 j y.2] :: row (some x.2.1) 3 1 x.2.2 (cellsA ++ [.int .i64 ((F.trS k).1.getD F.nodes[k].args[j].toNat 0 : Nat)]) :: HR | _ + 3 => row (some b11) 102 3 1 [.int .i64 F.nodes[k].kind, .int .i64 F.nodes[k].k, slV (some x.2.1) 0 (j + 1) x.2.2] :: row (some x.2.1) 3 1 x.2.2 (cellsA ++ [.int .i64 ((F.trS k).1.getD F.nodes[k].args[j].toNat 0 : Nat)]) :: HR) [6, 7, 9] (0, 0, 0) [] rfl rfl ⟨rfl, rfl, rfl, rfl, rfl, rfl, rfl, rfl, rfl, rfl, rfl, rfl, rfl, trivial⟩ trivial (by subst hHR; exact Le.refl _) (by
        refine ⟨?_, ?_, ?_, ?_, ?_, ?_, ?_, ?_, ?_, ?_, trivial⟩
        · refine ⟨fun x S c he hw hd hc hcu hm _ => ?_, trivial⟩
          first | refine TOps.fieldB 2 (he _ _ rfl) Try.underlying102 rfl rfl ti53 rfl rfl rfl ?_ | refine TOps.fieldN 2 (he _ _ rfl) Try.underlying102 rfl rfl ti53 rfl rfl rfl ?_
          exact TOps.fd x rfl rfl
        · refine ⟨fun x S c he hw hd hc hcu hm _ => ?_, trivial⟩
          obtain ⟨h0, -⟩ := hd
          rcases (show c = 0 ∨ c = 1 by have : c ≤ 1 := hcu; omega) with rfl | rfl <;> refine TOps.load1 h0 ti53 (Rd.lit (by repeat (first | exact List.Mem.head _ | apply List.Mem.tail)) rfl) rfl ?_
          all_goals exact TOps.fin (Nrm.draw x (fun _ _ _ => rfl) rfl (Le.refl _))
        · refine ⟨fun x S c he hw hd hc hcu hm _ => ?_, trivial⟩
          refine TOps.move (he _ _ rfl) rfl ?_
          exact TOps.fd x rfl rfl
        · refine ⟨fun x S c he hw hd hc hcu hm _ => ?_, trivial⟩
          refine TOps.move (he _ _ rfl) rfl ?_
          exact TOps.fd x rfl rfl
        · refine ⟨fun x S c he hw hd hc hcu hm _ => ?_, trivial⟩
          obtain ⟨h2, h3, -⟩ := hd
          refine TOps.indexAddr (off' := F.nodes[k].args[j].toNat) h2 h3 Try.underlying53 ti3 (by omega) (by omega) (by simp) rfl ?_
          exact TOps.fd x rfl rfl
        · refine ⟨fun x S c he hw hd hc hcu hm _ => ?_, trivial⟩
          obtain ⟨h4, -⟩ := hd
          obtain rfl : c = 0 := by have : c ≤ 0 := hcu; omega
          refine TOps.load1 h4 ti3 (Rd.up (Rd.up rto)) rfl ?_
          exact TOps.fd x rfl rfl
        · refine ⟨fun x S c he hw hd hc hcu hm _ => ?_, trivial⟩
          obtain ⟨h5, -⟩ := hd
          obtain rfl : c = 0 := hm rfl
          refine TOps.buildSlice (vs := [_]) (xs := [_]) Try.underlying53 ti3 ⟨rfl, h5, trivial⟩ rfl rfl rfl rfl rfl rfl (by decide) rfl (fun b76 => ?_)
          refine TOps.fin (Nrm.draw (b76, x.2) ?_ rfl (Le.refl _))
          intro j hj hcj
          rcases j with _|_|_|_|_|_|_|_|_|_|j <;> first | rfl | exact absurd rfl hj | exact absurd hcj (by decide)
        · refine ⟨fun x S c he hw hd hc hcu hm _ => ?_, trivial⟩
          obtain ⟨h1, h6, -⟩ := hd
          obtain rfl : c = 1 := hm rfl
          refine TOps.appendLit h1 h6 Try.underlying53 ti3 rfl (fun _ _ => Upd.there Upd.here) rfl (by omega) rfl (by omega) (by omega) (by simp) rfl (fun b77 cap77 => ?_)
          refine TOps.fin (Nrm.draw (x.1, b77, cap77) ?_ rfl (Le.refl _))
          intro j hj hcj
          rcases j with _|_|_|_|_|_|_|_|_|_|j <;> first | rfl | exact absurd rfl hj | exact absurd hcj (by decide)
        · refine ⟨fun x S c he hw hd hc hcu hm _ => ?_, trivial⟩
          obtain ⟨h0, h1, h2, h3, h4, h5, h6, h7, -⟩ := hd
          first | refine TOps.fieldB 2 (he _ _ rfl) Try.underlying102 rfl rfl ti53 rfl rfl rfl ?_ | refine TOps.fieldN 2 (he _ _ rfl) Try.underlying102 rfl rfl ti53 rfl rfl rfl ?_
          exact TOps.fd x rfl rfl
        · refine ⟨fun x S c he hw hd hc hcu hm _ => ?_, trivial⟩
          obtain ⟨h8, h7, _, h0, h1, h2, h3, h4, h5, h6, _, -⟩ := hd
          obtain rfl : c = 2 := hm rfl
          refine TOps.store1 h8 h7 ti53 rfl rfl Upd.here (by simp) ?_
          exact TOps.fd x rfl rfl
        ) (fun w => ?_)
      subst hHR
      refine Nrm.body (some w.2.1, w.2.2) (fun _ => ⟨_, rfl⟩) ⟨rfl, rfl, rfl, rfl, rfl, rfl, rfl, rfl, rfl, rfl, rfl, rfl, trivial⟩ (Sp.le (by repeat (first | exact Sp.refl _ | exact Sp.sub (by assumption) | refine Sp.cons (by repeat (first | exact Pick.here | exact Pick.row (by (rw [trA_take_succ hltj, ← hcA]; simp [ints])) | apply Pick.there)) ?_ | exact Sp.nil | apply Sp.skip)))
    rw [List.take_length] at hM
    refine Nrm.of hS hM ?_
    refine Nrm.next ?_
    refine Tri.seq (Tri.region ?_)
    refine TOps.move rfl rfl ?_
    refine TOps.field0 rfl Try.underlying24 rfl rfl ti3 rfl rfl rfl ?_
    refine TOps.load1 rfl ti3 (by first | exact Rd.lit (by repeat (first | exact List.Mem.head _ | apply List.Mem.tail)) rfl | (repeat (first | assumption | exact Rd.fld (by assumption) 0 rfl | apply Rd.up))) rfl ?_
    refine TOps.move rfl rfl ?_
    refine TOps.add (r := ((v + k : Nat) : Int)) rfl rfl (by rw [wrapI (by omega) (by omega)]; omega) rfl ?_
    refine TOps.field0 rfl Try.underlying24 rfl rfl ti3 rfl rfl rfl ?_
    refine TOps.load1 rfl ti3 (by first | exact Rd.lit (by repeat (first | exact List.Mem.head _ | apply List.Mem.tail)) rfl | (repeat (first | assumption | exact Rd.fld (by assumption) 0 rfl | apply Rd.up))) rfl ?_
    first | refine TOps.fieldB 1 rfl Try.underlying24 rfl rfl ti22 rfl rfl rfl ?_ | refine TOps.fieldN 1 rfl Try.underlying24 rfl rfl ti22 rfl rfl rfl ?_
    refine TOps.load1 rfl ti22 (by first | exact Rd.lit (by repeat (first | exact List.Mem.head _ | apply List.Mem.tail)) rfl | (repeat (first | assumption | exact Rd.fld (by assumption) 1 rfl | apply Rd.up))) rfl ?_
    refine TOps.len rfl Try.underlying22 rfl ?_
    refine TOps.add (r := ((v + (F.trS k).2.length : Nat) : Int)) rfl rfl (by rw [wrapI (by omega) (by omega)]; omega) rfl ?_
    refine TOps.indexAddr (off' := v + k) rfl rfl Try.underlying53 ti3 (by omega) (by omega) (by omega) rfl ?_
    refine TOps.store1 rfl rfl ti3 rfl rfl (by repeat (first | exact Upd.here | apply Upd.there)) (by simp; omega) ?_
    refine TOps.next ?_
    refine Tri.region ?_
    first | refine TOps.fieldB 1 rfl Try.underlying24 rfl rfl ti22 rfl rfl rfl ?_ | refine TOps.fieldN 1 rfl Try.underlying24 rfl rfl ti22 rfl rfl rfl ?_
    refine TOps.load1 rfl ti22 (by first | exact Rd.lit (by repeat (first | exact List.Mem.head _ | apply List.Mem.tail)) rfl | (repeat (first | assumption | exact Rd.fld (by assumption) 1 rfl | apply Rd.up))) rfl ?_
    refine TOps.loadN rfl ti102 (by first | exact Rd.all (by repeat (first | exact List.Mem.head _ | apply List.Mem.tail)) | (repeat (first | assumption | apply Rd.up))) rfl rfl ?_
    refine TOps.buildSlice (vs := [_]) (xs := [_, _, _]) Try.underlying22 ti102 ⟨rfl, rfl, trivial⟩ rfl rfl rfl rfl rfl rfl (by decide) rfl (fun b95 => ?_)
    refine TOps.appendLit rfl rfl Try.underlying22 ti102 rfl (fun _ _ => (by repeat (first | exact Upd.here | apply Upd.there))) rfl (by rw [nsCells_length _ _ hp3.1]) rfl (by omega) (by omega) (by simp) rfl (fun b96 cap96 => ?_)
    first | refine TOps.fieldB 1 rfl Try.underlying24 rfl rfl ti22 rfl rfl rfl ?_ | refine TOps.fieldN 1 rfl Try.underlying24 rfl rfl ti22 rfl rfl rfl ?_
    refine TOps.store1 rfl rfl ti22 rfl rfl (by repeat (first | exact Upd.here | apply Upd.there)) (by first | decide | (simp; done) | (simp; omega) | exact (show (1 : Nat) < 3 by decide)) ?_
    refine TOps.fin ?_
    have hst' : F.trS (k + 1) = ((F.trS k).1.set (v + k) (v + (F.trS k).2.length), (F.trS k).2 ++ [trN (F.trS k).1 F.nodes[k]]) := by rw [hst, hc2]; rfl
    refine Nrm.body ((some b96, cap96), qs ++ [(y.1, 0, y.2, none)], row y.1 3 1 y.2 (ints (trA (F.trS k).1 F.nodes[k].args)) :: N) (by rw [hst']; exact ⟨ArgsIn.snoc (hpA.le (Le.drop (Le.refl _))) (RdS.ofRowA (List.Mem.head _) (fun h => hpj (fun h0 => h (by simp [List.eq_nil_of_length_eq_zero h0, trA, trN])))), fun _ => ⟨_, rfl⟩⟩) ⟨rfl, rfl, rfl, rfl, rfl, rfl, rfl, trivial⟩ (by rw [hst', List.cons_append, ← hH3]; exact (Sp.le (by repeat (first | exact Sp.refl _ | exact Sp.sub (by assumption) | refine Sp.cons (by repeat (first | exact Pick.here | exact Pick.row (by first | (simp; done) | (rw [nats_set]; done) | (dsimp only; rw [nsCells_snoc _ _ _ _ hp3.1]; simp [ndCells, trN, trA_length]; done)) | apply Pick.there)) ?_ | exact Sp.nil | apply Sp.skip))))
  rw [show F.vars.toNat + F.nodes.length - v = F.nodes.length by omega] at hp hS hM
  have hlnn := hln F.nodes.length
  obtain ⟨hpA, hp4⟩ := hp
  have lp : Le (z.2.2 ++ (row (some m.1) 4 1 m.2 (bools F.below) :: H1)) H1 := (Le.sub (List.sublist_append_right _ _)).trans (Le.drop (Le.refl _))
  have r1' := r1.le lp
  refine Nrm.of hS hM ?_
  refine Nrm.next ?_
  refine Tri.seq (Tri.region ?_)
  refine TOps.move rfl rfl ?_
  first | refine TOps.fieldB 2 rfl Try.underlying24 rfl rfl ti3 rfl rfl rfl ?_ | refine TOps.fieldN 2 rfl Try.underlying24 rfl rfl ti3 rfl rfl rfl ?_
  refine TOps.load1 rfl ti3 (by first | exact Rd.lit (by repeat (first | exact List.Mem.head _ | apply List.Mem.tail)) rfl | (repeat (first | assumption | exact Rd.fld (by assumption) 2 rfl | apply Rd.up))) rfl ?_
  refine TOps.indexAddr (off' := F.top.toNat) rfl rfl Try.underlying53 ti3 (by omega) (by omega) (by simp) rfl ?_
  refine TOps.load1 (v := .int .i64 ((F.trS F.nodes.length).1.getD F.top.toNat 0 : Nat)) rfl ti3 (Rd.lit (by repeat (first | exact List.Mem.head _ | apply List.Mem.tail)) (nats_get (by omega))) rfl ?_
  first | refine TOps.fieldB 2 rfl Try.underlying24 rfl rfl ti3 rfl rfl rfl ?_ | refine TOps.fieldN 2 rfl Try.underlying24 rfl rfl ti3 rfl rfl rfl ?_
  refine TOps.store1 rfl rfl ti3 rfl rfl (by repeat (first | exact Upd.here | apply Upd.there)) (by first | decide | (simp; done) | (simp; omega) | exact (show (2 : Nat) < 3 by decide)) ?_
  refine TOps.next ?_
  refine Tri.seq (Tri.region ?_)
  refine TOps.loadN rfl ti24 (by first | exact Rd.all (by repeat (first | exact List.Mem.head _ | apply List.Mem.tail)) | (repeat (first | assumption | apply Rd.up))) rfl rfl ?_
  refine TOps.storeN rfl rfl ti24 rfl rfl (by repeat (first | exact Upd.here | apply Upd.there)) (by first | decide | (simp; done) | (simp; omega)) ?_
  refine TOps.assign rfl rfl ?_
  refine TOps.next ?_
  refine Tri.ret2 (v1 := .agg (List.toArray [.int .i64 F.trim.vars, slV z.1.1 0 F.trim.nodes.length z.1.2, .int .i64 F.trim.top])) (H' := (row z.1.1 102 3 z.1.2 (nsCells (F.trS F.nodes.length).2 z.2.1) :: z.2.2) ++ H) Try.results48 (fun _ _ h => h) (by rw [show F.trim = ⟨v, (F.trS F.nodes.length).2, (((F.trS F.nodes.length).1.getD F.top.toNat 0 : Nat) : Int)⟩ from by unfold Fm.trim; rw [hv]]; exact (.cellN rfl rfl ti24 (Rd.all (by repeat (first | exact List.Mem.head _ | apply List.Mem.tail))) rfl)) (.tmp rfl) ?_ ⟨z.1.1, z.1.2, row z.1.1 102 3 z.1.2 (nsCells (F.trS F.nodes.length).2 z.2.1) :: z.2.2, rfl, ?_, rfl⟩
  · refine Le.trans (Le.sub (List.Sublist.cons _ (List.Sublist.cons_cons _ (List.Sublist.cons _ (List.Sublist.cons _ (List.Sublist.refl _)))))) ?_
    exact Le.sub (List.Sublist.cons_cons _ ((List.Sublist.refl _).append (List.Sublist.cons _ s1)))
  · exact RNodes.ofA (E := 102) (sz := 3) (cap := z.1.2) (List.Mem.head _) (hpA.le (Le.drop (Le.refl _))) hp4
end Go.Proofs
namespace Go.Proofs
open Go.GL
set_option linter.unusedVariables false
set_option linter.unusedSimpArgs false
set_option maxHeartbeats 2000000 in
set_option maxRecDepth 20000 in
theorem build_g {H : List Ent} {fv : Value} {F : Fm} (hF : RF H fv F) (hk : F.ok) (hg : F.Good) {v : Nat} (hv : F.vars = v) (hv8 : v ≤ 8) (hn16 : F.nodes.length ≤ 16) {o : List Nat} (ho : OP v o (plOf v o)) {xa sp : Option Nat} {xo xc : Nat} (hr : RdS H xa xo (nats o) sp) :
    Gives Try.prog 23 [fv, slV xa xo v xc sp] H (fun u H' => ∃ dn rt oa oc na nc, u = .tuple (List.toArray [.agg (List.toArray [slV oa 0 v oc, slV na 0 dn.length nc, natV rt]), errV 73 none]) ∧ DgR v (plOf v o) dn rt (fun s => F.value (zOf v s : Nat)) ∧ (dn ≠ [] → ∃ b, na = some b) ∧ row na 123 3 nc (dnsV dn) :: row oa 3 1 oc (nats o) :: H = H') := by
  have hF0 := hF
  have he := (Fm.good_iff F).2 hg
  obtain ⟨na, no, cap, nsp, rfl, hns⟩ := hF
  obtain ⟨G, hG⟩ : ∃ G, G = F.trim := ⟨_, rfl⟩
  have hgG : G.Good := by rw [hG]; exact Fm.trim_good hg
  have hGv : G.vars = v := by rw [hG, Fm.trim_vars, hv]
  have hGl : G.nodes.length ≤ 16 := by rw [hG]; exact Nat.le_trans Fm.trim_len_le hn16
  have hGt := hgG.topLt
  have hGs : ∀ s, G.valS v s G.top.toNat = F.value (zOf v s : Nat) := fun s => by rw [hG]; exact Fm.trim_valS hg v s
  obtain ⟨tp, htp⟩ := Int.eq_ofNat_of_zero_le hGt.1
  have hszn : F.sizeN ≤ 128 := by rw [← (Fm.trim_sizeN hg).1, (Fm.trim_sizeN hg).2, ← hG]; omega
  refine Gives.enter Try.func23 rfl (by exact Try.ntmps23) rfl ?_
  refine Tri.seq (Tri.region ?_)
  refine TOps.boxN rfl ti24 rfl rfl (fun b2 => ?_)
  refine TOps.alloc ti67 rfl (fun b4 => ?_)
  refine TOps.assign rfl rfl ?_
  refine TOps.next ?_
  refine Tri.seq (Tri.region ?_)
  refine TOps.loadN rfl ti24 (by first | exact Rd.all (by repeat (first | exact List.Mem.head _ | apply List.Mem.tail)) | (repeat (first | assumption | apply Rd.up))) rfl rfl ?_
  have hF1 := hF0.le (H' := row (some b4) 67 3 1 [slV none 0 0 0, slV none 0 0 0, .int .i64 0] :: row (some b2) 24 3 1 [.int .i64 F.vars, slV na no F.nodes.length cap nsp, .int .i64 F.top] :: H) (Le.drop (Le.drop (Le.refl _)))
  refine TOps.call (vs := [_]) Try.call46 ⟨rfl, trivial⟩ (size_g hF1 hk) rfl ?_
  rintro _ _ ⟨rfl, rfl⟩
  rw [he, show (bif (none : Option Int).isNone then (F.sizeN : Int) else 0) = F.sizeN from rfl]
  refine TOps.move rfl rfl ?_
  refine TOps.extract rfl rfl rfl ?_
  refine TOps.extract rfl rfl rfl ?_
  refine TOps.extract rfl rfl rfl ?_
  refine TOps.assign rfl rfl ?_
  refine TOps.assign rfl rfl ?_
  refine TOps.assign rfl rfl ?_
  refine TOps.next ?_
  refine Tri.seq ?_
  refine Tri.seq (Tri.region ?_)
  refine TOps.move rfl rfl ?_
  refine TOps.neqNil (T := 73) (o := none) rfl Try.underlying34 rfl ?_
  refine TOps.next ?_
  refine Tri.cond rfl (fun hc1 => ?_) (fun hc1 => ?_)
  · exact absurd hc1 (by first | decide | simp)
  try simp only [decide_eq_true_eq, decide_eq_false_iff_not, Bool.and_eq_true, Bool.or_eq_true, Bool.not_eq_true', Bool.and_eq_false_iff, Bool.or_eq_false_iff, Bool.not_eq_false', Int.not_lt, Int.not_le, ne_eq, Decidable.not_not, Option.isSome_iff_ne_none, Option.isNone_iff_eq_none] at hc1
  refine Tri.fin ?_
  refine Nrm.next ?_
  refine Tri.seq ?_
  refine Tri.seq (Tri.region ?_)
  refine TOps.move rfl rfl ?_
  refine TOps.field0 rfl Try.underlying24 rfl rfl ti3 rfl rfl rfl ?_
  refine TOps.load1 rfl ti3 (by first | exact Rd.lit (by repeat (first | exact List.Mem.head _ | apply List.Mem.tail)) rfl | (repeat (first | assumption | exact Rd.fld (by assumption) 0 rfl | apply Rd.up))) rfl ?_
  rw [hv]
  refine TOps.call (vs := [_, _]) Try.call47 ⟨rfl, rfl, trivial⟩ (orderCheck_g ho (by omega) (hr.le (Le.drop (Le.drop (Le.refl _))))) rfl ?_
  rintro _ _ ⟨rfl, rfl⟩
  refine TOps.assign rfl rfl ?_
  refine TOps.next ?_
  refine Tri.seq (Tri.region ?_)
  refine TOps.move rfl rfl ?_
  refine TOps.neqNil (T := 73) (o := none) rfl Try.underlying34 rfl ?_
  refine TOps.next ?_
  refine Tri.cond rfl (fun hc2 => ?_) (fun hc2 => ?_)
  · exact absurd hc2 (by first | decide | simp)
  try simp only [decide_eq_true_eq, decide_eq_false_iff_not, Bool.and_eq_true, Bool.or_eq_true, Bool.not_eq_true', Bool.and_eq_false_iff, Bool.or_eq_false_iff, Bool.not_eq_false', Int.not_lt, Int.not_le, ne_eq, Decidable.not_not, Option.isSome_iff_ne_none, Option.isNone_iff_eq_none] at hc2
  rw [hv] at hF1
  refine Tri.fin ?_
  refine Nrm.next ?_
  refine Tri.seqMid (X := Option Nat × Nat × List Ent) (fun y => [(1, slV xa xo v xc sp), (2, .pointer (some ⟨b2, 0, none⟩)), (4, .pointer (some ⟨b4, 0, none⟩))]) (fun y => row (some b2) 24 3 1 [.int .i64 G.vars, slV y.1 0 G.nodes.length y.2.1, .int .i64 G.top] :: row (some b4) 67 3 1 [slV none 0 0 0, slV none 0 0 0, .int .i64 0] :: (y.2.2 ++ H)) (fun y => RNodes y.2.2 y.1 0 G.nodes) ?_ (fun y hmid => ?_)
  · skip
    refine Tri.seq (Tri.region ?_)
    refine TOps.move rfl rfl ?_
    refine TOps.gtr rfl rfl rfl ?_
    refine TOps.next ?_
    refine Tri.cond rfl (fun hc3 => ?_) (fun hc3 => ?_)
    · try simp only [decide_eq_true_eq, decide_eq_false_iff_not, Bool.and_eq_true, Bool.or_eq_true, Bool.not_eq_true', Bool.and_eq_false_iff, Bool.or_eq_false_iff, Bool.not_eq_false', Int.not_lt, Int.not_le, ne_eq, Decidable.not_not, Option.isSome_iff_ne_none, Option.isNone_iff_eq_none] at hc3
      refine Tri.seq (Tri.region ?_)
      refine TOps.loadN rfl ti24 (by first | exact Rd.all (by repeat (first | exact List.Mem.head _ | apply List.Mem.tail)) | (repeat (first | assumption | apply Rd.up))) rfl rfl ?_
      refine TOps.call (vs := [_]) Try.call48 ⟨rfl, trivial⟩ (trimN_g hF1 hk he) rfl ?_
      rintro _ _ ⟨ta, tc, N, rfl, hN, rfl⟩
      rw [← hG] at hN ⊢
      refine TOps.le (H' := row (some b4) 67 3 1 [slV none 0 0 0, slV none 0 0 0, .int .i64 0] :: row (some b2) 24 3 1 [.int .i64 (v : Nat), slV na no F.nodes.length cap nsp, .int .i64 F.top] :: (N ++ H)) (Le.perm ((List.perm_middle (l₁ := N) (l₂ := row (some b2) 24 3 1 [.int .i64 (v : Nat), slV na no F.nodes.length cap nsp, .int .i64 F.top] :: H)).trans (List.Perm.cons _ List.perm_middle))) ?_
      refine TOps.move rfl rfl ?_
      refine TOps.extract rfl rfl rfl ?_
      refine TOps.extract rfl rfl rfl ?_
      refine TOps.storeN rfl rfl ti24 rfl rfl (by repeat (first | exact Upd.here | apply Upd.there)) (by first | decide | (simp; done) | (simp; omega)) ?_
      refine TOps.assign rfl rfl ?_
      have hLE : Le (row (some b4) 67 3 1 [slV none 0 0 0, slV none 0 0 0, .int .i64 0] :: row (some b2) 24 3 1 [.int .i64 G.vars, slV ta 0 G.nodes.length tc, .int .i64 G.top] :: (N ++ H)) (row (some b2) 24 3 1 [.int .i64 G.vars, slV ta 0 G.nodes.length tc, .int .i64 G.top] :: row (some b4) 67 3 1 [slV none 0 0 0, slV none 0 0 0, .int .i64 0] :: (N ++ H)) := Le.swap
      refine TOps.next ?_
      refine Tri.seq (Tri.region ?_)
      refine TOps.move rfl rfl ?_
      refine TOps.neqNil (T := 73) (o := none) rfl Try.underlying34 rfl ?_
      refine TOps.next ?_
      refine Tri.cond rfl (fun hc4 => ?_) (fun hc4 => ?_)
      · exact absurd hc4 (by first | decide | simp)
      try simp only [decide_eq_true_eq, decide_eq_false_iff_not, Bool.and_eq_true, Bool.or_eq_true, Bool.not_eq_true', Bool.and_eq_false_iff, Bool.or_eq_false_iff, Bool.not_eq_false', Int.not_lt, Int.not_le, ne_eq, Decidable.not_not, Option.isSome_iff_ne_none, Option.isNone_iff_eq_none] at hc4
      refine Tri.fin ?_
      refine Nrm.mid (ta, tc, N) hN (by exact ⟨rfl, rfl, rfl, trivial⟩) hLE
    try simp only [decide_eq_true_eq, decide_eq_false_iff_not, Bool.and_eq_true, Bool.or_eq_true, Bool.not_eq_true', Bool.and_eq_false_iff, Bool.or_eq_false_iff, Bool.not_eq_false', Int.not_lt, Int.not_le, ne_eq, Decidable.not_not, Option.isSome_iff_ne_none, Option.isNone_iff_eq_none] at hc3
    have h0 : F.sizeN = 0 := by omega
    have ht0 := Fm.trim_none hg h0
    rw [← hG] at ht0
    obtain ⟨ta, hta⟩ : ∃ ta : Option Nat, ta = none := ⟨_, rfl⟩
    obtain ⟨tc, htc⟩ : ∃ tc : Nat, tc = 0 := ⟨_, rfl⟩
    obtain ⟨N, hNe⟩ : ∃ N : List Ent, N = [] := ⟨_, rfl⟩
    have hN : RNodes N ta 0 G.nodes := by rw [ht0.1]; exact RNodes.nil
    have hLE : Le (row (some b4) 67 3 1 [slV none 0 0 0, slV none 0 0 0, .int .i64 0] :: row (some b2) 24 3 1 [.int .i64 (v : Nat), slV none 0 0 0, .int .i64 F.top] :: H) (row (some b2) 24 3 1 [.int .i64 G.vars, slV ta 0 G.nodes.length tc, .int .i64 G.top] :: row (some b4) 67 3 1 [slV none 0 0 0, slV none 0 0 0, .int .i64 0] :: (N ++ H)) := by rw [hNe, hta, htc, ht0.1, ht0.2, hGv]; exact Le.swap
    refine Tri.region ?_
    first | refine TOps.fieldB 1 rfl Try.underlying24 rfl rfl ti22 rfl rfl rfl ?_ | refine TOps.fieldN 1 rfl Try.underlying24 rfl rfl ti22 rfl rfl rfl ?_
    refine TOps.store1 rfl rfl ti22 rfl rfl (by repeat (first | exact Upd.here | apply Upd.there)) (by first | decide | (simp; done) | (simp; omega) | exact (show (1 : Nat) < 3 by decide)) ?_
    refine TOps.fin ?_
    refine Nrm.mid (ta, tc, N) hN (by exact ⟨rfl, rfl, rfl, trivial⟩) hLE
  refine Tri.seq (Tri.region ?_)
  obtain ⟨ta, tc, N⟩ := y
  simp only at hmid ⊢
  refine TOps.hide2 (fun H2 l2 s2 r2 => ?_)
  have lH := l2.trans (Le.sub (List.sublist_append_right N H))
  have sH := (List.sublist_append_right N H).trans s2
  have hns2 := RNodes.le hmid (l2.trans (Le.sub (List.sublist_append_left N H)))
  obtain ⟨M, hM⟩ : ∃ M, v + G.nodes.length = M := ⟨_, rfl⟩
  refine TOps.move rfl rfl ?_
  refine TOps.call (vs := [_]) Try.call22 ⟨rfl, trivial⟩ (new_g ho (by omega) (hr.le (Le.drop lH))) rfl ?_
  rintro _ _ ⟨D, d1, d2, d3, hD, hty, rfl, rfl⟩
  subst d1
  have r2' : ∀ {t : Tb}, Rd (tabE D t :: row (some b4) 67 3 1 [slV none 0 0 0, slV none 0 0 0, .int .i64 0] :: H2) b2 0 [.int .i64 G.vars, slV ta 0 G.nodes.length tc, .int .i64 G.top] := fun {t} => r2.up.up
  refine TOps.assign rfl rfl ?_
  refine TOps.next ?_
  refine Tri.seq (Tri.region ?_)
  refine TOps.field0 rfl Try.underlying24 rfl rfl ti3 rfl rfl rfl ?_
  refine TOps.load1 rfl ti3 (Rd.fld r2' 0 rfl) rfl ?_
  first | refine TOps.fieldB 1 rfl Try.underlying24 rfl rfl ti22 rfl rfl rfl ?_ | refine TOps.fieldN 1 rfl Try.underlying24 rfl rfl ti22 rfl rfl rfl ?_
  refine TOps.load1 rfl ti22 (Rd.fld r2' 1 rfl) rfl ?_
  refine TOps.len rfl Try.underlying22 rfl ?_
  refine TOps.add (r := (M : Int)) rfl rfl (by rw [hGv, wrapI (by omega) (by omega)]; omega) rfl ?_
  refine TOps.make1 rfl rfl Try.underlying53 ti3 (by omega) (by omega) (by omega) rfl (fun b56 => ?_)
  refine TOps.le Le.swap ?_
  rw [show List.replicate M (Value.int .i64 0) = nats (List.replicate M 0) by simp]
  refine TOps.assign rfl rfl ?_
  refine TOps.next ?_
  refine Tri.seq ?_
  refine Tri.seq (Tri.region ?_)
  refine TOps.field0 rfl Try.underlying24 rfl rfl ti3 rfl rfl rfl ?_
  refine TOps.load1 rfl ti3 (Rd.fld r2.up.up.up 0 rfl) rfl ?_
  rw [hGv]
  refine TOps.move rfl rfl ?_
  refine TOps.next ?_
  refine Tri.range (X := Tb × List Nat) (fun y k => [(1, slV xa xo D.n xc sp), (2, .pointer (some ⟨b2, 0, none⟩)), (4, .pointer (some ⟨b4, 0, none⟩)), (10, .pointer (some ⟨D.bt, 0, none⟩)), (11, slV (some b56) 0 M M)]) (fun y k => tabE D y.1 :: row (some b56) 3 1 M (nats y.2) :: row (some b4) 67 3 1 [slV none 0 0 0, slV none 0 0 0, .int .i64 0] :: H2) (fun y k => BdOk D G y.1 y.2 M k) (by omega) rfl rfl rfl (fun _ _ => ⟨rfl, rfl, rfl, rfl⟩) (Tb.new, List.replicate M 0) (BdOk.start D G M) ⟨rfl, rfl, rfl, rfl, rfl, trivial⟩ (Le.refl _) (fun k y hlt hp => ?_) (fun y ac wc hp hS hM => ?_)
  · skip
    obtain ⟨t1, rs⟩ := y
    simp only at hp
    have hrl := hp.len; have hsz := hp.size
    refine Tri.seq (Tri.region ?_)
    refine TOps.move rfl rfl ?_
    refine TOps.assign rfl rfl ?_
    refine TOps.next ?_
    refine Tri.region ?_
    refine TOps.move rfl rfl ?_
    refine TOps.move rfl rfl ?_
    refine TOps.move rfl rfl ?_
    refine TOps.move rfl rfl ?_
    refine TOps.call (vs := [_, _]) Try.call49 ⟨rfl, rfl, trivial⟩ (event_g hD hty hp.ok hlt (by omega)) rfl ?_
    rintro _ _ ⟨t2, x2, rfl, k2, rfl⟩
    refine TOps.indexAddr (off' := k) rfl rfl Try.underlying53 ti3 (by omega) (by omega) (by simp) rfl ?_
    refine TOps.store1 rfl rfl ti3 rfl rfl (Upd.there Upd.here) (by simp; omega) ?_
    rw [← nats_set]
    refine TOps.fin ?_
    refine Nrm.body (t2, rs.set k x2) (hp.step (by omega) (by omega) ((MkOk.event k2).mono (fun s => (Fm.valS_event hGv (by omega) s hlt).symm) (Nat.le_refl _))) ⟨rfl, rfl, rfl, rfl, rfl, rfl, rfl, trivial⟩ (Le.refl _)
  obtain ⟨t0, rs0⟩ := y
  simp only at hp
  refine Nrm.of hS hM ?_
  refine Nrm.next ?_
  refine Tri.seq ?_
  refine Tri.seq (Tri.region ?_)
  first | refine TOps.fieldB 1 rfl Try.underlying24 rfl rfl ti22 rfl rfl rfl ?_ | refine TOps.fieldN 1 rfl Try.underlying24 rfl rfl ti22 rfl rfl rfl ?_
  refine TOps.load1 rfl ti22 (Rd.fld r2.up.up.up 1 rfl) rfl ?_
  refine TOps.len rfl Try.underlying22 rfl ?_
  refine TOps.move rfl rfl ?_
  refine TOps.next ?_
  refine Tri.range (X := Tb × List Nat) (fun y k => [(1, slV xa xo D.n xc sp), (2, .pointer (some ⟨b2, 0, none⟩)), (4, .pointer (some ⟨b4, 0, none⟩)), (10, .pointer (some ⟨D.bt, 0, none⟩)), (11, slV (some b56) 0 M M), (70, slV ta 0 G.nodes.length tc)]) (fun y k => tabE D y.1 :: row (some b56) 3 1 M (nats y.2) :: row (some b4) 67 3 1 [slV none 0 0 0, slV none 0 0 0, .int .i64 0] :: H2) (fun y k => BdOk D G y.1 y.2 M (D.n + k)) (by omega) rfl rfl rfl (fun _ _ => ⟨rfl, rfl, rfl, rfl⟩) (t0, rs0) hp ⟨rfl, rfl, rfl, rfl, rfl, rfl, trivial⟩ (Le.refl _) (fun k y hlt hp => ?_) (fun y ac wc hp hS hM => ?_)
  · skip
    obtain ⟨t1, rs⟩ := y
    simp only at hp
    have hrl := hp.len; have hsz := hp.size
    obtain ⟨nb, aa, ao, acap, asp, hta, hnsp, hnd⟩ := hns2.at hlt
    have hfi := hgG.fits k hlt
    have hal := hfi.len
    obtain ⟨hbx, hbv⟩ := hp.node hgG hGv hlt
    have hin : ∀ a ∈ G.nodes[k].args, 0 ≤ a ∧ a.toNat < D.n + k := fun a ha => by have := hfi.args a ha; omega
    refine Tri.seq (Tri.region ?_)
    refine TOps.move rfl rfl ?_
    refine TOps.indexAddr (b := nb) (off := 0) (m := G.nodes.length) (cap := tc) (off' := 0 + k * 3) (by rw [← hta]; rfl) rfl Try.underlying22 ti102 (by omega) (by omega) (by simp) rfl ?_
    refine TOps.loadN (vs := [.int .i64 G.nodes[k].kind, .int .i64 G.nodes[k].k, slV aa ao G.nodes[k].args.length acap asp]) rfl ti102 (hnd.cells.le (Le.drop (Le.drop (Le.drop (Le.refl _))))) rfl rfl ?_
    refine TOps.alloc ti102 rfl (fun b14 => ?_)
    refine TOps.assign rfl rfl ?_
    refine TOps.storeN rfl rfl ti102 rfl rfl (by repeat (first | exact Upd.here | apply Upd.there)) (by first | decide | (simp; done) | (simp; omega)) ?_
    show TOps _ _ _ (row (some b14) 102 3 1 [.int .i64 G.nodes[k].kind, .int .i64 G.nodes[k].k, slV aa ao G.nodes[k].args.length acap asp] :: tabE D t1 :: row (some b56) 3 1 M (nats rs) :: row (some b4) 67 3 1 [slV none 0 0 0, slV none 0 0 0, .int .i64 0] :: H2) _ _ _
    refine TOps.le Le.swap ?_
    refine TOps.next ?_
    refine Tri.seq (Tri.region ?_)
    refine TOps.assign rfl rfl ?_
    refine TOps.next ?_
    refine Tri.seq ?_
    refine Tri.seq (Tri.region ?_)
    first | refine TOps.fieldB 2 rfl Try.underlying102 rfl rfl ti53 rfl rfl rfl ?_ | refine TOps.fieldN 2 rfl Try.underlying102 rfl rfl ti53 rfl rfl rfl ?_
    refine TOps.load1 rfl ti53 (by first | exact Rd.lit (by repeat (first | exact List.Mem.head _ | apply List.Mem.tail)) rfl | (repeat (first | assumption | exact Rd.fld (by assumption) 2 rfl | apply Rd.up))) rfl ?_
    refine TOps.len rfl Try.underlying53 rfl ?_
    refine TOps.move rfl rfl ?_
    refine TOps.next ?_
    refine Tri.range (X := Option Nat × Nat) (fun z j => [(1, slV xa xo D.n xc sp), (2, .pointer (some ⟨b2, 0, none⟩)), (4, .pointer (some ⟨b4, 0, none⟩)), (10, .pointer (some ⟨D.bt, 0, none⟩)), (11, slV (some b56) 0 M M), (70, slV ta 0 G.nodes.length tc), (71, .int .i64 G.nodes.length), (72, natV k), (13, natV k), (14, .pointer (some ⟨b14, 0, none⟩)), (15, slV z.1 0 j z.2), (78, slV aa ao G.nodes[k].args.length acap asp)]) (fun z j => tabE D t1 :: row z.1 3 1 z.2 (nats (argR rs (G.nodes[k].args.take j))) :: row (some b14) 102 3 1 [.int .i64 G.nodes[k].kind, .int .i64 G.nodes[k].k, slV aa ao G.nodes[k].args.length acap asp] :: row (some b56) 3 1 M (nats rs) :: row (some b4) 67 3 1 [slV none 0 0 0, slV none 0 0 0, .int .i64 0] :: H2) (fun z j => j ≠ 0 → ∃ b, z.1 = some b) (by omega) rfl rfl rfl (fun _ _ => ⟨rfl, rfl, rfl, rfl⟩) (none, 0) (fun h => absurd rfl h) ⟨rfl, rfl, rfl, rfl, rfl, rfl, rfl, rfl, rfl, rfl, rfl, rfl, trivial⟩ ((Le.addNil (E := 3) (sz := 1)).trans Le.swap) (fun j z hltj hpj => ?_) (fun z ac wc hpj hS hM => ?_)
    · skip
      obtain ⟨ab, haa, hasp, hxa⟩ := hnd.args.at hltj
      obtain ⟨h00, h01⟩ := hin _ (List.getElem_mem hltj)
      have hrj : (nats rs)[(G.nodes[k].args[j]).toNat]? = some (natV (rs.getD (G.nodes[k].args[j]).toNat 0)) := nats_get (by omega)
      have hlen4 : (argR rs (G.nodes[k].args.take j)).length = j := by unfold argR; simp; omega
      refine Tri.seq (Tri.region ?_)
      refine TOps.indexAddr (b := ab) (off := ao) (m := G.nodes[k].args.length) (cap := acap) (off' := ao + j) (by rw [← haa, ← hasp]; rfl) rfl Try.underlying53 ti3 (by omega) (by omega) (by simp) rfl ?_
      refine TOps.load1 rfl ti3 (hxa.le (Le.drop (Le.drop (Le.drop (Le.drop (Le.drop (Le.refl _))))))) rfl ?_
      refine TOps.assign rfl rfl ?_
      refine TOps.next ?_
      refine Tri.region ?_
      refine TOps.move rfl rfl ?_
      refine TOps.move rfl rfl ?_
      refine TOps.move rfl rfl ?_
      refine TOps.indexAddr (off' := (G.nodes[k].args[j]).toNat) rfl rfl Try.underlying53 ti3 (by omega) (by omega) (by simp) rfl ?_
      refine TOps.load1 rfl ti3 (Rd.lit (by repeat (first | exact List.Mem.head _ | apply List.Mem.tail)) hrj) rfl ?_
      refine TOps.buildSlice (vs := [_]) (xs := [_]) Try.underlying53 ti3 ⟨rfl, rfl, trivial⟩ rfl rfl rfl rfl rfl rfl (by decide) rfl (fun b89 => ?_)
      refine TOps.appendLit rfl rfl Try.underlying53 ti3 rfl (fun _ _ => (by repeat (first | exact Upd.here | apply Upd.there))) rfl (by simp; omega) rfl (by omega) (by omega) (by simp) rfl (fun b90 cap90 => ?_)
      refine TOps.assign rfl rfl ?_
      refine TOps.fin ?_
      refine Nrm.body (some b90, cap90) (fun _ => ⟨_, rfl⟩) ⟨rfl, rfl, rfl, rfl, rfl, rfl, rfl, rfl, rfl, rfl, rfl, rfl, rfl, rfl, trivial⟩ (by rw [argR_succ hltj, nats_snoc]; exact Le.refl _)
    rw [List.take_length] at hM
    have hxl : (argR rs G.nodes[k].args).length = G.nodes[k].args.length := by unfold argR; simp
    have hxr : RdS (row z.1 3 1 z.2 (nats (argR rs G.nodes[k].args)) :: row (some b14) 102 3 1 [.int .i64 G.nodes[k].kind, .int .i64 G.nodes[k].k, slV aa ao G.nodes[k].args.length acap asp] :: row (some b56) 3 1 M (nats rs) :: row (some b4) 67 3 1 [slV none 0 0 0, slV none 0 0 0, .int .i64 0] :: H2) z.1 0 (nats (argR rs G.nodes[k].args)) := RdS.ofRowA (List.Mem.head _) (fun h => hpj (fun h0 => h (by rw [List.eq_nil_of_length_eq_zero (hxl.trans h0)]; rfl)))
    have hs1 : t1.sz + 131072 ≤ 1099511627776 := szB (by omega) (by decide)
    refine Nrm.of hS hM ?_
    refine Nrm.next ?_
    refine Tri.seq ?_
    refine Tri.drawX (X := Tb × Nat) rfl [(1, slV xa xo D.n xc sp), (2, .pointer (some ⟨b2, 0, none⟩)), (4, .pointer (some ⟨b4, 0, none⟩)), (10, .pointer (some ⟨D.bt, 0, none⟩)), (11, slV (some b56) 0 M M), (70, slV ta 0 G.nodes.length tc), (71, .int .i64 G.nodes.length), (72, natV k), (13, natV k), (14, .pointer (some ⟨b14, 0, none⟩)), (15, slV z.1 0 G.nodes[k].args.length z.2)] [] (fun x => [_, _, _, _, _, _, _, _, natV x.2, _, undef]) (fun x c => match c with | 0 => tabE D t1 :: row z.1 3 1 z.2 (nats (argR rs G.nodes[k].args)) :: row (some b14) 102 3 1 [.int .i64 G.nodes[k].kind, .int .i64 G.nodes[k].k, slV aa ao G.nodes[k].args.length acap asp] :: row (some b56) 3 1 M (nats rs) :: row (some b4) 67 3 1 [slV none 0 0 0, slV none 0 0 0, .int .i64 0] :: H2 | 1 => fact (OpR D t1 x.1 x.2 (fun s => G.valS D.n s (D.n + k)) 65536) :: tabE D x.1 :: row z.1 3 1 z.2 (nats (argR rs G.nodes[k].args)) :: row (some b14) 102 3 1 [.int .i64 G.nodes[k].kind, .int .i64 G.nodes[k].k, slV aa ao G.nodes[k].args.length acap asp] :: row (some b56) 3 1 M (nats rs) :: row (some b4) 67 3 1 [slV none 0 0 0, slV none 0 0 0, .int .i64 0] :: H2 | _ + 2 => fact (OpR D t1 x.1 x.2 (fun s => G.valS D.n s (D.n + k)) 65536) :: tabE D x.1 :: row z.1 3 1 z.2 (nats (argR rs G.nodes[k].args)) :: row (some b14) 102 3 1 [.int .i64 G.nodes[k].kind, .int .i64 G.nodes[k].k, slV aa ao G.nodes[k].args.length acap asp] :: row (some b56) 3 1 M ((nats rs).set (D.n + k) (natV x.2)) :: row (some b4) 67 3 1 [slV none 0 0 0, slV none 0 0 0, .int .i64 0] :: H2) [8, 10] (t1, 0) [] rfl rfl ⟨rfl, rfl, rfl, rfl, rfl, rfl, rfl, rfl, rfl, rfl, rfl, trivial⟩ trivial (by repeat (first | exact Le.refl _ | assumption | apply Le.drop)) (by
      refine ⟨?_, ?_, ?_, ?_, ?_, ?_, ?_, ?_, ?_, ?_, ?_, trivial⟩
      · refine ⟨fun x S c he hw hd hc hcu hm _ => ?_, trivial⟩
        refine TOps.move (he _ _ rfl) rfl ?_
        exact TOps.fd x rfl rfl
      · refine ⟨fun x S c he hw hd hc hcu hm _ => ?_, trivial⟩
        refine TOps.field0 (he _ _ rfl) Try.underlying24 rfl rfl ti3 rfl rfl rfl ?_
        exact TOps.fd x rfl rfl
      · refine ⟨fun x S c he hw hd hc hcu hm _ => ?_, trivial⟩
        obtain ⟨h1, -⟩ := hd
        rcases (show c = 0 ∨ c = 1 by have : c ≤ 1 := hcu; omega) with rfl | rfl <;> refine TOps.load1 h1 ti3 (Rd.fld (r2.le (by repeat (first | exact Le.drop (Le.refl _) | apply Le.drop))) 0 rfl) rfl ?_
        all_goals rw [hGv]
        all_goals exact TOps.fin (Nrm.draw x (fun _ _ _ => rfl) rfl (Le.refl _))
      · refine ⟨fun x S c he hw hd hc hcu hm _ => ?_, trivial⟩
        refine TOps.move (he _ _ rfl) rfl ?_
        exact TOps.fd x rfl rfl
      · refine ⟨fun x S c he hw hd hc hcu hm _ => ?_, trivial⟩
        obtain ⟨h2, h3, -⟩ := hd
        refine TOps.add (r := ((D.n + k : Nat) : Int)) h2 h3 (by rw [wrapI (by omega) (by omega)]; omega) rfl ?_
        exact TOps.fd x rfl rfl
      · refine ⟨fun x S c he hw hd hc hcu hm _ => ?_, trivial⟩
        refine TOps.move (he _ _ rfl) rfl ?_
        exact TOps.fd x rfl rfl
      · refine ⟨fun x S c he hw hd hc hcu hm _ => ?_, trivial⟩
        obtain rfl : c = 0 := by have : c ≤ 0 := hcu; omega
        refine TOps.loadN (vs := [.int .i64 G.nodes[k].kind, .int .i64 G.nodes[k].k, slV aa ao G.nodes[k].args.length acap asp]) (he _ _ rfl) ti102 (Rd.all (by repeat (first | exact List.Mem.head _ | apply List.Mem.tail))) rfl rfl ?_
        exact TOps.fd x rfl rfl
      · refine ⟨fun x S c he hw hd hc hcu hm _ => ?_, trivial⟩
        refine TOps.move (he _ _ rfl) rfl ?_
        exact TOps.fd x rfl rfl
      · refine ⟨fun x S c he hw hd hc hcu hm _ => ?_, trivial⟩
        obtain ⟨h5, h6, h7, -⟩ := hd
        obtain rfl : c = 0 := hm rfl
        refine TOps.call (vs := [_, _, _]) Try.call50 ⟨h5, h6, h7, trivial⟩ (dnode_g hD hty hv8 hp.ok hfi hxl rfl hbx hxr hs1) rfl ?_
        rintro _ _ ⟨t2, r2', rfl, k2, rfl⟩
        refine TOps.fin (Nrm.draw (t2, r2') ?_ rfl (Le.addFact (k2.mono (fun s => (hbv s).symm) (Nat.le_refl _))))
        intro j hj hcj; rcases j with _|_|_|_|_|_|_|_|_|_|_|j <;> first | rfl | exact absurd rfl hj | exact absurd hcj (by decide)
      · refine ⟨fun x S c he hw hd hc hcu hm _ => ?_, trivial⟩
        obtain ⟨h0, h4, _, h1, h2, h3, _, h5, h6, h7, h8, -⟩ := hd
        refine TOps.indexAddr (off' := D.n + k) h0 h4 Try.underlying53 ti3 (by omega) (by omega) (by omega) rfl ?_
        exact TOps.fd x rfl rfl
      · refine ⟨fun x S c he hw hd hc hcu hm _ => ?_, trivial⟩
        obtain ⟨h9, h8, _, h0, h1, h2, h3, h4, h5, h6, h7, _, -⟩ := hd
        obtain rfl : c = 1 := hm rfl
        refine TOps.store1 h9 h8 ti3 rfl rfl (by repeat (first | exact Upd.here | apply Upd.there)) (by simp; omega) ?_
        exact TOps.fd x rfl rfl
      ) (fun w => ?_)
    refine Nrm.fact (List.Mem.head _) (fun f1 => ?_)
    refine Nrm.le (Le.drop (Le.refl _)) ?_
    have hB := hp.step (k := D.n + k) (by omega) (Nat.le_refl _) f1
    have hBl := hB.len
    have hBr := hB.ref (D.n + k) (by omega)
    have hBg : (nats (rs.set (D.n + k) w.2))[D.n + k]? = some (natV ((rs.set (D.n + k) w.2).getD (D.n + k) 0)) := nats_get (by omega)
    rw [← nats_set]
    refine Nrm.next ?_
    refine Tri.seq (Tri.region ?_)
    refine TOps.move rfl rfl ?_
    refine TOps.move rfl rfl ?_
    refine TOps.field0 rfl Try.underlying24 rfl rfl ti3 rfl rfl rfl ?_
    refine TOps.load1 rfl ti3 (Rd.fld (r2.le (by repeat (first | exact Le.drop (Le.refl _) | apply Le.drop))) 0 rfl) rfl ?_
    rw [hGv]
    refine TOps.move rfl rfl ?_
    refine TOps.add (r := ((D.n + k : Nat) : Int)) rfl rfl (by rw [wrapI (by omega) (by omega)]; omega) rfl ?_
    refine TOps.indexAddr (off' := D.n + k) rfl rfl Try.underlying53 ti3 (by omega) (by omega) (by omega) rfl ?_
    refine TOps.load1 rfl ti3 (Rd.lit (by repeat (first | exact List.Mem.head _ | apply List.Mem.tail)) hBg) rfl ?_
    refine TOps.call (vs := [_, _, _]) Try.call26 ⟨rfl, rfl, rfl, trivial⟩ (small_g hD hv8 hB.ok (tab_rd hD hB.ok) hBr) rfl ?_
    rintro _ _ ⟨rfl, rfl⟩
    refine TOps.not rfl rfl ?_
    refine TOps.next ?_
    refine Tri.cond rfl (fun hc5 => ?_) (fun hc5 => ?_)
    · exact absurd hc5 (by first | decide | simp)
    try simp only [decide_eq_true_eq, decide_eq_false_iff_not, Bool.and_eq_true, Bool.or_eq_true, Bool.not_eq_true', Bool.and_eq_false_iff, Bool.or_eq_false_iff, Bool.not_eq_false', Int.not_lt, Int.not_le, ne_eq, Decidable.not_not, Option.isSome_iff_ne_none, Option.isNone_iff_eq_none] at hc5
    refine Tri.fin ?_
    refine Nrm.body (w.1, rs.set (D.n + k) w.2) (by rw [← Nat.add_assoc]; exact hB) ⟨rfl, rfl, rfl, rfl, rfl, rfl, rfl, rfl, trivial⟩ (Le.sub (List.Sublist.cons_cons _ (List.Sublist.cons _ (List.sublist_cons_self _ _))))
  obtain ⟨t1, rs⟩ := y
  simp only at hp
  have hrl := hp.len
  have htM : tp < M := by omega
  have hrt : (nats rs)[tp]? = some (natV (rs.getD tp 0)) := nats_get (by omega)
  refine Nrm.of hS hM ?_
  refine Nrm.next ?_
  refine Tri.seq (Tri.region ?_)
  refine TOps.move rfl rfl ?_
  refine TOps.move rfl rfl ?_
  first | refine TOps.fieldB 2 rfl Try.underlying24 rfl rfl ti3 rfl rfl rfl ?_ | refine TOps.fieldN 2 rfl Try.underlying24 rfl rfl ti3 rfl rfl rfl ?_
  refine TOps.load1 (v := natV tp) rfl ti3 (by have := Rd.fld r2 2 rfl; rw [htp] at this; exact this.up.up.up) rfl ?_
  refine TOps.indexAddr (off' := tp) rfl rfl Try.underlying53 ti3 (by omega) (by omega) (by simp) rfl ?_
  refine TOps.load1 rfl ti3 (Rd.lit (by repeat (first | exact List.Mem.head _ | apply List.Mem.tail)) hrt) rfl ?_
  refine TOps.call (vs := [_, _]) Try.call51 ⟨rfl, rfl, trivial⟩ (export_g hD hv8 hp.ok (tab_rd hD hp.ok) (hp.ref tp (by omega))) rfl ?_
  rintro _ _ ⟨dn, rt, oa', oc', na', nc', rfl, kd, ka, rfl⟩
  rw [d2, d3] at *
  refine TOps.storeN rfl rfl ti67 rfl rfl (by repeat (first | exact Upd.here | apply Upd.there)) (by first | decide | (simp; done) | (simp; omega)) ?_
  refine TOps.assign rfl rfl ?_
  have hval : ∀ s, t1.val s (rs.getD tp 0) = F.value (zOf D.n s : Nat) := fun s => by rw [hp.val tp (by omega) s, ← hGs s, htp]; rfl
  refine TOps.next ?_
  refine Tri.ret2 (H' := row na' 123 3 nc' (dnsV dn) :: row oa' 3 1 oc' (nats o) :: H) Try.results23 (fun _ _ h => h) (.cellN rfl rfl ti67 (Rd.all (by repeat (first | exact List.Mem.head _ | apply List.Mem.tail))) rfl) (.tmp rfl) (Le.sub (List.Sublist.cons_cons _ (List.Sublist.cons_cons _ (List.Sublist.cons _ (List.Sublist.cons _ (List.Sublist.cons _ sH)))))) ⟨dn, rt, oa', oc', na', nc', rfl, ⟨kd.ok, kd.ref, fun s => by rw [kd.val s]; exact hval s, kd.size⟩, ka, rfl⟩
end Go.Proofs
namespace Go.Proofs
open Go.GL
set_option linter.unusedVariables false
set_option linter.unusedSimpArgs false
theorem ccheck_g {H : List Ent} {fv gv : Value} {F G : Fm} (hF : RF H fv F) (hkF : F.ok) (heF : F.err = none) (hG : RF H gv G) (hkG : G.ok) (heG : G.err = none) (hvv : F.vars = G.vars) :
    Gives Try.prog 20 [fv, gv] H (R1 (errV 73 none) H) := by
  have hF0 := hF; have hG0 := hG
  obtain ⟨na, no, cap, sa, rfl, hN⟩ := hF
  obtain ⟨nb, mo, cbp, sb, rfl, hM⟩ := hG
  refine Gives.enter Try.func20 rfl (by exact Try.ntmps20) rfl ?_
  refine Tri.seq (Tri.region ?_)
  refine TOps.boxN rfl ti24 rfl rfl (fun b2 => ?_)
  refine TOps.hide (fun H1 l1 s1 r1 => ?_)
  replace hF0 := hF0.le l1; replace hG0 := hG0.le l1
  refine TOps.boxN rfl ti24 rfl rfl (fun b3 => ?_)
  refine TOps.hide (fun H2 l2 s2 r2 => ?_)
  replace hF0 := hF0.le l2; replace hG0 := hG0.le l2; replace r1 := r1.le l2; have l3 := l2.trans l1
  refine TOps.assign rfl rfl ?_
  refine TOps.next ?_
  refine Tri.seq ?_
  refine Tri.seq (Tri.region ?_)
  refine TOps.loadN rfl ti24 (by first | exact Rd.all (by repeat (first | exact List.Mem.head _ | apply List.Mem.tail)) | (repeat (first | assumption | apply Rd.up))) rfl rfl ?_
  refine TOps.loadN rfl ti24 (by first | exact Rd.all (by repeat (first | exact List.Mem.head _ | apply List.Mem.tail)) | (repeat (first | assumption | apply Rd.up))) rfl rfl ?_
  refine TOps.buildSlice (vs := [_, _]) (xs := [_, _, _, _, _, _]) Try.underlying64 ti24 ⟨rfl, rfl, rfl, rfl, trivial⟩ rfl rfl rfl rfl rfl rfl (by decide) rfl (fun b10 => ?_)
  refine TOps.len rfl Try.underlying64 rfl ?_
  refine TOps.move rfl rfl ?_
  refine TOps.next ?_
  refine Tri.range (X := Unit) (fun x k => [(2, .pointer (some ⟨b2, 0, none⟩)), (3, .pointer (some ⟨b3, 0, none⟩)), (10, slV (some b10) 0 2 2)]) (fun x k => row (some b10) 24 3 2 [.int .i64 F.vars, slV na no F.nodes.length cap sa, .int .i64 F.top, .int .i64 G.vars, slV nb mo G.nodes.length cbp sb, .int .i64 G.top] :: H2) (fun x k => True) (by omega) rfl rfl rfl (fun _ _ => ⟨rfl, rfl, rfl, rfl⟩) () trivial ⟨rfl, rfl, rfl, trivial⟩ (by repeat (first | exact Le.refl _ | assumption | apply Le.drop)) (fun k x hlt hp => ?_) (fun x ac wc hp hS hM => ?_)
  · skip
    obtain ⟨X, xa, xo, xc, xs, hX, hXF, hXr⟩ := pick_two (b := b10) (E := 0) hF0 hG0 hlt
    have hkX : X.ok := by rw [hX]; exact pk_all hkF hkG
    have heX : X.err = none := by rw [hX]; exact pk_all (p := fun X : Fm => X.err = none) heF heG
    have hXr' := hXr (H' := row (some b10) 24 3 2 [.int .i64 F.vars, slV na no F.nodes.length cap sa, .int .i64 F.top, .int .i64 G.vars, slV nb mo G.nodes.length cbp sb, .int .i64 G.top] :: H2) (Rd.all (List.Mem.head _))
    refine Tri.seq (Tri.region ?_)
    refine TOps.indexAddr (off' := k * 3) rfl rfl Try.underlying64 ti24 (by omega) (by omega) (by simp) rfl ?_
    refine TOps.loadN (vs := fc3 X xa xo xc xs) rfl ti24 hXr' rfl rfl ?_
    refine TOps.alloc ti24 rfl (fun b6 => ?_)
    refine TOps.storeN rfl rfl ti24 rfl rfl (by repeat (first | exact Upd.here | apply Upd.there)) (by first | decide | (simp; done) | (simp; omega)) ?_
    refine TOps.next ?_
    refine Tri.seq (Tri.region ?_)
    refine TOps.loadN (vs := fc3 X xa xo xc xs) rfl ti24 (Rd.all (List.Mem.head _)) rfl rfl ?_
    refine TOps.call (vs := [_]) Try.call30 ⟨rfl, trivial⟩ (check_g (hXF.le (Le.drop (Le.drop (Le.refl _)))) hkX) rfl ?_
    rintro _ _ ⟨rfl, rfl⟩
    rw [heX]
    refine TOps.assign rfl rfl ?_
    refine TOps.next ?_
    refine Tri.seq (Tri.region ?_)
    refine TOps.move rfl rfl ?_
    refine TOps.neqNil (T := 73) (o := none) rfl Try.underlying34 rfl ?_
    refine TOps.next ?_
    refine Tri.cond rfl (fun hc1 => ?_) (fun hc1 => ?_)
    · exact absurd hc1 (by first | decide | simp)
    try simp only [decide_eq_true_eq, decide_eq_false_iff_not, Bool.and_eq_true, Bool.or_eq_true, Bool.not_eq_true', Bool.and_eq_false_iff, Bool.or_eq_false_iff, Bool.not_eq_false', Int.not_lt, Int.not_le, ne_eq, Decidable.not_not, Option.isSome_iff_ne_none, Option.isNone_iff_eq_none] at hc1
    refine Tri.fin ?_
    refine Nrm.body () trivial ⟨rfl, rfl, rfl, rfl, rfl, trivial⟩ (by repeat (first | exact Le.refl _ | assumption | apply Le.drop))
  refine Nrm.of hS hM ?_
  refine Nrm.next ?_
  refine Tri.seq ?_
  refine Tri.seq (Tri.region ?_)
  refine TOps.field0 rfl Try.underlying24 rfl rfl ti3 rfl rfl rfl ?_
  refine TOps.load1 rfl ti3 (Rd.fld r1.up 0 rfl) rfl ?_
  refine TOps.field0 rfl Try.underlying24 rfl rfl ti3 rfl rfl rfl ?_
  refine TOps.load1 rfl ti3 (Rd.fld r2.up 0 rfl) rfl ?_
  refine TOps.neqI rfl rfl rfl ?_
  refine TOps.next ?_
  refine Tri.cond rfl (fun hc2 => ?_) (fun hc2 => ?_)
  · try simp only [decide_eq_true_eq, decide_eq_false_iff_not, Bool.and_eq_true, Bool.or_eq_true, Bool.not_eq_true', Bool.and_eq_false_iff, Bool.or_eq_false_iff, Bool.not_eq_false', Int.not_lt, Int.not_le, ne_eq, Decidable.not_not, Option.isSome_iff_ne_none, Option.isNone_iff_eq_none] at hc2
    have hfalse : False := hc2 hvv
    refine Tri.seq (Tri.region ?_)
    refine TOps.makeInterface rfl Try.underlying73 rfl rfl ?_
    refine TOps.assign rfl rfl ?_
    refine TOps.next ?_
    exact hfalse.elim
  try simp only [decide_eq_true_eq, decide_eq_false_iff_not, Bool.and_eq_true, Bool.or_eq_true, Bool.not_eq_true', Bool.and_eq_false_iff, Bool.or_eq_false_iff, Bool.not_eq_false', Int.not_lt, Int.not_le, ne_eq, Decidable.not_not, Option.isSome_iff_ne_none, Option.isNone_iff_eq_none] at hc2
  refine Tri.fin ?_
  refine Nrm.next ?_
  refine Tri.seq (Tri.region ?_)
  refine TOps.assign rfl rfl ?_
  refine TOps.next ?_
  refine Tri.ret1 (H' := H) Try.results20 (fun _ _ h => h) (.tmp rfl) (Le.drop l3) ⟨rfl, rfl⟩
set_option maxHeartbeats 2000000 in
set_option maxRecDepth 20000 in
theorem compare_g {H : List Ent} {fv gv : Value} {F G : Fm} (hF : RF H fv F) (hkF : F.ok) (hgF : F.Good) (hG : RF H gv G) (hkG : G.ok) (hgG : G.Good) {v : Nat} (hvF : F.vars = v) (hvG : G.vars = v) (hv8 : v ≤ 8) (hnF : F.nodes.length ≤ 16) (hnG : G.nodes.length ≤ 16) :
    Gives Try.prog 7 [fv, gv] H (fun u H' => ∃ eq st ct gn ls, u = Value.tuple (List.toArray [dfV eq st ct gn ls, errV 73 none]) ∧ DfOk F G v eq st ct gn ls ∧ H = H') := by
  have hF0 := hF; have hG0 := hG
  have heF := (Fm.good_iff F).2 hgF; have heG := (Fm.good_iff G).2 hgG
  have hvv : F.vars = G.vars := by rw [hvF, hvG]
  obtain ⟨na, no, cap, sa, rfl, hN⟩ := hF
  obtain ⟨nb, mo, cbp, sb, rfl, hM⟩ := hG
  refine Gives.enter Try.func7 rfl (by exact Try.ntmps7) rfl ?_
  refine Tri.seq (Tri.region ?_)
  refine TOps.boxN rfl ti24 rfl rfl (fun b2 => ?_)
  refine TOps.hide (fun H1 l1 s1 r1 => ?_)
  replace hF0 := hF0.le l1; replace hG0 := hG0.le l1
  refine TOps.boxN rfl ti24 rfl rfl (fun b3 => ?_)
  refine TOps.hide (fun H2 l2 s2 r2 => ?_)
  replace hF0 := hF0.le l2; replace hG0 := hG0.le l2; replace r1 := r1.le l2; have l3 := l2.trans l1; have s3 := s1.trans s2
  refine TOps.alloc ti32 rfl (fun b4 => ?_)
  refine TOps.assign rfl rfl ?_
  refine TOps.next ?_
  refine Tri.seq ?_
  refine Tri.seq (Tri.region ?_)
  refine TOps.loadN (vs := fc3 F na no cap sa) rfl ti24 r1.up rfl rfl ?_
  refine TOps.loadN (vs := fc3 G nb mo cbp sb) rfl ti24 r2.up rfl rfl ?_
  refine TOps.call (vs := [_, _]) Try.call20 ⟨rfl, rfl, trivial⟩ (ccheck_g (hF0.le (Le.drop (Le.refl _))) hkF heF (hG0.le (Le.drop (Le.refl _))) hkG heG hvv) rfl ?_
  rintro _ _ ⟨rfl, rfl⟩
  refine TOps.assign rfl rfl ?_
  refine TOps.next ?_
  refine Tri.seq (Tri.region ?_)
  refine TOps.move rfl rfl ?_
  refine TOps.neqNil (T := 73) (o := none) rfl Try.underlying34 rfl ?_
  refine TOps.next ?_
  refine Tri.cond rfl (fun hc1 => ?_) (fun hc1 => ?_)
  · exact absurd hc1 (by first | decide | simp)
  try simp only [decide_eq_true_eq, decide_eq_false_iff_not, Bool.and_eq_true, Bool.or_eq_true, Bool.not_eq_true', Bool.and_eq_false_iff, Bool.or_eq_false_iff, Bool.not_eq_false', Int.not_lt, Int.not_le, ne_eq, Decidable.not_not, Option.isSome_iff_ne_none, Option.isNone_iff_eq_none] at hc1
  refine Tri.fin ?_
  refine Nrm.next ?_
  refine Tri.seq (Tri.region ?_)
  refine TOps.loadN (vs := fc3 F na no cap sa) rfl ti24 r1.up rfl rfl ?_
  refine TOps.call (vs := [_]) Try.call21 ⟨rfl, trivial⟩ (orderDepth_g (hF0.le (Le.drop (Le.refl _))) hkF hgF hvF) rfl ?_
  rintro _ _ ⟨o, oa, oc, rfl, ho, hoa, rfl⟩
  refine TOps.move rfl rfl ?_
  refine TOps.extract rfl rfl rfl ?_
  refine TOps.extract rfl rfl rfl ?_
  refine TOps.assign rfl rfl ?_
  refine TOps.assign rfl rfl ?_
  refine TOps.next ?_
  refine Tri.seq ?_
  refine Tri.seq (Tri.region ?_)
  refine TOps.move rfl rfl ?_
  refine TOps.neqNil (T := 73) (o := none) rfl Try.underlying34 rfl ?_
  refine TOps.next ?_
  refine Tri.cond rfl (fun hc2 => ?_) (fun hc2 => ?_)
  · exact absurd hc2 (by first | decide | simp)
  try simp only [decide_eq_true_eq, decide_eq_false_iff_not, Bool.and_eq_true, Bool.or_eq_true, Bool.not_eq_true', Bool.and_eq_false_iff, Bool.or_eq_false_iff, Bool.not_eq_false', Int.not_lt, Int.not_le, ne_eq, Decidable.not_not, Option.isSome_iff_ne_none, Option.isNone_iff_eq_none] at hc2
  have hor : RdS (row oa 3 1 oc (nats o) :: row (some b4) 32 5 1 [.bool false, .int .i64 0, .int .i64 0, .int .i64 0, .int .i64 0] :: H2) oa 0 (nats o) := RdS.ofRowA (List.Mem.head _) (fun h => hoa (fun e => h (by rw [e]; rfl)))
  refine Tri.fin ?_
  refine Nrm.next ?_
  refine Tri.seq (Tri.region ?_)
  refine TOps.move rfl rfl ?_
  refine TOps.call (vs := [_]) Try.call22 ⟨rfl, trivial⟩ (new_g ho (by omega) hor) rfl ?_
  rintro _ _ ⟨D, d1, d2, d3, hD, hty, rfl, rfl⟩
  subst d1
  refine TOps.assign rfl rfl ?_
  refine TOps.next ?_
  refine Tri.seq (Tri.region ?_)
  refine TOps.alloc ti63 rfl (fun b10 => ?_)
  refine TOps.next ?_
  refine Tri.seq ?_
  refine Tri.seq (Tri.region ?_)
  refine TOps.loadN (vs := fc3 F na no cap sa) rfl ti24 r1.up.up.up.up rfl rfl ?_
  refine TOps.loadN (vs := fc3 G nb mo cbp sb) rfl ti24 r2.up.up.up.up rfl rfl ?_
  refine TOps.buildSlice (vs := [_, _]) (xs := [_, _, _, _, _, _]) Try.underlying64 ti24 ⟨rfl, rfl, rfl, rfl, trivial⟩ rfl rfl rfl rfl rfl rfl (by decide) rfl (fun b36 => ?_)
  refine TOps.len rfl Try.underlying64 rfl ?_
  refine TOps.move rfl rfl ?_
  refine TOps.next ?_
  refine Tri.range (X := Tb × Nat × Nat) (fun y k => [(2, .pointer (some ⟨b2, 0, none⟩)), (3, .pointer (some ⟨b3, 0, none⟩)), (4, .pointer (some ⟨b4, 0, none⟩)), (7, slV oa 0 D.n oc), (9, .pointer (some ⟨D.bt, 0, none⟩)), (10, .pointer (some ⟨b10, 0, none⟩)), (36, slV (some b36) 0 2 2)]) (fun y k => tabE D y.1 :: row (some b4) 32 5 1 [.bool false, .int .i64 0, .int .i64 0, .int .i64 0, .int .i64 0] :: row (some b10) 63 2 1 [natV y.2.1, natV y.2.2] :: row (some b36) 24 3 2 [.int .i64 F.vars, slV na no F.nodes.length cap sa, .int .i64 F.top, .int .i64 G.vars, slV nb mo G.nodes.length cbp sb, .int .i64 G.top] :: row oa 3 1 oc (nats o) :: H2) (fun y k => TbOk D y.1 ∧ y.1.sz ≤ 256 * k ∧ (1 ≤ k → y.2.1 < 2 + y.1.sz ∧ ∀ s, y.1.val s y.2.1 = F.value (zOf D.n s : Nat)) ∧ (2 ≤ k → y.2.2 < 2 + y.1.sz ∧ ∀ s, y.1.val s y.2.2 = G.value (zOf D.n s : Nat))) (by omega) rfl rfl rfl (fun _ _ => ⟨rfl, rfl, rfl, rfl⟩) (Tb.new, 0, 0) ⟨TbOk.new D, Nat.le_refl _, fun h => absurd h (by decide), fun h => absurd h (by decide)⟩ ⟨rfl, rfl, rfl, rfl, rfl, rfl, rfl, trivial⟩ (Sp.le (by repeat (first | exact Sp.refl _ | exact Sp.sub (by assumption) | refine Sp.cons (by repeat (first | exact Pick.here | apply Pick.there)) ?_ | exact Sp.nil | apply Sp.skip))) (fun k y hlt hp => ?_) (fun y ac wc hp hS hM => ?_)
  · skip
    obtain ⟨t1, x0, x1⟩ := y
    obtain ⟨p1, p2, p3, p4⟩ := hp
    simp only at p1 p2 p3 p4
    obtain ⟨X, xa, xo, xc, xs, hX, hXF, hXr⟩ := pick_two (b := b36) (E := 0) hF0 hG0 hlt
    have hkX : X.ok := by rw [hX]; exact pk_all hkF hkG
    have hgX : X.Good := by rw [hX]; exact pk_all hgF hgG
    have hvX : X.vars = D.n := by rw [hX]; exact pk_all (p := fun X : Fm => X.vars = D.n) hvF hvG
    have hnX : X.nodes.length ≤ 16 := by rw [hX]; exact pk_all (p := fun X : Fm => X.nodes.length ≤ 16) hnF hnG
    refine Tri.seq (Tri.region ?_)
    refine TOps.move rfl rfl ?_
    refine TOps.indexAddr (off' := k * 3) rfl rfl Try.underlying64 ti24 (by omega) (by omega) (by simp) rfl ?_
    refine TOps.loadN (vs := fc3 X xa xo xc xs) rfl ti24 (hXr (Rd.all (by repeat (first | exact List.Mem.head _ | apply List.Mem.tail)))) rfl rfl ?_
    refine TOps.alloc ti24 rfl (fun b12 => ?_)
    refine TOps.assign rfl rfl ?_
    refine TOps.storeN rfl rfl ti24 rfl rfl (by repeat (first | exact Upd.here | apply Upd.there)) (by first | decide | (simp; done) | (simp; omega)) ?_
    refine TOps.next ?_
    refine Tri.seq (Tri.region ?_)
    refine TOps.loadN (vs := fc3 X xa xo xc xs) rfl ti24 (Rd.all (List.Mem.head _)) rfl rfl ?_
    refine TOps.move rfl rfl ?_
    refine TOps.call (vs := [_, _]) Try.call23 ⟨rfl, rfl, trivial⟩ (build_g (hXF.le (by repeat (first | exact Le.refl _ | apply Le.drop))) hkX hgX hvX hv8 hnX ho (RdS.ofRowA (E := 3) (sz := 1) (cap := oc) (by repeat (first | exact List.Mem.head _ | apply List.Mem.tail)) (fun h => hoa (fun e => h (by rw [e]; rfl))))) rfl ?_
    rintro _ _ ⟨dn, rt, oa', oc', na', nc', rfl, hdg, hna', rfl⟩
    refine TOps.move rfl rfl ?_
    refine TOps.extract rfl rfl rfl ?_
    refine TOps.extract rfl rfl rfl ?_
    refine TOps.alloc ti67 rfl (fun b13 => ?_)
    refine TOps.storeN rfl rfl ti67 rfl rfl (by repeat (first | exact Upd.here | apply Upd.there)) (by first | decide | (simp; done) | (simp; omega)) ?_
    refine TOps.assign rfl rfl ?_
    refine TOps.next ?_
    refine Tri.seq ?_
    refine Tri.seq (Tri.region ?_)
    refine TOps.move rfl rfl ?_
    refine TOps.neqNil (T := 73) (o := none) rfl Try.underlying34 rfl ?_
    refine TOps.next ?_
    refine Tri.cond rfl (fun hc3 => ?_) (fun hc3 => ?_)
    · exact absurd hc3 (by first | decide | simp)
    try simp only [decide_eq_true_eq, decide_eq_false_iff_not, Bool.and_eq_true, Bool.or_eq_true, Bool.not_eq_true', Bool.and_eq_false_iff, Bool.or_eq_false_iff, Bool.not_eq_false', Int.not_lt, Int.not_le, ne_eq, Decidable.not_not, Option.isSome_iff_ne_none, Option.isNone_iff_eq_none] at hc3
    refine Tri.fin ?_
    refine Nrm.next ?_
    refine Tri.region ?_
    refine TOps.le (H' := tabE D t1 :: row (some b13) 67 3 1 [slV oa' 0 D.n oc', slV na' 0 dn.length nc', natV rt] :: row na' 123 3 nc' (dnsV dn) :: row oa' 3 1 oc' (nats o) :: row (some b12) 24 3 1 [.int .i64 X.vars, slV xa xo X.nodes.length xc xs, .int .i64 X.top] :: row (some b4) 32 5 1 [.bool false, .int .i64 0, .int .i64 0, .int .i64 0, .int .i64 0] :: row (some b10) 63 2 1 [natV x0, natV x1] :: row (some b36) 24 3 2 [.int .i64 F.vars, slV na no F.nodes.length cap sa, .int .i64 F.top, .int .i64 G.vars, slV nb mo G.nodes.length cbp sb, .int .i64 G.top] :: row oa 3 1 oc (nats o) :: H2) (Sp.le (by repeat (first | exact Sp.refl _ | exact Sp.sub (by assumption) | refine Sp.cons (by repeat (first | exact Pick.here | apply Pick.there)) ?_ | exact Sp.nil | apply Sp.skip))) ?_
    have hdr : RdS (row (some b13) 67 3 1 [slV oa' 0 D.n oc', slV na' 0 dn.length nc', natV rt] :: row na' 123 3 nc' (dnsV dn) :: row oa' 3 1 oc' (nats o) :: row (some b12) 24 3 1 [.int .i64 X.vars, slV xa xo X.nodes.length xc xs, .int .i64 X.top] :: row (some b4) 32 5 1 [.bool false, .int .i64 0, .int .i64 0, .int .i64 0, .int .i64 0] :: row (some b10) 63 2 1 [natV x0, natV x1] :: row (some b36) 24 3 2 [.int .i64 F.vars, slV na no F.nodes.length cap sa, .int .i64 F.top, .int .i64 G.vars, slV nb mo G.nodes.length cbp sb, .int .i64 G.top] :: row oa 3 1 oc (nats o) :: H2) na' 0 (dnsV dn) := RdS.ofRowA (by repeat (first | exact List.Mem.head _ | apply List.Mem.tail)) (fun h => hna' (fun e => h (by rw [e]; rfl)))
    rw [← d3] at hdg
    refine TOps.move rfl rfl ?_
    refine TOps.move rfl rfl ?_
    refine TOps.loadN rfl ti67 (by first | exact Rd.all (by repeat (first | exact List.Mem.head _ | apply List.Mem.tail)) | (repeat (first | assumption | apply Rd.up))) rfl rfl ?_
    refine TOps.call (vs := [_, _]) Try.call24 ⟨rfl, rfl, trivial⟩ (import_g hD hty p1 hdg hdr (by omega)) rfl ?_
    rintro _ _ ⟨t2, r, rfl, k2, rfl⟩
    refine TOps.indexAddrA (off' := k) rfl rfl Try.underlying63 ti3 (by omega) (by omega) (by simp) rfl ?_
    refine TOps.store1 rfl rfl ti3 rfl rfl (by repeat (first | exact Upd.here | apply Upd.there)) (by simp; omega) ?_
    rw [set_pk hlt]
    have hz2 := k2.size
    refine TOps.fin ?_
    refine Nrm.body (t2, pk k r x0, pk k x1 r) ⟨k2.ok, (by simp only; omega), fun _ => (by obtain rfl | rfl : k = 0 ∨ k = 1 := (by omega); exact ⟨k2.ref, fun s => by rw [show pk 0 r x0 = r from rfl, k2.val s, hX]; rfl⟩; exact ⟨k2.ext.ref (p3 (Nat.le_refl _)).1, fun s => by rw [show pk 1 r x0 = x0 from rfl, k2.ext.val (p3 (Nat.le_refl _)).1]; exact (p3 (Nat.le_refl _)).2 s⟩), fun h2 => (by obtain rfl : k = 1 := (by omega); exact ⟨k2.ref, fun s => by rw [show pk 1 x1 r = r from rfl, k2.val s, hX]; rfl⟩)⟩ ⟨rfl, rfl, rfl, rfl, rfl, rfl, rfl, rfl, rfl, trivial⟩ (Sp.le (by repeat (first | exact Sp.refl _ | exact Sp.sub (by assumption) | refine Sp.cons (by repeat (first | exact Pick.here | apply Pick.there)) ?_ | exact Sp.nil | apply Sp.skip)))
  obtain ⟨t1, x0, x1⟩ := y
  obtain ⟨p1, p2, p3, p4⟩ := hp
  simp only at p1 p2 p3 p4
  obtain ⟨r0, v0⟩ := p3 (by decide)
  obtain ⟨q1, v1⟩ := p4 (by decide)
  have hs1 : t1.sz + 512 ≤ 1099511627776 := szB (by omega) (by decide)
  refine Nrm.of hS hM ?_
  refine Nrm.next ?_
  refine Tri.seq (Tri.region ?_)
  refine TOps.move rfl rfl ?_
  refine TOps.indexAddrA rfl rfl Try.underlying63 ti3 (by omega) (by omega) rfl rfl ?_
  refine TOps.load1 rfl ti3 (by first | exact Rd.lit (by repeat (first | exact List.Mem.head _ | apply List.Mem.tail)) rfl | (repeat (first | assumption | apply Rd.up))) rfl ?_
  refine TOps.indexAddrA rfl rfl Try.underlying63 ti3 (by omega) (by omega) rfl rfl ?_
  refine TOps.load1 rfl ti3 (by first | exact Rd.lit (by repeat (first | exact List.Mem.head _ | apply List.Mem.tail)) rfl | (repeat (first | assumption | apply Rd.up))) rfl ?_
  refine TOps.call (vs := [_, _, _]) Try.call25 ⟨rfl, rfl, rfl, trivial⟩ (xor_g hD hty hv8 p1 r0 q1 hs1) rfl ?_
  rintro _ _ ⟨t0, df, rfl, k0, rfl⟩
  replace k0 : OpR D t1 t0 df (fun s => t1.val s x0 != t1.val s x1) 512 := k0
  have hz0 := k0.size
  have hx0 : ∀ s, t0.val s x0 = F.value (zOf D.n s : Nat) := fun s => by rw [k0.ext.val r0]; exact v0 s
  have hx1 : ∀ s, t0.val s x1 = G.value (zOf D.n s : Nat) := fun s => by rw [k0.ext.val q1]; exact v1 s
  have hdv : ∀ s, t0.val s df = (F.value (zOf D.n s : Nat) != G.value (zOf D.n s : Nat)) := fun s => by rw [k0.val s, v0, v1]
  have hdz := dif_zero hD k0.ok k0.ref hdv
  refine TOps.assign rfl rfl ?_
  refine TOps.next ?_
  refine Tri.seq ?_
  refine Tri.seq (Tri.region ?_)
  refine TOps.move rfl rfl ?_
  refine TOps.move rfl rfl ?_
  refine TOps.call (vs := [_, _, _]) Try.call26 ⟨rfl, rfl, rfl, trivial⟩ (small_g hD hv8 k0.ok (tab_rd hD k0.ok) k0.ref) rfl ?_
  rintro _ _ ⟨rfl, rfl⟩
  refine TOps.not rfl rfl ?_
  refine TOps.next ?_
  refine Tri.cond rfl (fun hc4 => ?_) (fun hc4 => ?_)
  · exact absurd hc4 (by first | decide | simp)
  try simp only [decide_eq_true_eq, decide_eq_false_iff_not, Bool.and_eq_true, Bool.or_eq_true, Bool.not_eq_true', Bool.and_eq_false_iff, Bool.or_eq_false_iff, Bool.not_eq_false', Int.not_lt, Int.not_le, ne_eq, Decidable.not_not, Option.isSome_iff_ne_none, Option.isNone_iff_eq_none] at hc4
  refine Tri.fin ?_
  refine Nrm.next ?_
  refine Tri.seq ?_
  refine Tri.seq (Tri.region ?_)
  refine TOps.move rfl rfl ?_
  refine TOps.eqlI rfl rfl rfl ?_
  refine TOps.next ?_
  refine Tri.cond rfl (fun hc5 => ?_) (fun hc5 => ?_)
  · try simp only [decide_eq_true_eq, decide_eq_false_iff_not, Bool.and_eq_true, Bool.or_eq_true, Bool.not_eq_true', Bool.and_eq_false_iff, Bool.or_eq_false_iff, Bool.not_eq_false', Int.not_lt, Int.not_le, ne_eq, Decidable.not_not, Option.isSome_iff_ne_none, Option.isNone_iff_eq_none] at hc5
    refine Tri.seq (Tri.region ?_)
    refine TOps.buildStruct (vs := [(0, _)]) (xs := [_, _, _, _, _]) [(0, 1), (1, 1), (2, 1), (3, 1), (4, 1)] Try.underlying32 ti32 (fun w => by simp) ⟨rfl, rfl, trivial⟩ rfl rfl ?_
    refine TOps.storeN rfl rfl ti32 rfl rfl (by repeat (first | exact Upd.here | apply Upd.there)) (by first | decide | (simp; done) | (simp; omega)) ?_
    refine TOps.assign rfl rfl ?_
    refine TOps.next ?_
    refine Tri.ret2 (v1 := dfV true 0 0 0 0) (H' := H) Try.results7 (fun _ _ h => h) (.cellN rfl rfl ti32 (Rd.all (by repeat (first | exact List.Mem.head _ | apply List.Mem.tail))) rfl) (.tmp rfl) (by repeat (first | exact l3 | apply Le.drop)) ⟨true, 0, 0, 0, 0, rfl, dif_eq (hdz.1 (by omega)), rfl⟩
  try simp only [decide_eq_true_eq, decide_eq_false_iff_not, Bool.and_eq_true, Bool.or_eq_true, Bool.not_eq_true', Bool.and_eq_false_iff, Bool.or_eq_false_iff, Bool.not_eq_false', Int.not_lt, Int.not_le, ne_eq, Decidable.not_not, Option.isSome_iff_ne_none, Option.isNone_iff_eq_none] at hc5
  have hdn : df ≠ 0 := by omega
  have hs0 : t0.sz ≤ 1099500000000 := by omega
  have hle : ∀ (x : (Tb × Nat) × (Tb × Nat) × (Tb × Nat)) (c : Nat), Le (match c with | 0 => tabE D t0 :: row (some b4) 32 5 1 [.bool false, .int .i64 0, .int .i64 0, .int .i64 0, .int .i64 0] :: row (some b10) 63 2 1 [natV x0, natV x1] :: row (some b36) 24 3 2 [.int .i64 F.vars, slV na no F.nodes.length cap sa, .int .i64 F.top, .int .i64 G.vars, slV nb mo G.nodes.length cbp sb, .int .i64 G.top] :: row oa 3 1 oc (nats o) :: H2 | 1 => fact ((Tb.Ext t0 x.1.1 ∧ TbOk D x.1.1 ∧ x.1.1.sz ≤ t0.sz + 4194304 ∧ LsOk D t0 df x.1.2)) :: tabE D x.1.1 :: row (some b4) 32 5 1 [.bool false, .int .i64 0, .int .i64 0, .int .i64 0, .int .i64 0] :: row (some b10) 63 2 1 [natV x0, natV x1] :: row (some b36) 24 3 2 [.int .i64 F.vars, slV na no F.nodes.length cap sa, .int .i64 F.top, .int .i64 G.vars, slV nb mo G.nodes.length cbp sb, .int .i64 G.top] :: row oa 3 1 oc (nats o) :: H2 | 2 => fact ((Tb.Ext t0 x.1.1 ∧ TbOk D x.1.1 ∧ x.1.1.sz ≤ t0.sz + 4194304 ∧ LsOk D t0 df x.1.2) ∧ OpR D x.1.1 x.2.1.1 x.2.1.2 (fun s => t0.val s df && t0.val s x1) 512) :: tabE D x.2.1.1 :: row (some b4) 32 5 1 [.bool false, .int .i64 0, .int .i64 0, .int .i64 0, .int .i64 0] :: row (some b10) 63 2 1 [natV x0, natV x1] :: row (some b36) 24 3 2 [.int .i64 F.vars, slV na no F.nodes.length cap sa, .int .i64 F.top, .int .i64 G.vars, slV nb mo G.nodes.length cbp sb, .int .i64 G.top] :: row oa 3 1 oc (nats o) :: H2 | 3 => fact ((Tb.Ext t0 x.1.1 ∧ TbOk D x.1.1 ∧ x.1.1.sz ≤ t0.sz + 4194304 ∧ LsOk D t0 df x.1.2) ∧ OpR D x.1.1 x.2.1.1 x.2.1.2 (fun s => t0.val s df && t0.val s x1) 512 ∧ OpR D x.2.1.1 x.2.2.1 x.2.2.2 (fun s => t0.val s df && t0.val s x0) 512) :: tabE D x.2.2.1 :: row (some b4) 32 5 1 [.bool false, .int .i64 0, .int .i64 0, .int .i64 0, .int .i64 0] :: row (some b10) 63 2 1 [natV x0, natV x1] :: row (some b36) 24 3 2 [.int .i64 F.vars, slV na no F.nodes.length cap sa, .int .i64 F.top, .int .i64 G.vars, slV nb mo G.nodes.length cbp sb, .int .i64 G.top] :: row oa 3 1 oc (nats o) :: H2 | _ + 4 => fact ((Tb.Ext t0 x.1.1 ∧ TbOk D x.1.1 ∧ x.1.1.sz ≤ t0.sz + 4194304 ∧ LsOk D t0 df x.1.2) ∧ OpR D x.1.1 x.2.1.1 x.2.1.2 (fun s => t0.val s df && t0.val s x1) 512 ∧ OpR D x.2.1.1 x.2.2.1 x.2.2.2 (fun s => t0.val s df && t0.val s x0) 512) :: tabE D x.2.2.1 :: row (some b4) 32 5 1 [.bool false, natV x.1.2, natV (cnS D.n (fun s => t0.val s df)), natV (cnS D.n (fun s => t0.val s df && t0.val s x1)), natV (cnS D.n (fun s => t0.val s df && t0.val s x0))] :: row (some b10) 63 2 1 [natV x0, natV x1] :: row (some b36) 24 3 2 [.int .i64 F.vars, slV na no F.nodes.length cap sa, .int .i64 F.top, .int .i64 G.vars, slV nb mo G.nodes.length cbp sb, .int .i64 G.top] :: row oa 3 1 oc (nats o) :: H2) (row (some b10) 63 2 1 [natV x0, natV x1] :: row (some b36) 24 3 2 [.int .i64 F.vars, slV na no F.nodes.length cap sa, .int .i64 F.top, .int .i64 G.vars, slV nb mo G.nodes.length cbp sb, .int .i64 G.top] :: row oa 3 1 oc (nats o) :: H2) := by intro x c; match c with | 0 => exact Le.drop (Le.drop (Le.refl _)) | 1 => exact Le.drop (Le.drop (Le.drop (Le.refl _))) | 2 => exact Le.drop (Le.drop (Le.drop (Le.refl _))) | 3 => exact Le.drop (Le.drop (Le.drop (Le.refl _))) | _ + 4 => exact Le.drop (Le.drop (Le.drop (Le.refl _)))
  have rV : Rd (row (some b10) 63 2 1 [natV x0, natV x1] :: row (some b36) 24 3 2 [.int .i64 F.vars, slV na no F.nodes.length cap sa, .int .i64 F.top, .int .i64 G.vars, slV nb mo G.nodes.length cbp sb, .int .i64 G.top] :: row oa 3 1 oc (nats o) :: H2) b2 0 [natV D.n] := by have := Rd.fld r1 0 rfl; rw [hvF] at this; exact this.up.up.up
  refine Tri.fin ?_
  refine Nrm.next ?_
  refine Tri.seq ?_
  refine Tri.drawX (X := (Tb × Nat) × (Tb × Nat) × (Tb × Nat)) rfl [(2, .pointer (some ⟨b2, 0, none⟩)), (3, .pointer (some ⟨b3, 0, none⟩)), (4, .pointer (some ⟨b4, 0, none⟩)), (7, slV oa 0 D.n oc), (9, .pointer (some ⟨D.bt, 0, none⟩)), (10, .pointer (some ⟨b10, 0, none⟩)), (15, natV df)] [] (fun x => [_, _, _, _, natV x.1.2, _, _, natV (cnS D.n (fun s => t0.val s df)), _, _, _, _, _, natV x.2.1.2, natV (cnS D.n (fun s => t0.val s df && t0.val s x1)), _, _, _, _, _, natV x.2.2.2, natV (cnS D.n (fun s => t0.val s df && t0.val s x0)), .agg (List.toArray [.bool false, natV x.1.2, natV (cnS D.n (fun s => t0.val s df)), natV (cnS D.n (fun s => t0.val s df && t0.val s x1)), natV (cnS D.n (fun s => t0.val s df && t0.val s x0))]), undef, _]) (fun x c => match c with | 0 => tabE D t0 :: row (some b4) 32 5 1 [.bool false, .int .i64 0, .int .i64 0, .int .i64 0, .int .i64 0] :: row (some b10) 63 2 1 [natV x0, natV x1] :: row (some b36) 24 3 2 [.int .i64 F.vars, slV na no F.nodes.length cap sa, .int .i64 F.top, .int .i64 G.vars, slV nb mo G.nodes.length cbp sb, .int .i64 G.top] :: row oa 3 1 oc (nats o) :: H2 | 1 => fact ((Tb.Ext t0 x.1.1 ∧ TbOk D x.1.1 ∧ x.1.1.sz ≤ t0.sz + 4194304 ∧ LsOk D t0 df x.1.2)) :: tabE D x.1.1 :: row (some b4) 32 5 1 [.bool false, .int .i64 0, .int .i64 0, .int .i64 0, .int .i64 0] :: row (some b10) 63 2 1 [natV x0, natV x1] :: row (some b36) 24 3 2 [.int .i64 F.vars, slV na no F.nodes.length cap sa, .int .i64 F.top, .int .i64 G.vars, slV nb mo G.nodes.length cbp sb, .int .i64 G.top] :: row oa 3 1 oc (nats o) :: H2 | 2 => fact ((Tb.Ext t0 x.1.1 ∧ TbOk D x.1.1 ∧ x.1.1.sz ≤ t0.sz + 4194304 ∧ LsOk D t0 df x.1.2) ∧ OpR D x.1.1 x.2.1.1 x.2.1.2 (fun s => t0.val s df && t0.val s x1) 512) :: tabE D x.2.1.1 :: row (some b4) 32 5 1 [.bool false, .int .i64 0, .int .i64 0, .int .i64 0, .int .i64 0] :: row (some b10) 63 2 1 [natV x0, natV x1] :: row (some b36) 24 3 2 [.int .i64 F.vars, slV na no F.nodes.length cap sa, .int .i64 F.top, .int .i64 G.vars, slV nb mo G.nodes.length cbp sb, .int .i64 G.top] :: row oa 3 1 oc (nats o) :: H2 | 3 => fact ((Tb.Ext t0 x.1.1 ∧ TbOk D x.1.1 ∧ x.1.1.sz ≤ t0.sz + 4194304 ∧ LsOk D t0 df x.1.2) ∧ OpR D x.1.1 x.2.1.1 x.2.1.2 (fun s => t0.val s df && t0.val s x1) 512 ∧ OpR D x.2.1.1 x.2.2.1 x.2.2.2 (fun s => t0.val s df && t0.val s x0) 512) :: tabE D x.2.2.1 :: row (some b4) 32 5 1 [.bool false, .int .i64 0, .int .i64 0, .int .i64 0, .int .i64 0] :: row (some b10) 63 2 1 [natV x0, natV x1] :: row (some b36) 24 3 2 [.int .i64 F.vars, slV na no F.nodes.length cap sa, .int .i64 F.top, .int .i64 G.vars, slV nb mo G.nodes.length cbp sb, .int .i64 G.top] :: row oa 3 1 oc (nats o) :: H2 | _ + 4 => fact ((Tb.Ext t0 x.1.1 ∧ TbOk D x.1.1 ∧ x.1.1.sz ≤ t0.sz + 4194304 ∧ LsOk D t0 df x.1.2) ∧ OpR D x.1.1 x.2.1.1 x.2.1.2 (fun s => t0.val s df && t0.val s x1) 512 ∧ OpR D x.2.1.1 x.2.2.1 x.2.2.2 (fun s => t0.val s df && t0.val s x0) 512) :: tabE D x.2.2.1 :: row (some b4) 32 5 1 [.bool false, natV x.1.2, natV (cnS D.n (fun s => t0.val s df)), natV (cnS D.n (fun s => t0.val s df && t0.val s x1)), natV (cnS D.n (fun s => t0.val s df && t0.val s x0))] :: row (some b10) 63 2 1 [natV x0, natV x1] :: row (some b36) 24 3 2 [.int .i64 F.vars, slV na no F.nodes.length cap sa, .int .i64 F.top, .int .i64 G.vars, slV nb mo G.nodes.length cbp sb, .int .i64 G.top] :: row oa 3 1 oc (nats o) :: H2) [4, 13, 20, 23] ((t0, 0), (t0, 0), (t0, 0)) [24] rfl rfl ⟨rfl, rfl, rfl, rfl, rfl, rfl, rfl, trivial⟩ trivial (by repeat (first | exact Le.refl _ | assumption | apply Le.drop)) (by
    refine ⟨?_, ?_, ?_, ?_, ?_, ?_, ?_, ?_, ?_, ?_, ?_, ?_, ?_, ?_, ?_, ?_, ?_, ?_, ?_, ?_, ?_, ?_, ?_, ?_, ?_, trivial⟩
    · refine ⟨fun x S c he hw hd hc hcu hm _ => ?_, trivial⟩
      refine TOps.move (he _ _ rfl) rfl ?_
      exact TOps.fd x rfl rfl
    · refine ⟨fun x S c he hw hd hc hcu hm _ => ?_, trivial⟩
      refine TOps.move (he _ _ rfl) rfl ?_
      exact TOps.fd x rfl rfl
    · refine ⟨fun x S c he hw hd hc hcu hm _ => ?_, trivial⟩
      refine TOps.field0 (he _ _ rfl) Try.underlying24 rfl rfl ti3 rfl rfl rfl ?_
      exact TOps.fd x rfl rfl
    · refine ⟨fun x S c he hw hd hc hcu hm _ => ?_, trivial⟩
      obtain ⟨h2, -⟩ := hd
      refine TOps.load1 (v := natV D.n) h2 ti3 (rV.le (hle x c)) rfl ?_
      exact TOps.fd x rfl rfl
    · refine ⟨fun x S c he hw hd hc hcu hm _ => ?_, trivial⟩
      obtain ⟨h0, h1, h3, -⟩ := hd
      obtain rfl : c = 0 := hm rfl
      refine TOps.call (vs := [_, _, _]) Try.call27 ⟨h0, h1, h3, trivial⟩ (least_g hD hty hv8 k0.ok k0.ref hdn (by omega)) rfl ?_
      rintro _ _ ⟨u, z, rfl, j1, j2, j3, j4, rfl⟩
      refine TOps.fin (Nrm.draw ((u, z), x.2) ?_ rfl (Le.addFact ⟨j1, j2, j3, j4⟩))
      intro j hj hcj; rcases j with _|_|_|_|_|_|_|_|_|_|_|_|_|_|_|_|_|_|_|_|_|_|_|_|_|j <;> first | rfl | exact absurd rfl hj | exact absurd hcj (by decide)
    · refine ⟨fun x S c he hw hd hc hcu hm _ => ?_, trivial⟩
      refine TOps.move (he _ _ rfl) rfl ?_
      exact TOps.fd x rfl rfl
    · refine ⟨fun x S c he hw hd hc hcu hm _ => ?_, trivial⟩
      refine TOps.move (he _ _ rfl) rfl ?_
      exact TOps.fd x rfl rfl
    · refine ⟨fun x S c he hw hd hc hcu hm _ => ?_, trivial⟩
      obtain ⟨h5, h6, h4, -⟩ := hd
      obtain rfl : c = 1 := by have h1' : 1 ≤ c := hc; have : c ≤ 1 := hcu; omega
      refine TOps.fact (List.Mem.head _) (fun f1 => ?_)
      refine TOps.le (Le.drop (Le.refl _)) ?_
      obtain ⟨f1, f2, f3, f4⟩ := f1
      have hcn : D.cn x.1.1 df = cnS D.n (fun s => t0.val s df) := by unfold TS.cn; congr 1; funext s; exact f1.val k0.ref s
      refine TOps.call (vs := [_, _]) Try.call28 ⟨h5, h6, trivial⟩ (count_g hD f2 (tab_rd hD f2) (f1.ref k0.ref)) rfl ?_
      rintro _ _ ⟨rfl, rfl⟩
      rw [hcn]
      exact TOps.fin (Nrm.draw x (fun _ _ _ => rfl) rfl (Le.addFact ⟨f1, f2, f3, f4⟩))
      skip
    · refine ⟨fun x S c he hw hd hc hcu hm _ => ?_, trivial⟩
      refine TOps.move (he _ _ rfl) rfl ?_
      exact TOps.fd x rfl rfl
    · refine ⟨fun x S c he hw hd hc hcu hm _ => ?_, trivial⟩
      refine TOps.move (he _ _ rfl) rfl ?_
      exact TOps.fd x rfl rfl
    · refine ⟨fun x S c he hw hd hc hcu hm _ => ?_, trivial⟩
      refine TOps.move (he _ _ rfl) rfl ?_
      exact TOps.fd x rfl rfl
    · refine ⟨fun x S c he hw hd hc hcu hm _ => ?_, trivial⟩
      refine TOps.indexAddrA (he _ _ rfl) rfl Try.underlying63 ti3 (by omega) (by omega) rfl rfl ?_
      exact TOps.fd x rfl rfl
    · refine ⟨fun x S c he hw hd hc hcu hm _ => ?_, trivial⟩
      obtain ⟨h11, -⟩ := hd
      refine TOps.load1 h11 ti3 (Rd.le (Rd.lit (List.Mem.head _) rfl) (hle x c)) rfl ?_
      exact TOps.fd x rfl rfl
    · refine ⟨fun x S c he hw hd hc hcu hm _ => ?_, trivial⟩
      obtain ⟨h9, h10, h12, h7, -⟩ := hd
      obtain rfl : c = 1 := hm rfl
      refine TOps.fact (List.Mem.head _) (fun f1 => ?_)
      refine TOps.le (Le.drop (Le.refl _)) ?_
      have g1 := f1
      obtain ⟨f1, f2, f3, f4⟩ := f1
      refine TOps.call (vs := [_, _, _]) Try.call29 ⟨h9, h10, h12, trivial⟩ (and_g hD hty hv8 f2 (f1.ref k0.ref) ((k0.ext.trans f1).ref q1) (szB (by omega) (by decide))) rfl ?_
      rintro _ _ ⟨u, z, rfl, j1, rfl⟩
      refine TOps.fin (Nrm.draw (x.1, (u, z), x.2.2) ?_ rfl (Le.addFact ⟨g1, j1.mono (fun s => by rw [f1.val k0.ref, f1.val (k0.ext.ref q1)]) (Nat.le_refl _)⟩))
      intro j hj hcj; rcases j with _|_|_|_|_|_|_|_|_|_|_|_|_|_|_|_|_|_|_|_|_|_|_|_|_|j <;> first | rfl | exact absurd rfl hj | exact absurd hcj (by decide)
      skip
    · refine ⟨fun x S c he hw hd hc hcu hm _ => ?_, trivial⟩
      obtain ⟨h8, h13, _, -⟩ := hd
      obtain rfl : c = 2 := by have h1' : 2 ≤ c := hc; have : c ≤ 2 := hcu; omega
      refine TOps.fact (List.Mem.head _) (fun f1 => ?_)
      refine TOps.le (Le.drop (Le.refl _)) ?_
      have g1 := f1
      obtain ⟨f1, f2⟩ := f1
      have hcn : D.cn x.2.1.1 x.2.1.2 = cnS D.n (fun s => t0.val s df && t0.val s x1) := by unfold TS.cn; congr 1; funext s; exact f2.val s
      refine TOps.call (vs := [_, _]) Try.call28 ⟨h8, h13, trivial⟩ (count_g hD f2.ok (tab_rd hD f2.ok) f2.ref) rfl ?_
      rintro _ _ ⟨rfl, rfl⟩
      rw [hcn]
      exact TOps.fin (Nrm.draw x (fun _ _ _ => rfl) rfl (Le.addFact g1))
      skip
    · refine ⟨fun x S c he hw hd hc hcu hm _ => ?_, trivial⟩
      refine TOps.move (he _ _ rfl) rfl ?_
      exact TOps.fd x rfl rfl
    · refine ⟨fun x S c he hw hd hc hcu hm _ => ?_, trivial⟩
      refine TOps.move (he _ _ rfl) rfl ?_
      exact TOps.fd x rfl rfl
    · refine ⟨fun x S c he hw hd hc hcu hm _ => ?_, trivial⟩
      refine TOps.move (he _ _ rfl) rfl ?_
      exact TOps.fd x rfl rfl
    · refine ⟨fun x S c he hw hd hc hcu hm _ => ?_, trivial⟩
      refine TOps.indexAddrA (he _ _ rfl) rfl Try.underlying63 ti3 (by omega) (by omega) rfl rfl ?_
      exact TOps.fd x rfl rfl
    · refine ⟨fun x S c he hw hd hc hcu hm _ => ?_, trivial⟩
      obtain ⟨h18, -⟩ := hd
      refine TOps.load1 h18 ti3 (Rd.le (Rd.lit (List.Mem.head _) rfl) (hle x c)) rfl ?_
      exact TOps.fd x rfl rfl
    · refine ⟨fun x S c he hw hd hc hcu hm _ => ?_, trivial⟩
      obtain ⟨h16, h17, h19, h14, -⟩ := hd
      obtain rfl : c = 2 := hm rfl
      refine TOps.fact (List.Mem.head _) (fun f1 => ?_)
      refine TOps.le (Le.drop (Le.refl _)) ?_
      have g1 := f1
      obtain ⟨⟨f1, f2, f3, f4⟩, f5⟩ := f1
      have hz5 := f5.size
      have e5 := f1.trans f5.ext
      refine TOps.call (vs := [_, _, _]) Try.call29 ⟨h16, h17, h19, trivial⟩ (and_g hD hty hv8 f5.ok (e5.ref k0.ref) ((k0.ext.trans e5).ref r0) (szB (by omega) (by decide))) rfl ?_
      rintro _ _ ⟨u, z, rfl, j1, rfl⟩
      refine TOps.fin (Nrm.draw (x.1, x.2.1, (u, z)) ?_ rfl (Le.addFact ⟨g1.1, g1.2, j1.mono (fun s => by rw [e5.val k0.ref, e5.val (k0.ext.ref r0)]) (Nat.le_refl _)⟩))
      intro j hj hcj; rcases j with _|_|_|_|_|_|_|_|_|_|_|_|_|_|_|_|_|_|_|_|_|_|_|_|_|j <;> first | rfl | exact absurd rfl hj | exact absurd hcj (by decide)
      skip
    · refine ⟨fun x S c he hw hd hc hcu hm _ => ?_, trivial⟩
      obtain ⟨h15, h20, _, -⟩ := hd
      obtain rfl : c = 3 := by have h1' : 3 ≤ c := hc; have : c ≤ 3 := hcu; omega
      refine TOps.fact (List.Mem.head _) (fun f1 => ?_)
      refine TOps.le (Le.drop (Le.refl _)) ?_
      have g1 := f1
      obtain ⟨f1, f2, f3⟩ := f1
      have hcn : D.cn x.2.2.1 x.2.2.2 = cnS D.n (fun s => t0.val s df && t0.val s x0) := by unfold TS.cn; congr 1; funext s; exact f3.val s
      refine TOps.call (vs := [_, _]) Try.call28 ⟨h15, h20, trivial⟩ (count_g hD f3.ok (tab_rd hD f3.ok) f3.ref) rfl ?_
      rintro _ _ ⟨rfl, rfl⟩
      rw [hcn]
      exact TOps.fin (Nrm.draw x (fun _ _ _ => rfl) rfl (Le.addFact g1))
      skip
    · refine ⟨fun x S c he hw hd hc hcu hm _ => ?_, trivial⟩
      obtain ⟨h4, h7, h14, h21, -⟩ := hd
      refine TOps.buildStruct (vs := [(1, _), (2, _), (3, _), (4, _)]) (xs := [_, _, _, _, _]) [(0, 1), (1, 1), (2, 1), (3, 1), (4, 1)] Try.underlying32 ti32 (fun w => by simp) ⟨rfl, h4, rfl, h7, rfl, h14, rfl, h21, trivial⟩ rfl rfl ?_
      exact TOps.fd x rfl rfl
    · refine ⟨fun x S c he hw hd hc hcu hm _ => ?_, trivial⟩
      obtain ⟨h22, h21, h0, h1, h2, h3, h4, h5, h6, h7, h8, h9, h10, h11, h12, h13, h14, h15, h16, h17, h18, h19, h20, _, _, -⟩ := hd
      obtain rfl : c = 3 := hm rfl
      refine TOps.storeN (he _ _ rfl) h22 ti32 rfl rfl (by repeat (first | exact Upd.here | apply Upd.there)) (by first | decide | (simp; done) | (simp; omega)) ?_
      exact TOps.fd x rfl rfl
    · refine ⟨fun x S c he hw hd hc hcu hm _ => ?_, trivial⟩
      obtain ⟨h23, h0, h1, h2, h3, h4, h5, h6, h7, h8, h9, h10, h11, h12, h13, h14, h15, h16, h17, h18, h19, h20, h21, h22, _, -⟩ := hd
      refine TOps.assign rfl rfl ?_
      exact TOps.fd x rfl rfl
    ) (fun w => ?_)
  refine Nrm.fact (List.Mem.head _) (fun f1 => ?_)
  refine Nrm.le (Le.drop (Le.refl _)) ?_
  obtain ⟨⟨f1, f2, f3, f4⟩, f5⟩ := f1
  refine Nrm.next ?_
  refine Tri.ret2 (v1 := dfV false w.1.2 (cnS D.n (fun s => t0.val s df)) (cnS D.n (fun s => t0.val s df && t0.val s x1)) (cnS D.n (fun s => t0.val s df && t0.val s x0))) (H' := H) Try.results7 (fun _ _ h => h) (.cellN rfl rfl ti32 (Rd.all (by repeat (first | exact List.Mem.head _ | apply List.Mem.tail))) rfl) (.tmp rfl) (by repeat (first | exact l3 | apply Le.drop)) ⟨false, _, _, _, _, rfl, dif_ok hD k0.ok hx0 hx1 hdv f4, rfl⟩
end Go.Proofs
namespace Go.Proofs
open Go.GL
set_option linter.unusedVariables false
set_option linter.unusedSimpArgs false
theorem kid_of {H : List Ent} {n : Nat} {ks : List Tr} {a : Option Nat} {o : Nat} {sp : Option Nat} (h : RKs H n ks a o sp) {k : Nat} (hk : k < ks.length) : ∃ n' b, n = n' + 1 ∧ a = some b ∧ sp = none ∧ ∃ a' o' c' s', Rd H b (o + k * 3) [.int .i64 ks[k].v, slV a' o' ks[k].ks.length c' s', .int .i64 ks[k].r] ∧ RKs H n' ks[k].ks a' o' s' := by
  cases n with
  | zero => rw [show ks = [] from h] at hk; simp at hk
  | succ n =>
    rcases h with h | ⟨b, h1, h2, h3⟩
    · rw [h] at hk; simp at hk
    · exact ⟨n, b, rfl, h1, h2, h3 k ks[k] (by simp)⟩
theorem shallow_g : ∀ (K : Nat) {n : Nat} {H : List Ent} {T : Tr} {a sp : Option Nat} {o cap : Nat} {d : Int}, n < K → RKs H n T.ks a o sp → -1 ≤ d → d ≤ 9 →
    Gives Try.prog 6 [.agg (List.toArray [.int .i64 T.v, slV a o T.ks.length cap sp, .int .i64 T.r]), .int .i64 d] H (R1 (.bool (shT n T d)) H) := by
  intro K
  induction K with
  | zero => intro n H T a sp o cap d hn; omega
  | succ K ih =>
  intro n H T a sp o cap d hn hr h0 h9
  refine Gives.enter Try.func6 rfl (by exact Try.ntmps6) rfl ?_
  refine Tri.seq (Tri.region ?_)
  refine TOps.boxN rfl ti27 rfl rfl (fun b2 => ?_)
  refine TOps.hide (fun H1 l1 s1 r1 => ?_)
  replace hr := hr.le l1
  refine TOps.assign rfl rfl ?_
  refine TOps.next ?_
  refine Tri.seq ?_
  refine Tri.seq (Tri.region ?_)
  refine TOps.move rfl rfl ?_
  refine TOps.lss rfl rfl rfl ?_
  refine TOps.move rfl rfl ?_
  refine' TOps.orB 4 rfl rfl rfl rfl (fun hg1_2 => ?_) ?_; rotate_left
  · have hg1_2' := hg1_2
    try simp only [decide_eq_true_eq, decide_eq_false_iff_not, Bool.and_eq_true, Bool.or_eq_true, Bool.not_eq_true', Bool.and_eq_false_iff, Bool.or_eq_false_iff, Bool.not_eq_false', Int.not_lt, Int.not_le, ne_eq, Decidable.not_not] at hg1_2'
    refine TOps.strip 2 false rfl rfl hg1_2 rfl ?_
    first | refine TOps.fieldB 1 rfl Try.underlying27 rfl rfl ti25 rfl rfl rfl ?_ | refine TOps.fieldN 1 rfl Try.underlying27 rfl rfl ti25 rfl rfl rfl ?_
    refine TOps.load1 rfl ti25 (by first | exact Rd.lit (by repeat (first | exact List.Mem.head _ | apply List.Mem.tail)) rfl | (repeat (first | assumption | exact Rd.fld (by assumption) 1 rfl | apply Rd.up))) rfl ?_
    refine TOps.len rfl Try.underlying25 rfl ?_
    refine TOps.gtr rfl rfl rfl ?_
    refine TOps.blk rfl (by repeat (first | exact Ext.refl _ | refine Ext.cons rfl ?_)) (by repeat (first | exact Le.refl _ | apply Le.drop))
  refine TOps.next ?_
  refine Tri.cond rfl (fun hc1 => ?_) (fun hc1 => ?_)
  · try simp only [decide_eq_true_eq, decide_eq_false_iff_not, Bool.and_eq_true, Bool.or_eq_true, Bool.not_eq_true', Bool.and_eq_false_iff, Bool.or_eq_false_iff, Bool.not_eq_false', Int.not_lt, Int.not_le, ne_eq, Decidable.not_not, Option.isSome_iff_ne_none, Option.isNone_iff_eq_none] at hc1
    refine Tri.seq (Tri.region ?_)
    refine TOps.assign rfl rfl ?_
    refine TOps.next ?_
    refine Tri.ret1 (H' := H) Try.results6 (fun _ _ h => h) (.tmp rfl) l1 ⟨by rw [shT_false (by omega)], rfl⟩
  try simp only [decide_eq_true_eq, decide_eq_false_iff_not, Bool.and_eq_true, Bool.or_eq_true, Bool.not_eq_true', Bool.and_eq_false_iff, Bool.or_eq_false_iff, Bool.not_eq_false', Int.not_lt, Int.not_le, ne_eq, Decidable.not_not, Option.isSome_iff_ne_none, Option.isNone_iff_eq_none] at hc1
  refine Tri.fin ?_
  refine Nrm.next ?_
  refine Tri.seq ?_
  refine Tri.seq (Tri.region ?_)
  first | refine TOps.fieldB 1 rfl Try.underlying27 rfl rfl ti25 rfl rfl rfl ?_ | refine TOps.fieldN 1 rfl Try.underlying27 rfl rfl ti25 rfl rfl rfl ?_
  refine TOps.load1 rfl ti25 (by first | exact Rd.lit (by repeat (first | exact List.Mem.head _ | apply List.Mem.tail)) rfl | (repeat (first | assumption | exact Rd.fld (by assumption) 1 rfl | apply Rd.up))) rfl ?_
  refine TOps.len rfl Try.underlying25 rfl ?_
  refine TOps.move rfl rfl ?_
  refine TOps.next ?_
  refine Tri.range (X := Unit) (fun x k => [(1, .int .i64 d), (2, .pointer (some ⟨b2, 0, none⟩)), (16, slV a o T.ks.length cap sp)]) (fun x k => H1) (fun x k => ∀ i, i < k → ∀ m, n = m + 1 → ∀ hi : i < T.ks.length, shT m T.ks[i] (d - 1) = true) (by omega) rfl rfl rfl (fun _ _ => ⟨rfl, rfl, rfl, rfl⟩) () (fun i hi => absurd hi (Nat.not_lt_zero i)) ⟨rfl, rfl, rfl, trivial⟩ (by repeat (first | exact Le.refl _ | assumption | apply Le.drop)) (fun k x hlt hp => ?_) (fun x ac wc hp hS hM => ?_)
  · skip
    obtain ⟨n', b, rfl, hab, hsp, a', o', c', s', hk1, hk2⟩ := kid_of hr hlt
    refine Tri.seq (Tri.region ?_)
    refine TOps.indexAddr (b := b) (off := o) (m := T.ks.length) (cap := cap) (off' := o + k * 3) (by rw [← hab, ← hsp]; rfl) rfl Try.underlying25 ti27 (by omega) (by omega) (by simp) rfl ?_
    refine TOps.loadN (vs := [.int .i64 T.ks[k].v, slV a' o' T.ks[k].ks.length c' s', .int .i64 T.ks[k].r]) rfl ti27 hk1 rfl rfl ?_
    refine TOps.alloc ti27 rfl (fun b6 => ?_)
    refine TOps.storeN rfl rfl ti27 rfl rfl (by repeat (first | exact Upd.here | apply Upd.there)) (by first | decide | (simp; done) | (simp; omega)) ?_
    refine TOps.next ?_
    refine Tri.seq (Tri.region ?_)
    refine TOps.loadN (vs := [.int .i64 T.ks[k].v, slV a' o' T.ks[k].ks.length c' s', .int .i64 T.ks[k].r]) rfl ti27 (Rd.all (List.Mem.head _)) rfl rfl ?_
    refine TOps.move rfl rfl ?_
    refine TOps.sub rfl rfl (wrapI (by omega) (by omega)) rfl ?_
    refine TOps.call (vs := [_, _]) Try.call6 ⟨rfl, rfl, trivial⟩ (ih (by omega) (hk2.le (Le.drop (Le.refl _))) (by omega) (by omega)) rfl ?_
    rintro _ _ ⟨rfl, rfl⟩
    refine TOps.not rfl rfl ?_
    refine TOps.next ?_
    refine Tri.cond rfl (fun hc2 => ?_) (fun hc2 => ?_)
    · try simp only [decide_eq_true_eq, decide_eq_false_iff_not, Bool.and_eq_true, Bool.or_eq_true, Bool.not_eq_true', Bool.and_eq_false_iff, Bool.or_eq_false_iff, Bool.not_eq_false', Int.not_lt, Int.not_le, ne_eq, Decidable.not_not, Option.isSome_iff_ne_none, Option.isNone_iff_eq_none] at hc2
      refine Tri.seq (Tri.region ?_)
      refine TOps.assign rfl rfl ?_
      refine TOps.next ?_
      refine Tri.ret1 (H' := H) Try.results6 (fun _ _ h => h) (.tmp rfl) (Le.drop l1) ⟨by rw [shT_kid (List.getElem_mem hlt) hc2], rfl⟩
    try simp only [decide_eq_true_eq, decide_eq_false_iff_not, Bool.and_eq_true, Bool.or_eq_true, Bool.not_eq_true', Bool.and_eq_false_iff, Bool.or_eq_false_iff, Bool.not_eq_false', Int.not_lt, Int.not_le, ne_eq, Decidable.not_not, Option.isSome_iff_ne_none, Option.isNone_iff_eq_none] at hc2
    refine Tri.fin ?_
    have hnext : ∀ i, i < k + 1 → ∀ m, n' + 1 = m + 1 → ∀ hi : i < T.ks.length, shT m T.ks[i] (d - 1) = true := fun i hi m hm hil => by rcases Nat.lt_or_ge i k with h | h; exact hp i h m hm hil; obtain rfl : i = k := (by omega); obtain rfl : n' = m := (by omega); exact hc2
    refine Nrm.body () hnext ⟨rfl, rfl, rfl, rfl, rfl, trivial⟩ (by repeat (first | exact Le.refl _ | assumption | apply Le.drop))
  refine Nrm.of hS hM ?_
  refine Nrm.next ?_
  refine Tri.seq (Tri.region ?_)
  refine TOps.assign rfl rfl ?_
  refine TOps.next ?_
  have hall : shT n T d = true := shT_true (by omega) (fun m hm => List.all_eq_true.2 fun q hq => by obtain ⟨i, hi, hiq⟩ := List.getElem_of_mem hq; rw [← hiq]; exact hp i hi m hm hi)
  refine Tri.ret1 (H' := H) Try.results6 (fun _ _ h => h) (.tmp rfl) l1 ⟨by rw [hall], rfl⟩
theorem theavy_g {H : List Ent} {fv : Value} {F : Fm} (hF : RF H fv F) (hk : F.ok) : Gives Try.prog 18 [fv] H (R1 (.bool F.heavyB) H) := by
  have hF0 := hF
  obtain ⟨na, no, cap, nsp, rfl, hns⟩ := hF
  have hl := hk.2.2.2
  refine Gives.enter Try.func18 rfl (by exact Try.ntmps18) rfl ?_
  refine Tri.seq (Tri.region ?_)
  refine TOps.boxN rfl ti24 rfl rfl (fun b1 => ?_)
  refine TOps.hide (fun H1 l1 s1 r1 => ?_)
  replace hns := hns.le l1
  refine TOps.assign rfl rfl ?_
  refine TOps.next ?_
  refine Tri.seq (Tri.region ?_)
  refine TOps.assign rfl rfl ?_
  refine TOps.next ?_
  refine Tri.seq ?_
  refine Tri.seq (Tri.region ?_)
  first | refine TOps.fieldB 1 rfl Try.underlying24 rfl rfl ti22 rfl rfl rfl ?_ | refine TOps.fieldN 1 rfl Try.underlying24 rfl rfl ti22 rfl rfl rfl ?_
  refine TOps.load1 rfl ti22 (by first | exact Rd.lit (by repeat (first | exact List.Mem.head _ | apply List.Mem.tail)) rfl | (repeat (first | assumption | exact Rd.fld (by assumption) 1 rfl | apply Rd.up))) rfl ?_
  refine TOps.len rfl Try.underlying22 rfl ?_
  refine TOps.move rfl rfl ?_
  refine TOps.next ?_
  refine Tri.range (X := Unit) (fun x k => [(1, .pointer (some ⟨b1, 0, none⟩)), (3, .int .i64 (argW (F.nodes.take k))), (7, slV na no F.nodes.length cap nsp)]) (fun x k => H1) (fun x k => True) hl rfl rfl rfl (fun _ _ => ⟨rfl, rfl, rfl, rfl⟩) () trivial ⟨rfl, rfl, rfl, trivial⟩ (by repeat (first | exact Le.refl _ | assumption | apply Le.drop)) (fun k x hlt hp => ?_) (fun x ac wc hp hS hM => ?_)
  · skip
    obtain ⟨nb, aa, ao, acap, asp, hna, hnsp, hnd⟩ := hns.at hlt
    refine Tri.seq (Tri.region ?_)
    refine TOps.indexAddr (b := nb) (off := no) (m := F.nodes.length) (cap := cap) (off' := no + k * 3) (by rw [← hna, ← hnsp]; rfl) rfl Try.underlying22 ti102 (by omega) (by omega) (by simp) rfl ?_
    refine TOps.loadN (vs := [.int .i64 F.nodes[k].kind, .int .i64 F.nodes[k].k, slV aa ao F.nodes[k].args.length acap asp]) rfl ti102 hnd.cells rfl rfl ?_
    refine TOps.alloc ti102 rfl (fun b5 => ?_)
    refine TOps.storeN rfl rfl ti102 rfl rfl (by repeat (first | exact Upd.here | apply Upd.there)) (by first | decide | (simp; done) | (simp; omega)) ?_
    refine TOps.next ?_
    refine Tri.region ?_
    refine TOps.move rfl rfl ?_
    first | refine TOps.fieldB 2 rfl Try.underlying102 rfl rfl ti53 rfl rfl rfl ?_ | refine TOps.fieldN 2 rfl Try.underlying102 rfl rfl ti53 rfl rfl rfl ?_
    refine TOps.load1 rfl ti53 (by first | exact Rd.lit (by repeat (first | exact List.Mem.head _ | apply List.Mem.tail)) rfl | (repeat (first | assumption | exact Rd.fld (by assumption) 2 rfl | apply Rd.up))) rfl ?_
    refine TOps.len rfl Try.underlying53 rfl ?_
    refine TOps.add (r := argW (F.nodes.take (k + 1))) rfl rfl (argW_succ hlt).symm rfl ?_
    refine TOps.assign rfl rfl ?_
    refine TOps.fin ?_
    refine Nrm.body () trivial ⟨rfl, rfl, rfl, rfl, rfl, trivial⟩ (by repeat (first | exact Le.refl _ | assumption | apply Le.drop))
  refine Nrm.of hS hM ?_
  refine Nrm.next ?_
  refine Tri.seq (Tri.region ?_)
  refine TOps.field0 rfl Try.underlying24 rfl rfl ti3 rfl rfl rfl ?_
  refine TOps.load1 rfl ti3 (by first | exact Rd.lit (by repeat (first | exact List.Mem.head _ | apply List.Mem.tail)) rfl | (repeat (first | assumption | exact Rd.fld (by assumption) 0 rfl | apply Rd.up))) rfl ?_
  refine TOps.gtr rfl rfl rfl ?_
  refine TOps.move rfl rfl ?_
  refine' TOps.orB 4 rfl rfl rfl rfl (fun hg7_3 => ?_) ?_; rotate_left
  · have hg7_3' := hg7_3
    try simp only [decide_eq_true_eq, decide_eq_false_iff_not, Bool.and_eq_true, Bool.or_eq_true, Bool.not_eq_true', Bool.and_eq_false_iff, Bool.or_eq_false_iff, Bool.not_eq_false', Int.not_lt, Int.not_le, ne_eq, Decidable.not_not] at hg7_3'
    refine TOps.strip 3 false rfl rfl hg7_3 rfl ?_
    first | refine TOps.fieldB 1 rfl Try.underlying24 rfl rfl ti22 rfl rfl rfl ?_ | refine TOps.fieldN 1 rfl Try.underlying24 rfl rfl ti22 rfl rfl rfl ?_
    refine TOps.load1 rfl ti22 (by first | exact Rd.lit (by repeat (first | exact List.Mem.head _ | apply List.Mem.tail)) rfl | (repeat (first | assumption | exact Rd.fld (by assumption) 1 rfl | apply Rd.up))) rfl ?_
    refine TOps.len rfl Try.underlying22 rfl ?_
    refine TOps.gtr rfl rfl rfl ?_
    refine TOps.blk rfl (by repeat (first | exact Ext.refl _ | refine Ext.cons rfl ?_)) (by repeat (first | exact Le.refl _ | apply Le.drop))
  refine TOps.move rfl rfl ?_
  refine' TOps.orB 2 rfl rfl rfl rfl (fun hg7_9 => ?_) ?_; rotate_left
  · have hg7_9' := hg7_9
    try simp only [decide_eq_true_eq, decide_eq_false_iff_not, Bool.and_eq_true, Bool.or_eq_true, Bool.not_eq_true', Bool.and_eq_false_iff, Bool.or_eq_false_iff, Bool.not_eq_false', Int.not_lt, Int.not_le, ne_eq, Decidable.not_not] at hg7_9'
    refine TOps.strip 9 false rfl rfl hg7_9 rfl ?_
    refine TOps.move rfl rfl ?_
    refine TOps.gtr rfl rfl rfl ?_
    refine TOps.blk rfl (by repeat (first | exact Ext.refl _ | refine Ext.cons rfl ?_)) (by repeat (first | exact Le.refl _ | apply Le.drop))
  refine TOps.assign rfl rfl ?_
  refine TOps.next ?_
  refine Tri.ret1 (H' := H) Try.results18 (fun _ _ h => h) (.tmp rfl) l1 ⟨by rw [List.take_length]; rfl, rfl⟩
theorem ready_g {H : List Ent} {fv : Value} {F : Fm} (hF : RF H fv F) (hk : F.ok) : Gives Try.prog 5 [fv] H (R1 (.bool F.readyB) H) := by
  have hF0 := hF
  obtain ⟨na, no, cap, nsp, rfl, hns⟩ := hF
  refine Gives.enter Try.func5 rfl (by exact Try.ntmps5) rfl ?_
  refine Tri.seq (Tri.region ?_)
  refine TOps.boxN rfl ti24 rfl rfl (fun b1 => ?_)
  refine TOps.hide (fun H1 l1 s1 r1 => ?_)
  replace hF0 := hF0.le l1
  refine TOps.assign rfl rfl ?_
  refine TOps.next ?_
  refine Tri.seq (Tri.region ?_)
  refine TOps.loadN rfl ti24 (by first | exact Rd.all (by repeat (first | exact List.Mem.head _ | apply List.Mem.tail)) | (repeat (first | assumption | apply Rd.up))) rfl rfl ?_
  refine TOps.call (vs := [_]) Try.call18 ⟨rfl, trivial⟩ (theavy_g hF0 hk) rfl ?_
  rintro _ _ ⟨rfl, rfl⟩
  refine TOps.not rfl rfl ?_
  refine TOps.move rfl rfl ?_
  refine' TOps.andB 3 rfl rfl rfl rfl (fun hg1_3 => ?_) ?_; rotate_left
  · have hg1_3' := hg1_3
    try simp only [decide_eq_true_eq, decide_eq_false_iff_not, Bool.and_eq_true, Bool.or_eq_true, Bool.not_eq_true', Bool.and_eq_false_iff, Bool.or_eq_false_iff, Bool.not_eq_false', Int.not_lt, Int.not_le, ne_eq, Decidable.not_not] at hg1_3'
    refine TOps.strip 3 true rfl rfl hg1_3 rfl ?_
    refine TOps.loadN rfl ti24 (by first | exact Rd.all (by repeat (first | exact List.Mem.head _ | apply List.Mem.tail)) | (repeat (first | assumption | apply Rd.up))) rfl rfl ?_
    refine TOps.call (vs := [_]) Try.call19 ⟨rfl, trivial⟩ (rcheck_g hF0 hk) rfl ?_
    rintro _ _ ⟨rfl, rfl⟩
    refine TOps.eqlI rfl rfl rfl ?_
    refine TOps.blk rfl (by repeat (first | exact Ext.refl _ | refine Ext.cons rfl ?_)) (by repeat (first | exact Le.refl _ | apply Le.drop))
  refine TOps.assign rfl rfl ?_
  refine TOps.next ?_
  refine Tri.ret1 (H' := H) Try.results5 (fun _ _ h => h) (.tmp rfl) l1 ⟨rfl, rfl⟩
theorem large_g {H : List Ent} (o : Option Int) : Gives Try.prog 11 [errV 73 o] H (R1 (.bool (decide (o = some 4))) H) := by
  refine Gives.enter Try.func11 rfl (by exact Try.ntmps11) rfl ?_
  refine Tri.seq (Tri.region ?_)
  refine TOps.assign rfl rfl ?_
  refine TOps.next ?_
  refine Tri.seq (Tri.region ?_)
  refine TOps.move rfl rfl ?_
  refine TOps.call (vs := [_, _]) Try.call35 ⟨rfl, rfl, trivial⟩ (is_g o 4) rfl ?_
  rintro _ _ ⟨rfl, rfl⟩
  refine TOps.assign rfl rfl ?_
  refine TOps.next ?_
  refine Tri.ret1 (H' := H) Try.results11 (fun _ _ h => h) (.tmp rfl) (Le.refl _) ⟨rfl, rfl⟩
theorem readyB_ok {F : Fm} (h : F.readyB = true) : F.Good ∧ F.vars ≤ 8 ∧ F.nodes.length ≤ 16 := by
  simp only [Fm.readyB, Fm.heavyB, Bool.and_eq_true, Bool.not_eq_true', Bool.or_eq_false_iff, decide_eq_true_eq, decide_eq_false_iff_not] at h
  obtain ⟨⟨⟨h1, h2⟩, _⟩, h3⟩ := h
  exact ⟨(Fm.good_iff F).1 (Fm.err_of h3), by omega, by omega⟩
end Go.Proofs
namespace Go.Proofs
open Go.GL
set_option linter.unusedVariables false
set_option linter.unusedSimpArgs false
set_option maxHeartbeats 1000000 in
theorem cknode_g {v bc : Nat} (hv : v ≤ 24) : ∀ (n : Nat) {H : List Ent} {T : Tr} {a sp : Option Nat} {o cap ab c0 : Nat}, RKs H n T.ks a o sp → ab < 2 ^ 24 → c0 ≤ 4096 →
    Gives Try.prog 82 [.pointer (some ⟨bc, 0, none⟩), .agg (List.toArray [.int .i64 T.v, slV a o T.ks.length cap sp, .int .i64 T.r]), natV ab] (row (some bc) 152 2 1 [natV c0, natV v] :: H) (fun u H' => u = errV 73 (ckT v n T ab c0).1 ∧ row (some bc) 152 2 1 [natV (ckT v n T ab c0).2, natV v] :: H = H') := by
  intro n
  induction n using Nat.strongRecOn with
  | _ n ih =>
  intro H T a sp o cap ab c0 hr hab hc0
  have h24 : (2 : Nat) ^ 24 = 16777216 := rfl
  refine Gives.enter Try.func82 rfl (by exact Try.ntmps82) rfl ?_
  refine Tri.seq (Tri.region ?_)
  refine TOps.boxN rfl ti27 rfl rfl (fun b4 => ?_)
  refine TOps.le Le.swap ?_
  have rB : Rd (row (some b4) 27 3 1 [.int .i64 T.v, slV a o T.ks.length cap sp, .int .i64 T.r] :: H) b4 0 [.int .i64 T.v, slV a o T.ks.length cap sp, .int .i64 T.r] := Rd.all (List.Mem.head _)
  refine TOps.assign rfl rfl ?_
  refine TOps.next ?_
  refine Tri.seq (Tri.region ?_)
  refine TOps.move rfl rfl ?_
  refine TOps.nilCheck rfl rfl ?_
  refine TOps.field0 rfl Try.underlying152 rfl rfl ti3 rfl rfl rfl ?_
  refine TOps.load1 rfl ti3 (by first | exact Rd.lit (by repeat (first | exact List.Mem.head _ | apply List.Mem.tail)) rfl | (repeat (first | assumption | exact Rd.fld (by assumption) 0 rfl | apply Rd.up))) rfl ?_
  refine TOps.add (r := ((c0 + 1 : Nat) : Int)) rfl rfl (by rw [wrapI (by omega) (by omega)]; omega) rfl ?_
  refine TOps.nilCheck rfl rfl ?_
  refine TOps.field0 rfl Try.underlying152 rfl rfl ti3 rfl rfl rfl ?_
  refine TOps.store1 rfl rfl ti3 rfl rfl (by repeat (first | exact Upd.here | apply Upd.there)) (by first | decide | (simp; done) | (simp; omega) | exact (show (0 : Nat) < 2 by decide)) ?_
  refine TOps.next ?_
  refine Tri.seq ?_
  refine Tri.block ?_
  refine Tri.seq (Tri.region ?_)
  refine TOps.move rfl rfl ?_
  refine TOps.nilCheck rfl rfl ?_
  refine TOps.field0 rfl Try.underlying152 rfl rfl ti3 rfl rfl rfl ?_
  refine TOps.load1 rfl ti3 (by first | exact Rd.lit (by repeat (first | exact List.Mem.head _ | apply List.Mem.tail)) rfl | (repeat (first | assumption | exact Rd.fld (by assumption) 0 rfl | apply Rd.up))) rfl ?_
  refine TOps.gtr rfl rfl rfl ?_
  refine TOps.assign rfl rfl ?_
  refine TOps.next ?_
  refine Tri.cond rfl (fun hc1 => ?_) (fun hc1 => ?_)
  · try simp only [decide_eq_true_eq, decide_eq_false_iff_not, Bool.and_eq_true, Bool.or_eq_true, Bool.not_eq_true', Bool.and_eq_false_iff, Bool.or_eq_false_iff, Bool.not_eq_false', Int.not_lt, Int.not_le, ne_eq, Decidable.not_not, Option.isSome_iff_ne_none, Option.isNone_iff_eq_none] at hc1
    have h1 : 4096 < c0 + 1 := by omega
    refine Tri.seq (Tri.region ?_)
    refine TOps.makeInterface rfl Try.underlying73 rfl rfl ?_
    refine TOps.assign rfl rfl ?_
    refine TOps.next ?_
    refine Tri.ret1 (H' := row (some bc) 152 2 1 [natV (c0 + 1), natV v] :: H) Try.results82 (fun _ _ h => h) (.tmp rfl) (Le.consOf (List.sublist_cons_self _ _)) ⟨by rw [ckT_1 h1]; rfl, by rw [ckT_1 h1]⟩
  try simp only [decide_eq_true_eq, decide_eq_false_iff_not, Bool.and_eq_true, Bool.or_eq_true, Bool.not_eq_true', Bool.and_eq_false_iff, Bool.or_eq_false_iff, Bool.not_eq_false', Int.not_lt, Int.not_le, ne_eq, Decidable.not_not, Option.isSome_iff_ne_none, Option.isNone_iff_eq_none] at hc1
  have h1 : ¬ 4096 < c0 + 1 := by omega
  refine Tri.seq (Tri.region ?_)
  first | refine TOps.fieldB 1 rfl Try.underlying27 rfl rfl ti25 rfl rfl rfl ?_ | refine TOps.fieldN 1 rfl Try.underlying27 rfl rfl ti25 rfl rfl rfl ?_
  refine TOps.load1 rfl ti25 (Rd.fld rB.up 1 rfl) rfl ?_
  refine TOps.len rfl Try.underlying25 rfl ?_
  refine TOps.neqI rfl rfl rfl ?_
  refine TOps.move rfl rfl ?_
  refine' TOps.andB 4 rfl rfl rfl rfl (fun hg4_4 => ?_) ?_; rotate_left
  · have hg4_4' := hg4_4
    try simp only [decide_eq_true_eq, decide_eq_false_iff_not, Bool.and_eq_true, Bool.or_eq_true, Bool.not_eq_true', Bool.and_eq_false_iff, Bool.or_eq_false_iff, Bool.not_eq_false', Int.not_lt, Int.not_le, ne_eq, Decidable.not_not] at hg4_4'
    refine TOps.strip 4 true rfl rfl hg4_4 rfl ?_
    first | refine TOps.fieldB 1 rfl Try.underlying27 rfl rfl ti25 rfl rfl rfl ?_ | refine TOps.fieldN 1 rfl Try.underlying27 rfl rfl ti25 rfl rfl rfl ?_
    refine TOps.load1 rfl ti25 (Rd.fld rB.up 1 rfl) rfl ?_
    refine TOps.len rfl Try.underlying25 rfl ?_
    refine TOps.neqI rfl rfl rfl ?_
    refine TOps.blk rfl (by repeat (first | exact Ext.refl _ | refine Ext.cons rfl ?_)) (by repeat (first | exact Le.refl _ | apply Le.drop))
  refine TOps.assign rfl rfl ?_
  refine TOps.next ?_
  refine Tri.cond rfl (fun hc2 => ?_) (fun hc2 => ?_)
  · try simp only [decide_eq_true_eq, decide_eq_false_iff_not, Bool.and_eq_true, Bool.or_eq_true, Bool.not_eq_true', Bool.and_eq_false_iff, Bool.or_eq_false_iff, Bool.not_eq_false', Int.not_lt, Int.not_le, ne_eq, Decidable.not_not, Option.isSome_iff_ne_none, Option.isNone_iff_eq_none] at hc2
    have h2 : T.ks.length ≠ 0 ∧ T.ks.length ≠ 2 := by omega
    refine Tri.seq (Tri.region ?_)
    refine TOps.makeInterface rfl Try.underlying73 rfl rfl ?_
    refine TOps.assign rfl rfl ?_
    refine TOps.next ?_
    refine Tri.ret1 (H' := row (some bc) 152 2 1 [natV (c0 + 1), natV v] :: H) Try.results82 (fun _ _ h => h) (.tmp rfl) (Le.consOf (List.sublist_cons_self _ _)) ⟨by rw [ckT_2 h1 h2]; rfl, by rw [ckT_2 h1 h2]⟩
  try simp only [decide_eq_true_eq, decide_eq_false_iff_not, Bool.and_eq_true, Bool.or_eq_true, Bool.not_eq_true', Bool.and_eq_false_iff, Bool.or_eq_false_iff, Bool.not_eq_false', Int.not_lt, Int.not_le, ne_eq, Decidable.not_not, Option.isSome_iff_ne_none, Option.isNone_iff_eq_none] at hc2
  refine Tri.seq (Tri.region ?_)
  first | refine TOps.fieldB 1 rfl Try.underlying27 rfl rfl ti25 rfl rfl rfl ?_ | refine TOps.fieldN 1 rfl Try.underlying27 rfl rfl ti25 rfl rfl rfl ?_
  refine TOps.load1 rfl ti25 (Rd.fld rB.up 1 rfl) rfl ?_
  refine TOps.len rfl Try.underlying25 rfl ?_
  refine TOps.eqlI rfl rfl rfl ?_
  refine TOps.assign rfl rfl ?_
  refine TOps.next ?_
  refine Tri.cond rfl (fun hc3 => ?_) (fun hc3 => ?_)
  · try simp only [decide_eq_true_eq, decide_eq_false_iff_not, Bool.and_eq_true, Bool.or_eq_true, Bool.not_eq_true', Bool.and_eq_false_iff, Bool.or_eq_false_iff, Bool.not_eq_false', Int.not_lt, Int.not_le, ne_eq, Decidable.not_not, Option.isSome_iff_ne_none, Option.isNone_iff_eq_none] at hc3
    have h2 : T.ks.length = 0 := by omega
    refine Tri.seq ?_
    refine Tri.seq (Tri.region ?_)
    refine TOps.field0 rfl Try.underlying27 rfl rfl ti3 rfl rfl rfl ?_
    refine TOps.load1 rfl ti3 (Rd.fld rB.up 0 rfl) rfl ?_
    refine TOps.neqI rfl rfl rfl ?_
    refine TOps.next ?_
    refine Tri.cond rfl (fun hc4 => ?_) (fun hc4 => ?_)
    · try simp only [decide_eq_true_eq, decide_eq_false_iff_not, Bool.and_eq_true, Bool.or_eq_true, Bool.not_eq_true', Bool.and_eq_false_iff, Bool.or_eq_false_iff, Bool.not_eq_false', Int.not_lt, Int.not_le, ne_eq, Decidable.not_not, Option.isSome_iff_ne_none, Option.isNone_iff_eq_none] at hc4
      refine Tri.seq (Tri.region ?_)
      refine TOps.makeInterface rfl Try.underlying73 rfl rfl ?_
      refine TOps.assign rfl rfl ?_
      refine TOps.next ?_
      refine Tri.ret1 (H' := row (some bc) 152 2 1 [natV (c0 + 1), natV v] :: H) Try.results82 (fun _ _ h => h) (.tmp rfl) (Le.consOf (List.sublist_cons_self _ _)) ⟨by rw [ckT_3 h1 h2 hc4]; rfl, by rw [ckT_3 h1 h2 hc4]⟩
    try simp only [decide_eq_true_eq, decide_eq_false_iff_not, Bool.and_eq_true, Bool.or_eq_true, Bool.not_eq_true', Bool.and_eq_false_iff, Bool.or_eq_false_iff, Bool.not_eq_false', Int.not_lt, Int.not_le, ne_eq, Decidable.not_not, Option.isSome_iff_ne_none, Option.isNone_iff_eq_none] at hc4
    refine Tri.fin ?_
    refine Nrm.next ?_
    refine Tri.seq (Tri.region ?_)
    refine TOps.assign rfl rfl ?_
    refine TOps.next ?_
    refine Tri.ret1 (H' := row (some bc) 152 2 1 [natV (c0 + 1), natV v] :: H) Try.results82 (fun _ _ h => h) (.tmp rfl) (Le.consOf (List.sublist_cons_self _ _)) ⟨by rw [ckT_4 h1 h2 (by omega)]; rfl, by rw [ckT_4 h1 h2 (by omega)]⟩
  try simp only [decide_eq_true_eq, decide_eq_false_iff_not, Bool.and_eq_true, Bool.or_eq_true, Bool.not_eq_true', Bool.and_eq_false_iff, Bool.or_eq_false_iff, Bool.not_eq_false', Int.not_lt, Int.not_le, ne_eq, Decidable.not_not, Option.isSome_iff_ne_none, Option.isNone_iff_eq_none] at hc3
  have hl2 : T.ks.length = 2 := by omega
  have hn0 : n ≠ 0 := fun e => by subst e; rw [show T.ks = [] from hr] at hl2; simp at hl2
  refine Tri.seq ?_
  rcases Bool.eq_false_or_eq_true (decide (T.v < 0)) with q2 | q2
  · skip
    have hP : decide (T.v < 0 ∨ (v : Int) ≤ T.v) = true := decide_eq_true (.inl (of_decide_eq_true q2))
    refine Tri.drawC rfl [(0, .pointer (some ⟨bc, 0, none⟩)), (2, natV ab), (4, .pointer (some ⟨b4, 0, none⟩))] [] [_, _, _, _, _, _, _, _, _, _, _, _, _] (row (some bc) 152 2 1 [natV (c0 + 1), natV v] :: row (some b4) 27 3 1 [.int .i64 T.v, slV a o T.ks.length cap sp, .int .i64 T.r] :: H) [12] rfl ⟨rfl, rfl, rfl, trivial⟩ trivial (by repeat (first | exact Le.refl _ | assumption | apply Le.drop)) (by
      refine ⟨?_, ?_, ?_, ?_, ?_, ?_, ?_, ?_, ?_, ?_, ?_, ?_, ?_, trivial⟩
      · refine ⟨fun x S c he hw hd hc hcu hm _ => ?_, trivial⟩
        refine TOps.field0 (he _ _ rfl) Try.underlying27 rfl rfl ti3 rfl rfl rfl ?_
        exact TOps.fd x rfl rfl
      · refine ⟨fun x S c he hw hd hc hcu hm _ => ?_, trivial⟩
        obtain ⟨h0, -⟩ := hd
        refine TOps.load1 h0 ti3 (Rd.fld rB.up 0 rfl) rfl ?_
        exact TOps.fd x rfl rfl
      · refine ⟨fun x S c he hw hd hc hcu hm _ => ?_, trivial⟩
        obtain ⟨h1, -⟩ := hd
        refine TOps.lssr h1 rfl q2 rfl ?_
        exact TOps.fd x rfl rfl
      · refine ⟨fun x S c he hw hd hc hcu hm _ => ?_, trivial⟩
        obtain ⟨h2, -⟩ := hd
        refine TOps.move h2 rfl ?_
        exact TOps.fd x rfl rfl
      · refine ⟨fun x S c he hw hd hc hcu hm hgd => ?_, ⟨_, rfl⟩, .inl ⟨rfl, fun x => .inr ⟨.inl rfl, rfl⟩⟩⟩
        exact absurd hgd (by first | (intro h; cases h; done) | simp_all)
      · refine ⟨fun x S c he hw hd hc hcu hm hgd => ?_, ⟨_, rfl⟩, .inl ⟨rfl, fun x => .inr ⟨.inl rfl, rfl⟩⟩⟩
        exact absurd hgd (by first | (intro h; cases h; done) | simp_all)
      · refine ⟨fun x S c he hw hd hc hcu hm hgd => ?_, ⟨_, rfl⟩, .inl ⟨rfl, fun x => .inr ⟨.inl rfl, rfl⟩⟩⟩
        exact absurd hgd (by first | (intro h; cases h; done) | simp_all)
      · refine ⟨fun x S c he hw hd hc hcu hm hgd => ?_, ⟨_, rfl⟩, .inl ⟨rfl, fun x => .inr ⟨.inl rfl, rfl⟩⟩⟩
        exact absurd hgd (by first | (intro h; cases h; done) | simp_all)
      · refine ⟨fun x S c he hw hd hc hcu hm hgd => ?_, ⟨_, rfl⟩, .inl ⟨rfl, fun x => .inr ⟨.inl rfl, rfl⟩⟩⟩
        exact absurd hgd (by first | (intro h; cases h; done) | simp_all)
      · refine ⟨fun x S c he hw hd hc hcu hm hgd => ?_, ⟨_, rfl⟩, .inl ⟨rfl, fun x => .inr ⟨.inl rfl, rfl⟩⟩⟩
        exact absurd hgd (by first | (intro h; cases h; done) | simp_all)
      · refine ⟨fun x S c he hw hd hc hcu hm hgd => ?_, ⟨_, rfl⟩, .inl ⟨rfl, fun x => .inr ⟨.inl rfl, rfl⟩⟩⟩
        exact absurd hgd (by first | (intro h; cases h; done) | simp_all)
      · refine ⟨fun x S c he hw hd hc hcu hm _ => ?_, trivial⟩
        obtain ⟨h3, h10, -⟩ := hd
        refine TOps.pickr (r := .bool (decide (T.v < 0 ∨ (v : Int) ≤ T.v))) h3 rfl h10 (by rw [hP]; rfl) rfl ?_
        exact TOps.fd x rfl rfl
      · refine ⟨fun x S c he hw hd hc hcu hm _ => ?_, trivial⟩
        obtain ⟨h11, h3, -⟩ := hd
        refine TOps.assign h11 rfl ?_
        exact TOps.fd x rfl rfl
      ) ?_
    refine Nrm.next ?_
    refine Tri.cond rfl (fun hc5 => ?_) (fun hc5 => ?_)
    · try simp only [decide_eq_true_eq, decide_eq_false_iff_not, Bool.and_eq_true, Bool.or_eq_true, Bool.not_eq_true', Bool.and_eq_false_iff, Bool.or_eq_false_iff, Bool.not_eq_false', Int.not_lt, Int.not_le, ne_eq, Decidable.not_not, Option.isSome_iff_ne_none, Option.isNone_iff_eq_none] at hc5
      refine Tri.seq (Tri.region ?_)
      refine TOps.makeInterface rfl Try.underlying73 rfl rfl ?_
      refine TOps.assign rfl rfl ?_
      refine TOps.next ?_
      refine Tri.ret1 (H' := row (some bc) 152 2 1 [natV (c0 + 1), natV v] :: H) Try.results82 (fun _ _ h => h) (.tmp rfl) (Le.consOf (List.sublist_cons_self _ _)) ⟨by rw [ckT_5 h1 hl2 hc5]; rfl, by rw [ckT_5 h1 hl2 hc5]⟩
    try simp only [decide_eq_true_eq, decide_eq_false_iff_not, Bool.and_eq_true, Bool.or_eq_true, Bool.not_eq_true', Bool.and_eq_false_iff, Bool.or_eq_false_iff, Bool.not_eq_false', Int.not_lt, Int.not_le, ne_eq, Decidable.not_not, Option.isSome_iff_ne_none, Option.isNone_iff_eq_none] at hc5
    obtain ⟨xv, hxv⟩ : ∃ xv : Nat, T.v = xv := ⟨T.v.toNat, by omega⟩
    have hxn : T.v.toNat = xv := by omega
    have hbit : (iand (ishr (ab : Int) T.v.toNat) 1 = 1) ↔ ab.testBit T.v.toNat = true := by have hb := bitB_nat (a := ab) (i := T.v.toNat) (by omega) (by omega); unfold bitB at hb; rw [← hb]; exact (decide_eq_true_iff).symm
    refine Tri.seq (Tri.region ?_)
    refine TOps.move rfl rfl ?_
    refine TOps.field0 rfl Try.underlying27 rfl rfl ti3 rfl rfl rfl ?_
    refine TOps.load1 rfl ti3 (Rd.fld rB.up 0 rfl) rfl ?_
    refine TOps.shr (r := ishr (ab : Int) T.v.toNat) rfl rfl (by omega) rfl rfl ?_
    refine TOps.and rfl rfl rfl rfl ?_
    refine TOps.eqlI rfl rfl rfl ?_
    refine TOps.assign rfl rfl ?_
    refine TOps.next ?_
    refine Tri.cond rfl (fun hc6 => ?_) (fun hc6 => ?_)
    · try simp only [decide_eq_true_eq, decide_eq_false_iff_not, Bool.and_eq_true, Bool.or_eq_true, Bool.not_eq_true', Bool.and_eq_false_iff, Bool.or_eq_false_iff, Bool.not_eq_false', Int.not_lt, Int.not_le, ne_eq, Decidable.not_not, Option.isSome_iff_ne_none, Option.isNone_iff_eq_none] at hc6
      refine Tri.seq (Tri.region ?_)
      refine TOps.makeInterface rfl Try.underlying73 rfl rfl ?_
      refine TOps.assign rfl rfl ?_
      refine TOps.next ?_
      refine Tri.ret1 (H' := row (some bc) 152 2 1 [natV (c0 + 1), natV v] :: H) Try.results82 (fun _ _ h => h) (.tmp rfl) (Le.consOf (List.sublist_cons_self _ _)) ⟨by rw [ckT_6 h1 hl2 hc5 (hbit.1 hc6)]; rfl, by rw [ckT_6 h1 hl2 hc5 (hbit.1 hc6)]⟩
    try simp only [decide_eq_true_eq, decide_eq_false_iff_not, Bool.and_eq_true, Bool.or_eq_true, Bool.not_eq_true', Bool.and_eq_false_iff, Bool.or_eq_false_iff, Bool.not_eq_false', Int.not_lt, Int.not_le, ne_eq, Decidable.not_not, Option.isSome_iff_ne_none, Option.isNone_iff_eq_none] at hc6
    have h6 : ¬ ab.testBit T.v.toNat = true := fun e => hc6 (hbit.2 e)
    refine Tri.seq (Tri.region ?_)
    first | refine TOps.fieldB 2 rfl Try.underlying27 rfl rfl ti3 rfl rfl rfl ?_ | refine TOps.fieldN 2 rfl Try.underlying27 rfl rfl ti3 rfl rfl rfl ?_
    refine TOps.load1 rfl ti3 (Rd.fld rB.up 2 rfl) rfl ?_
    refine TOps.neqI rfl rfl rfl ?_
    refine TOps.assign rfl rfl ?_
    refine TOps.next ?_
    refine Tri.cond rfl (fun hc7 => ?_) (fun hc7 => ?_)
    · try simp only [decide_eq_true_eq, decide_eq_false_iff_not, Bool.and_eq_true, Bool.or_eq_true, Bool.not_eq_true', Bool.and_eq_false_iff, Bool.or_eq_false_iff, Bool.not_eq_false', Int.not_lt, Int.not_le, ne_eq, Decidable.not_not, Option.isSome_iff_ne_none, Option.isNone_iff_eq_none] at hc7
      refine Tri.seq (Tri.region ?_)
      refine TOps.makeInterface rfl Try.underlying73 rfl rfl ?_
      refine TOps.assign rfl rfl ?_
      refine TOps.next ?_
      refine Tri.ret1 (H' := row (some bc) 152 2 1 [natV (c0 + 1), natV v] :: H) Try.results82 (fun _ _ h => h) (.tmp rfl) (Le.consOf (List.sublist_cons_self _ _)) ⟨by rw [ckT_7 h1 hl2 hc5 h6 hc7]; rfl, by rw [ckT_7 h1 hl2 hc5 h6 hc7]⟩
    try simp only [decide_eq_true_eq, decide_eq_false_iff_not, Bool.and_eq_true, Bool.or_eq_true, Bool.not_eq_true', Bool.and_eq_false_iff, Bool.or_eq_false_iff, Bool.not_eq_false', Int.not_lt, Int.not_le, ne_eq, Decidable.not_not, Option.isSome_iff_ne_none, Option.isNone_iff_eq_none] at hc7
    obtain ⟨m, rfl⟩ : ∃ m, n = m + 1 := ⟨n - 1, by omega⟩
    have E8 := ckT_8 (n := m) h1 hl2 hc5 h6 (by omega)
    obtain ⟨ab', hab'⟩ : ∃ ab', ab ||| 2 ^ T.v.toNat = ab' := ⟨_, rfl⟩
    have habl : ab' < 2 ^ 24 := by rw [← hab']; exact or_lt hab (by omega)
    rw [hab'] at E8
    have hor : ior (ab : Int) ((2 ^ T.v.toNat : Nat) : Int) = (ab' : Int) := by rw [ior_nat (by omega) (pow_lt63 (v := 24) (by omega) (Nat.pow_lt_pow_right (by decide) (by omega))), hab']
    refine Tri.fin ?_
    refine Nrm.unB ?_
    refine Nrm.next ?_
    refine Tri.seq ?_
    refine Tri.seq (Tri.region ?_)
    first | refine TOps.fieldB 1 rfl Try.underlying27 rfl rfl ti25 rfl rfl rfl ?_ | refine TOps.fieldN 1 rfl Try.underlying27 rfl rfl ti25 rfl rfl rfl ?_
    refine TOps.load1 rfl ti25 (Rd.fld rB.up 1 rfl) rfl ?_
    refine TOps.len rfl Try.underlying25 rfl ?_
    refine TOps.move rfl rfl ?_
    refine TOps.next ?_
    refine Tri.range (X := Nat) (fun cc k => [(0, .pointer (some ⟨bc, 0, none⟩)), (2, natV ab), (4, .pointer (some ⟨b4, 0, none⟩)), (73, slV a o T.ks.length cap sp)]) (fun cc k => row (some bc) 152 2 1 [natV cc, natV v] :: row (some b4) 27 3 1 [.int .i64 T.v, slV a o T.ks.length cap sp, .int .i64 T.r] :: H) (fun cc k => cc ≤ 4096 ∧ ckL (ckT v m) T.ks ab' (c0 + 1) = ckL (ckT v m) (T.ks.drop k) ab' cc) (by omega) rfl rfl rfl (fun _ _ => ⟨rfl, rfl, rfl, rfl⟩) (c0 + 1) ⟨by omega, rfl⟩ ⟨rfl, rfl, rfl, rfl, trivial⟩ (by repeat (first | exact Le.refl _ | assumption | apply Le.drop)) (fun k cc hlt hp => ?_) (fun cc ac wc hp hS hM => ?_)
    · skip
      obtain ⟨p1, p2⟩ := hp
      obtain ⟨n', b, hn', hab2, hsp, a', o', c', s', hk1, hk2⟩ := kid_of hr hlt
      obtain rfl : m = n' := by omega
      have hdr : T.ks.drop k = T.ks[k] :: T.ks.drop (k + 1) := List.drop_eq_getElem_cons hlt
      refine Tri.seq (Tri.region ?_)
      refine TOps.indexAddr (b := b) (off := o) (m := T.ks.length) (cap := cap) (off' := o + k * 3) (by rw [← hab2, ← hsp]; rfl) rfl Try.underlying25 ti27 (by omega) (by omega) (by simp) rfl ?_
      refine TOps.loadN (vs := [.int .i64 T.ks[k].v, slV a' o' T.ks[k].ks.length c' s', .int .i64 T.ks[k].r]) rfl ti27 hk1.up.up rfl rfl ?_
      refine TOps.alloc ti27 rfl (fun b8 => ?_)
      refine TOps.storeN rfl rfl ti27 rfl rfl (by repeat (first | exact Upd.here | apply Upd.there)) (by first | decide | (simp; done) | (simp; omega)) ?_
      refine TOps.le Le.swap ?_
      refine TOps.next ?_
      refine Tri.seq ?_
      refine Tri.drawX (X := Unit) rfl [(0, .pointer (some ⟨bc, 0, none⟩)), (2, natV ab), (4, .pointer (some ⟨b4, 0, none⟩)), (8, .pointer (some ⟨b8, 0, none⟩)), (73, slV a o T.ks.length cap sp), (74, .int .i64 T.ks.length), (75, natV k)] [] (fun x => [_, _, _, _, _, _, _, errV 73 (ckT v m T.ks[k] ab' cc).1, errV 73 (ckT v m T.ks[k] ab' cc).1]) (fun x c => match c with | 0 => row (some bc) 152 2 1 [natV cc, natV v] :: row (some b8) 27 3 1 [.int .i64 T.ks[k].v, slV a' o' T.ks[k].ks.length c' s', .int .i64 T.ks[k].r] :: row (some b4) 27 3 1 [.int .i64 T.v, slV a o T.ks.length cap sp, .int .i64 T.r] :: H | _ + 1 => row (some bc) 152 2 1 [natV (ckT v m T.ks[k] ab' cc).2, natV v] :: row (some b8) 27 3 1 [.int .i64 T.ks[k].v, slV a' o' T.ks[k].ks.length c' s', .int .i64 T.ks[k].r] :: row (some b4) 27 3 1 [.int .i64 T.v, slV a o T.ks.length cap sp, .int .i64 T.r] :: H) [7] () [8] rfl rfl ⟨rfl, rfl, rfl, rfl, rfl, rfl, rfl, trivial⟩ trivial (by repeat (first | exact Le.refl _ | assumption | apply Le.drop)) (by
        refine ⟨?_, ?_, ?_, ?_, ?_, ?_, ?_, ?_, ?_, trivial⟩
        · refine ⟨fun x S c he hw hd hc hcu hm _ => ?_, trivial⟩
          refine TOps.move (he _ _ rfl) rfl ?_
          exact TOps.fd x rfl rfl
        · refine ⟨fun x S c he hw hd hc hcu hm _ => ?_, trivial⟩
          obtain rfl : c = 0 := by have : c ≤ 0 := hcu; omega
          refine TOps.loadN (vs := [.int .i64 T.ks[k].v, slV a' o' T.ks[k].ks.length c' s', .int .i64 T.ks[k].r]) (he _ _ rfl) ti27 (Rd.all (by repeat (first | exact List.Mem.head _ | apply List.Mem.tail))) rfl rfl ?_
          exact TOps.fd x rfl rfl
        · refine ⟨fun x S c he hw hd hc hcu hm _ => ?_, trivial⟩
          refine TOps.move (he _ _ rfl) rfl ?_
          exact TOps.fd x rfl rfl
        · refine ⟨fun x S c he hw hd hc hcu hm _ => ?_, trivial⟩
          refine TOps.field0 (he _ _ rfl) Try.underlying27 rfl rfl ti3 rfl rfl rfl ?_
          exact TOps.fd x rfl rfl
        · refine ⟨fun x S c he hw hd hc hcu hm _ => ?_, trivial⟩
          obtain ⟨h3, -⟩ := hd
          obtain rfl : c = 0 := by have : c ≤ 0 := hcu; omega
          refine TOps.load1 h3 ti3 (Rd.fld rB.up.up 0 rfl) rfl ?_
          exact TOps.fd x rfl rfl
        · refine ⟨fun x S c he hw hd hc hcu hm _ => ?_, trivial⟩
          obtain ⟨h4, -⟩ := hd
          refine TOps.shl (r := ((2 ^ T.v.toNat : Nat) : Int)) rfl h4 (by omega) (ishl_one (by omega)) rfl ?_
          exact TOps.fd x rfl rfl
        · refine ⟨fun x S c he hw hd hc hcu hm _ => ?_, trivial⟩
          obtain ⟨h2, h5, -⟩ := hd
          refine TOps.or (r := (ab' : Int)) h2 h5 hor rfl ?_
          exact TOps.fd x rfl rfl
        · refine ⟨fun x S c he hw hd hc hcu hm _ => ?_, trivial⟩
          obtain ⟨h0, h1, h6, -⟩ := hd
          obtain rfl : c = 0 := hm rfl
          refine TOps.call (vs := [_, _, _]) Try.call82 ⟨h0, h1, h6, trivial⟩ (ih m (by omega) (hk2.le (Le.drop (Le.drop (Le.refl _)))) habl p1) rfl ?_
          rintro _ _ ⟨rfl, rfl⟩
          exact TOps.fd x rfl rfl
        · refine ⟨fun x S c he hw hd hc hcu hm _ => ?_, trivial⟩
          obtain ⟨h7, _, h0, h1, h2, h3, h4, h5, h6, _, -⟩ := hd
          refine TOps.assign h7 rfl ?_
          exact TOps.fd x rfl rfl
        ) (fun u0 => ?_)
      refine Nrm.next ?_
      refine Tri.seq (Tri.region ?_)
      refine TOps.move rfl rfl ?_
      refine TOps.neqNil rfl Try.underlying34 rfl ?_
      refine TOps.next ?_
      refine Tri.cond rfl (fun hc8 => ?_) (fun hc8 => ?_)
      · try simp only [decide_eq_true_eq, decide_eq_false_iff_not, Bool.and_eq_true, Bool.or_eq_true, Bool.not_eq_true', Bool.and_eq_false_iff, Bool.or_eq_false_iff, Bool.not_eq_false', Int.not_lt, Int.not_le, ne_eq, Decidable.not_not, Option.isSome_iff_ne_none, Option.isNone_iff_eq_none] at hc8
        obtain ⟨e, hce⟩ := Option.ne_none_iff_exists'.1 hc8
        have hE : ckT v (m + 1) T ab c0 = (some e, (ckT v m T.ks[k] ab' cc).2) := by rw [E8, p2, hdr, ckL_some hce]
        refine Tri.seq (Tri.region ?_)
        refine TOps.move rfl rfl ?_
        refine TOps.assign rfl rfl ?_
        refine TOps.next ?_
        refine Tri.ret1 (H' := row (some bc) 152 2 1 [natV (ckT v (m + 1) T ab c0).2, natV v] :: H) Try.results82 (fun _ _ h => h) (.tmp rfl) (by rw [hE]; exact (Le.sub (List.Sublist.cons_cons _ (List.Sublist.cons _ (List.sublist_cons_self _ _))))) ⟨by rw [hE]; show errV 73 (ckT v m T.ks[k] ab' cc).1 = errV 73 (some e); rw [hce], rfl⟩
      try simp only [decide_eq_true_eq, decide_eq_false_iff_not, Bool.and_eq_true, Bool.or_eq_true, Bool.not_eq_true', Bool.and_eq_false_iff, Bool.or_eq_false_iff, Bool.not_eq_false', Int.not_lt, Int.not_le, ne_eq, Decidable.not_not, Option.isSome_iff_ne_none, Option.isNone_iff_eq_none] at hc8
      have hce : (ckT v m T.ks[k] ab' cc).1 = none := by simpa using hc8
      refine Tri.fin ?_
      refine Nrm.body ((ckT v m T.ks[k] ab' cc).2) ⟨ckT_le _ _ _ _ hce, by rw [p2, hdr, ckL_none hce]⟩ ⟨rfl, rfl, rfl, rfl, rfl, rfl, trivial⟩ (Le.sub (List.Sublist.cons_cons _ (List.sublist_cons_self _ _)))
    obtain ⟨p1, p2⟩ := hp
    rw [List.drop_length] at p2
    have hE : ckT v (m + 1) T ab c0 = (none, cc) := by rw [E8, p2]; rfl
    refine Nrm.of hS hM ?_
    refine Nrm.next ?_
    refine Tri.seq (Tri.region ?_)
    refine TOps.assign rfl rfl ?_
    refine TOps.next ?_
    refine Tri.ret1 (H' := row (some bc) 152 2 1 [natV (ckT v (m + 1) T ab c0).2, natV v] :: H) Try.results82 (fun _ _ h => h) (.tmp rfl) (by rw [hE]; exact (Le.consOf (List.sublist_cons_self _ _))) ⟨by rw [hE]; rfl, rfl⟩
  · skip
    have hP : decide (T.v < 0 ∨ (v : Int) ≤ T.v) = decide ((v : Int) ≤ T.v) := decide_eq_decide.2 ⟨fun h => h.resolve_left (of_decide_eq_false q2), .inr⟩
    refine Tri.drawC rfl [(0, .pointer (some ⟨bc, 0, none⟩)), (2, natV ab), (4, .pointer (some ⟨b4, 0, none⟩))] [] [_, _, _, _, _, _, _, _, _, _, _, _, _] (row (some bc) 152 2 1 [natV (c0 + 1), natV v] :: row (some b4) 27 3 1 [.int .i64 T.v, slV a o T.ks.length cap sp, .int .i64 T.r] :: H) [12] rfl ⟨rfl, rfl, rfl, trivial⟩ trivial (by repeat (first | exact Le.refl _ | assumption | apply Le.drop)) (by
      refine ⟨?_, ?_, ?_, ?_, ?_, ?_, ?_, ?_, ?_, ?_, ?_, ?_, ?_, trivial⟩
      · refine ⟨fun x S c he hw hd hc hcu hm _ => ?_, trivial⟩
        refine TOps.field0 (he _ _ rfl) Try.underlying27 rfl rfl ti3 rfl rfl rfl ?_
        exact TOps.fd x rfl rfl
      · refine ⟨fun x S c he hw hd hc hcu hm _ => ?_, trivial⟩
        obtain ⟨h0, -⟩ := hd
        refine TOps.load1 h0 ti3 (Rd.fld rB.up 0 rfl) rfl ?_
        exact TOps.fd x rfl rfl
      · refine ⟨fun x S c he hw hd hc hcu hm _ => ?_, trivial⟩
        obtain ⟨h1, -⟩ := hd
        refine TOps.lssr h1 rfl q2 rfl ?_
        exact TOps.fd x rfl rfl
      · refine ⟨fun x S c he hw hd hc hcu hm _ => ?_, trivial⟩
        obtain ⟨h2, -⟩ := hd
        refine TOps.move h2 rfl ?_
        exact TOps.fd x rfl rfl
      · refine ⟨fun x S c he hw hd hc hcu hm hgd => ?_, ⟨_, rfl⟩, .inl ⟨rfl, fun x => .inl rfl⟩⟩
        obtain ⟨h3, -⟩ := hd
        refine TOps.field0 (he _ _ rfl) Try.underlying27 rfl rfl ti3 rfl rfl rfl ?_
        exact TOps.fd x rfl rfl
      · refine ⟨fun x S c he hw hd hc hcu hm hgd => ?_, ⟨_, rfl⟩, .inl ⟨rfl, fun x => .inl rfl⟩⟩
        obtain ⟨h4, h3, -⟩ := hd
        refine TOps.load1 h4 ti3 (Rd.fld rB.up 0 rfl) rfl ?_
        exact TOps.fd x rfl rfl
      · refine ⟨fun x S c he hw hd hc hcu hm hgd => ?_, ⟨_, rfl⟩, .inl ⟨rfl, fun x => .inl rfl⟩⟩
        obtain ⟨h3, -⟩ := hd
        refine TOps.move (he _ _ rfl) rfl ?_
        exact TOps.fd x rfl rfl
      · refine ⟨fun x S c he hw hd hc hcu hm hgd => ?_, ⟨_, rfl⟩, .inl ⟨rfl, fun x => .inl rfl⟩⟩
        obtain ⟨h6, h3, -⟩ := hd
        refine TOps.nilCheck h6 rfl ?_
        exact TOps.fd x rfl rfl
      · refine ⟨fun x S c he hw hd hc hcu hm hgd => ?_, ⟨_, rfl⟩, .inl ⟨rfl, fun x => .inl rfl⟩⟩
        obtain ⟨h7, h3, -⟩ := hd
        first | refine TOps.fieldB 1 h7 Try.underlying152 rfl rfl ti3 rfl rfl rfl ?_ | refine TOps.fieldN 1 h7 Try.underlying152 rfl rfl ti3 rfl rfl rfl ?_
        exact TOps.fd x rfl rfl
      · refine ⟨fun x S c he hw hd hc hcu hm hgd => ?_, ⟨_, rfl⟩, .inl ⟨rfl, fun x => .inl rfl⟩⟩
        obtain ⟨h8, h3, -⟩ := hd
        refine TOps.load1 h8 ti3 (by first | exact Rd.lit (by repeat (first | exact List.Mem.head _ | apply List.Mem.tail)) rfl | (repeat (first | assumption | exact Rd.fld (by assumption) 1 rfl | apply Rd.up))) rfl ?_
        exact TOps.fd x rfl rfl
      · refine ⟨fun x S c he hw hd hc hcu hm hgd => ?_, ⟨_, rfl⟩, .inl ⟨rfl, fun x => .inl rfl⟩⟩
        obtain ⟨h5, h9, h3, -⟩ := hd
        refine TOps.geq h5 h9 rfl ?_
        exact TOps.fd x rfl rfl
      · refine ⟨fun x S c he hw hd hc hcu hm _ => ?_, trivial⟩
        obtain ⟨h3, h10, -⟩ := hd
        refine TOps.pickr (r := .bool (decide (T.v < 0 ∨ (v : Int) ≤ T.v))) h3 rfl h10 (by rw [hP]; rfl) rfl ?_
        exact TOps.fd x rfl rfl
      · refine ⟨fun x S c he hw hd hc hcu hm _ => ?_, trivial⟩
        obtain ⟨h11, h3, -⟩ := hd
        refine TOps.assign h11 rfl ?_
        exact TOps.fd x rfl rfl
      ) ?_
    refine Nrm.next ?_
    refine Tri.cond rfl (fun hc5 => ?_) (fun hc5 => ?_)
    · try simp only [decide_eq_true_eq, decide_eq_false_iff_not, Bool.and_eq_true, Bool.or_eq_true, Bool.not_eq_true', Bool.and_eq_false_iff, Bool.or_eq_false_iff, Bool.not_eq_false', Int.not_lt, Int.not_le, ne_eq, Decidable.not_not, Option.isSome_iff_ne_none, Option.isNone_iff_eq_none] at hc5
      refine Tri.seq (Tri.region ?_)
      refine TOps.makeInterface rfl Try.underlying73 rfl rfl ?_
      refine TOps.assign rfl rfl ?_
      refine TOps.next ?_
      refine Tri.ret1 (H' := row (some bc) 152 2 1 [natV (c0 + 1), natV v] :: H) Try.results82 (fun _ _ h => h) (.tmp rfl) (Le.consOf (List.sublist_cons_self _ _)) ⟨by rw [ckT_5 h1 hl2 hc5]; rfl, by rw [ckT_5 h1 hl2 hc5]⟩
    try simp only [decide_eq_true_eq, decide_eq_false_iff_not, Bool.and_eq_true, Bool.or_eq_true, Bool.not_eq_true', Bool.and_eq_false_iff, Bool.or_eq_false_iff, Bool.not_eq_false', Int.not_lt, Int.not_le, ne_eq, Decidable.not_not, Option.isSome_iff_ne_none, Option.isNone_iff_eq_none] at hc5
    obtain ⟨xv, hxv⟩ : ∃ xv : Nat, T.v = xv := ⟨T.v.toNat, by omega⟩
    have hxn : T.v.toNat = xv := by omega
    have hbit : (iand (ishr (ab : Int) T.v.toNat) 1 = 1) ↔ ab.testBit T.v.toNat = true := by have hb := bitB_nat (a := ab) (i := T.v.toNat) (by omega) (by omega); unfold bitB at hb; rw [← hb]; exact (decide_eq_true_iff).symm
    refine Tri.seq (Tri.region ?_)
    refine TOps.move rfl rfl ?_
    refine TOps.field0 rfl Try.underlying27 rfl rfl ti3 rfl rfl rfl ?_
    refine TOps.load1 rfl ti3 (Rd.fld rB.up 0 rfl) rfl ?_
    refine TOps.shr (r := ishr (ab : Int) T.v.toNat) rfl rfl (by omega) rfl rfl ?_
    refine TOps.and rfl rfl rfl rfl ?_
    refine TOps.eqlI rfl rfl rfl ?_
    refine TOps.assign rfl rfl ?_
    refine TOps.next ?_
    refine Tri.cond rfl (fun hc6 => ?_) (fun hc6 => ?_)
    · try simp only [decide_eq_true_eq, decide_eq_false_iff_not, Bool.and_eq_true, Bool.or_eq_true, Bool.not_eq_true', Bool.and_eq_false_iff, Bool.or_eq_false_iff, Bool.not_eq_false', Int.not_lt, Int.not_le, ne_eq, Decidable.not_not, Option.isSome_iff_ne_none, Option.isNone_iff_eq_none] at hc6
      refine Tri.seq (Tri.region ?_)
      refine TOps.makeInterface rfl Try.underlying73 rfl rfl ?_
      refine TOps.assign rfl rfl ?_
      refine TOps.next ?_
      refine Tri.ret1 (H' := row (some bc) 152 2 1 [natV (c0 + 1), natV v] :: H) Try.results82 (fun _ _ h => h) (.tmp rfl) (Le.consOf (List.sublist_cons_self _ _)) ⟨by rw [ckT_6 h1 hl2 hc5 (hbit.1 hc6)]; rfl, by rw [ckT_6 h1 hl2 hc5 (hbit.1 hc6)]⟩
    try simp only [decide_eq_true_eq, decide_eq_false_iff_not, Bool.and_eq_true, Bool.or_eq_true, Bool.not_eq_true', Bool.and_eq_false_iff, Bool.or_eq_false_iff, Bool.not_eq_false', Int.not_lt, Int.not_le, ne_eq, Decidable.not_not, Option.isSome_iff_ne_none, Option.isNone_iff_eq_none] at hc6
    have h6 : ¬ ab.testBit T.v.toNat = true := fun e => hc6 (hbit.2 e)
    refine Tri.seq (Tri.region ?_)
    first | refine TOps.fieldB 2 rfl Try.underlying27 rfl rfl ti3 rfl rfl rfl ?_ | refine TOps.fieldN 2 rfl Try.underlying27 rfl rfl ti3 rfl rfl rfl ?_
    refine TOps.load1 rfl ti3 (Rd.fld rB.up 2 rfl) rfl ?_
    refine TOps.neqI rfl rfl rfl ?_
    refine TOps.assign rfl rfl ?_
    refine TOps.next ?_
    refine Tri.cond rfl (fun hc7 => ?_) (fun hc7 => ?_)
    · try simp only [decide_eq_true_eq, decide_eq_false_iff_not, Bool.and_eq_true, Bool.or_eq_true, Bool.not_eq_true', Bool.and_eq_false_iff, Bool.or_eq_false_iff, Bool.not_eq_false', Int.not_lt, Int.not_le, ne_eq, Decidable.not_not, Option.isSome_iff_ne_none, Option.isNone_iff_eq_none] at hc7
      refine Tri.seq (Tri.region ?_)
      refine TOps.makeInterface rfl Try.underlying73 rfl rfl ?_
      refine TOps.assign rfl rfl ?_
      refine TOps.next ?_
      refine Tri.ret1 (H' := row (some bc) 152 2 1 [natV (c0 + 1), natV v] :: H) Try.results82 (fun _ _ h => h) (.tmp rfl) (Le.consOf (List.sublist_cons_self _ _)) ⟨by rw [ckT_7 h1 hl2 hc5 h6 hc7]; rfl, by rw [ckT_7 h1 hl2 hc5 h6 hc7]⟩
    try simp only [decide_eq_true_eq, decide_eq_false_iff_not, Bool.and_eq_true, Bool.or_eq_true, Bool.not_eq_true', Bool.and_eq_false_iff, Bool.or_eq_false_iff, Bool.not_eq_false', Int.not_lt, Int.not_le, ne_eq, Decidable.not_not, Option.isSome_iff_ne_none, Option.isNone_iff_eq_none] at hc7
    obtain ⟨m, rfl⟩ : ∃ m, n = m + 1 := ⟨n - 1, by omega⟩
    have E8 := ckT_8 (n := m) h1 hl2 hc5 h6 (by omega)
    obtain ⟨ab', hab'⟩ : ∃ ab', ab ||| 2 ^ T.v.toNat = ab' := ⟨_, rfl⟩
    have habl : ab' < 2 ^ 24 := by rw [← hab']; exact or_lt hab (by omega)
    rw [hab'] at E8
    have hor : ior (ab : Int) ((2 ^ T.v.toNat : Nat) : Int) = (ab' : Int) := by rw [ior_nat (by omega) (pow_lt63 (v := 24) (by omega) (Nat.pow_lt_pow_right (by decide) (by omega))), hab']
    refine Tri.fin ?_
    refine Nrm.unB ?_
    refine Nrm.next ?_
    refine Tri.seq ?_
    refine Tri.seq (Tri.region ?_)
    first | refine TOps.fieldB 1 rfl Try.underlying27 rfl rfl ti25 rfl rfl rfl ?_ | refine TOps.fieldN 1 rfl Try.underlying27 rfl rfl ti25 rfl rfl rfl ?_
    refine TOps.load1 rfl ti25 (Rd.fld rB.up 1 rfl) rfl ?_
    refine TOps.len rfl Try.underlying25 rfl ?_
    refine TOps.move rfl rfl ?_
    refine TOps.next ?_
    refine Tri.range (X := Nat) (fun cc k => [(0, .pointer (some ⟨bc, 0, none⟩)), (2, natV ab), (4, .pointer (some ⟨b4, 0, none⟩)), (73, slV a o T.ks.length cap sp)]) (fun cc k => row (some bc) 152 2 1 [natV cc, natV v] :: row (some b4) 27 3 1 [.int .i64 T.v, slV a o T.ks.length cap sp, .int .i64 T.r] :: H) (fun cc k => cc ≤ 4096 ∧ ckL (ckT v m) T.ks ab' (c0 + 1) = ckL (ckT v m) (T.ks.drop k) ab' cc) (by omega) rfl rfl rfl (fun _ _ => ⟨rfl, rfl, rfl, rfl⟩) (c0 + 1) ⟨by omega, rfl⟩ ⟨rfl, rfl, rfl, rfl, trivial⟩ (by repeat (first | exact Le.refl _ | assumption | apply Le.drop)) (fun k cc hlt hp => ?_) (fun cc ac wc hp hS hM => ?_)
    · skip
      obtain ⟨p1, p2⟩ := hp
      obtain ⟨n', b, hn', hab2, hsp, a', o', c', s', hk1, hk2⟩ := kid_of hr hlt
      obtain rfl : m = n' := by omega
      have hdr : T.ks.drop k = T.ks[k] :: T.ks.drop (k + 1) := List.drop_eq_getElem_cons hlt
      refine Tri.seq (Tri.region ?_)
      refine TOps.indexAddr (b := b) (off := o) (m := T.ks.length) (cap := cap) (off' := o + k * 3) (by rw [← hab2, ← hsp]; rfl) rfl Try.underlying25 ti27 (by omega) (by omega) (by simp) rfl ?_
      refine TOps.loadN (vs := [.int .i64 T.ks[k].v, slV a' o' T.ks[k].ks.length c' s', .int .i64 T.ks[k].r]) rfl ti27 hk1.up.up rfl rfl ?_
      refine TOps.alloc ti27 rfl (fun b8 => ?_)
      refine TOps.storeN rfl rfl ti27 rfl rfl (by repeat (first | exact Upd.here | apply Upd.there)) (by first | decide | (simp; done) | (simp; omega)) ?_
      refine TOps.le Le.swap ?_
      refine TOps.next ?_
      refine Tri.seq ?_
      refine Tri.drawX (X := Unit) rfl [(0, .pointer (some ⟨bc, 0, none⟩)), (2, natV ab), (4, .pointer (some ⟨b4, 0, none⟩)), (8, .pointer (some ⟨b8, 0, none⟩)), (73, slV a o T.ks.length cap sp), (74, .int .i64 T.ks.length), (75, natV k)] [] (fun x => [_, _, _, _, _, _, _, errV 73 (ckT v m T.ks[k] ab' cc).1, errV 73 (ckT v m T.ks[k] ab' cc).1]) (fun x c => match c with | 0 => row (some bc) 152 2 1 [natV cc, natV v] :: row (some b8) 27 3 1 [.int .i64 T.ks[k].v, slV a' o' T.ks[k].ks.length c' s', .int .i64 T.ks[k].r] :: row (some b4) 27 3 1 [.int .i64 T.v, slV a o T.ks.length cap sp, .int .i64 T.r] :: H | _ + 1 => row (some bc) 152 2 1 [natV (ckT v m T.ks[k] ab' cc).2, natV v] :: row (some b8) 27 3 1 [.int .i64 T.ks[k].v, slV a' o' T.ks[k].ks.length c' s', .int .i64 T.ks[k].r] :: row (some b4) 27 3 1 [.int .i64 T.v, slV a o T.ks.length cap sp, .int .i64 T.r] :: H) [7] () [8] rfl rfl ⟨rfl, rfl, rfl, rfl, rfl, rfl, rfl, trivial⟩ trivial (by repeat (first | exact Le.refl _ | assumption | apply Le.drop)) (by
        refine ⟨?_, ?_, ?_, ?_, ?_, ?_, ?_, ?_, ?_, trivial⟩
        · refine ⟨fun x S c he hw hd hc hcu hm _ => ?_, trivial⟩
          refine TOps.move (he _ _ rfl) rfl ?_
          exact TOps.fd x rfl rfl
        · refine ⟨fun x S c he hw hd hc hcu hm _ => ?_, trivial⟩
          obtain rfl : c = 0 := by have : c ≤ 0 := hcu; omega
          refine TOps.loadN (vs := [.int .i64 T.ks[k].v, slV a' o' T.ks[k].ks.length c' s', .int .i64 T.ks[k].r]) (he _ _ rfl) ti27 (Rd.all (by repeat (first | exact List.Mem.head _ | apply List.Mem.tail))) rfl rfl ?_
          exact TOps.fd x rfl rfl
        · refine ⟨fun x S c he hw hd hc hcu hm _ => ?_, trivial⟩
          refine TOps.move (he _ _ rfl) rfl ?_
          exact TOps.fd x rfl rfl
        · refine ⟨fun x S c he hw hd hc hcu hm _ => ?_, trivial⟩
          refine TOps.field0 (he _ _ rfl) Try.underlying27 rfl rfl ti3 rfl rfl rfl ?_
          exact TOps.fd x rfl rfl
        · refine ⟨fun x S c he hw hd hc hcu hm _ => ?_, trivial⟩
          obtain ⟨h3, -⟩ := hd
          obtain rfl : c = 0 := by have : c ≤ 0 := hcu; omega
          refine TOps.load1 h3 ti3 (Rd.fld rB.up.up 0 rfl) rfl ?_
          exact TOps.fd x rfl rfl
        · refine ⟨fun x S c he hw hd hc hcu hm _ => ?_, trivial⟩
          obtain ⟨h4, -⟩ := hd
          refine TOps.shl (r := ((2 ^ T.v.toNat : Nat) : Int)) rfl h4 (by omega) (ishl_one (by omega)) rfl ?_
          exact TOps.fd x rfl rfl
        · refine ⟨fun x S c he hw hd hc hcu hm _ => ?_, trivial⟩
          obtain ⟨h2, h5, -⟩ := hd
          refine TOps.or (r := (ab' : Int)) h2 h5 hor rfl ?_
          exact TOps.fd x rfl rfl
        · refine ⟨fun x S c he hw hd hc hcu hm _ => ?_, trivial⟩
          obtain ⟨h0, h1, h6, -⟩ := hd
          obtain rfl : c = 0 := hm rfl
          refine TOps.call (vs := [_, _, _]) Try.call82 ⟨h0, h1, h6, trivial⟩ (ih m (by omega) (hk2.le (Le.drop (Le.drop (Le.refl _)))) habl p1) rfl ?_
          rintro _ _ ⟨rfl, rfl⟩
          exact TOps.fd x rfl rfl
        · refine ⟨fun x S c he hw hd hc hcu hm _ => ?_, trivial⟩
          obtain ⟨h7, _, h0, h1, h2, h3, h4, h5, h6, _, -⟩ := hd
          refine TOps.assign h7 rfl ?_
          exact TOps.fd x rfl rfl
        ) (fun u0 => ?_)
      refine Nrm.next ?_
      refine Tri.seq (Tri.region ?_)
      refine TOps.move rfl rfl ?_
      refine TOps.neqNil rfl Try.underlying34 rfl ?_
      refine TOps.next ?_
      refine Tri.cond rfl (fun hc8 => ?_) (fun hc8 => ?_)
      · try simp only [decide_eq_true_eq, decide_eq_false_iff_not, Bool.and_eq_true, Bool.or_eq_true, Bool.not_eq_true', Bool.and_eq_false_iff, Bool.or_eq_false_iff, Bool.not_eq_false', Int.not_lt, Int.not_le, ne_eq, Decidable.not_not, Option.isSome_iff_ne_none, Option.isNone_iff_eq_none] at hc8
        obtain ⟨e, hce⟩ := Option.ne_none_iff_exists'.1 hc8
        have hE : ckT v (m + 1) T ab c0 = (some e, (ckT v m T.ks[k] ab' cc).2) := by rw [E8, p2, hdr, ckL_some hce]
        refine Tri.seq (Tri.region ?_)
        refine TOps.move rfl rfl ?_
        refine TOps.assign rfl rfl ?_
        refine TOps.next ?_
        refine Tri.ret1 (H' := row (some bc) 152 2 1 [natV (ckT v (m + 1) T ab c0).2, natV v] :: H) Try.results82 (fun _ _ h => h) (.tmp rfl) (by rw [hE]; exact (Le.sub (List.Sublist.cons_cons _ (List.Sublist.cons _ (List.sublist_cons_self _ _))))) ⟨by rw [hE]; show errV 73 (ckT v m T.ks[k] ab' cc).1 = errV 73 (some e); rw [hce], rfl⟩
      try simp only [decide_eq_true_eq, decide_eq_false_iff_not, Bool.and_eq_true, Bool.or_eq_true, Bool.not_eq_true', Bool.and_eq_false_iff, Bool.or_eq_false_iff, Bool.not_eq_false', Int.not_lt, Int.not_le, ne_eq, Decidable.not_not, Option.isSome_iff_ne_none, Option.isNone_iff_eq_none] at hc8
      have hce : (ckT v m T.ks[k] ab' cc).1 = none := by simpa using hc8
      refine Tri.fin ?_
      refine Nrm.body ((ckT v m T.ks[k] ab' cc).2) ⟨ckT_le _ _ _ _ hce, by rw [p2, hdr, ckL_none hce]⟩ ⟨rfl, rfl, rfl, rfl, rfl, rfl, trivial⟩ (Le.sub (List.Sublist.cons_cons _ (List.sublist_cons_self _ _)))
    obtain ⟨p1, p2⟩ := hp
    rw [List.drop_length] at p2
    have hE : ckT v (m + 1) T ab c0 = (none, cc) := by rw [E8, p2]; rfl
    refine Nrm.of hS hM ?_
    refine Nrm.next ?_
    refine Tri.seq (Tri.region ?_)
    refine TOps.assign rfl rfl ?_
    refine TOps.next ?_
    refine Tri.ret1 (H' := row (some bc) 152 2 1 [natV (ckT v (m + 1) T ab c0).2, natV v] :: H) Try.results82 (fun _ _ h => h) (.tmp rfl) (by rw [hE]; exact (Le.consOf (List.sublist_cons_self _ _))) ⟨by rw [hE]; rfl, rfl⟩
end Go.Proofs
namespace Go.Proofs
open Go.GL
set_option linter.unusedVariables false
set_option linter.unusedSimpArgs false
theorem splitCheck_g {v n : Nat} (hv : v ≤ 24) {H : List Ent} {T : Tr} {a sp : Option Nat} {o cap : Nat} (hr : RKs H n T.ks a o sp) :
    Gives Try.prog 61 [.agg (List.toArray [.int .i64 T.v, slV a o T.ks.length cap sp, .int .i64 T.r]), natV v] H (R1 (errV 73 (ckT v n T 0 0).1) H) := by
  refine Gives.enter Try.func61 rfl (by exact Try.ntmps61) rfl ?_
  refine Tri.seq (Tri.region ?_)
  refine TOps.boxN rfl ti27 rfl rfl (fun b2 => ?_)
  refine TOps.assign rfl rfl ?_
  refine TOps.next ?_
  refine Tri.seq ?_
  refine Tri.seq (Tri.region ?_)
  refine TOps.move rfl rfl ?_
  refine TOps.lss rfl rfl rfl ?_
  refine TOps.move rfl rfl ?_
  refine' TOps.orB 2 rfl rfl rfl rfl (fun hg1_2 => ?_) ?_; rotate_left
  · have hg1_2' := hg1_2
    try simp only [decide_eq_true_eq, decide_eq_false_iff_not, Bool.and_eq_true, Bool.or_eq_true, Bool.not_eq_true', Bool.and_eq_false_iff, Bool.or_eq_false_iff, Bool.not_eq_false', Int.not_lt, Int.not_le, ne_eq, Decidable.not_not] at hg1_2'
    refine TOps.strip 2 false rfl rfl hg1_2 rfl ?_
    refine TOps.move rfl rfl ?_
    refine TOps.gtr rfl rfl rfl ?_
    refine TOps.blk rfl (by repeat (first | exact Ext.refl _ | refine Ext.cons rfl ?_)) (by repeat (first | exact Le.refl _ | apply Le.drop))
  refine TOps.next ?_
  refine Tri.cond rfl (fun hc1 => ?_) (fun hc1 => ?_)
  · try simp only [decide_eq_true_eq, decide_eq_false_iff_not, Bool.and_eq_true, Bool.or_eq_true, Bool.not_eq_true', Bool.and_eq_false_iff, Bool.or_eq_false_iff, Bool.not_eq_false', Int.not_lt, Int.not_le, ne_eq, Decidable.not_not, Option.isSome_iff_ne_none, Option.isNone_iff_eq_none] at hc1
    have hfalse : False := by omega
    refine Tri.seq (Tri.region ?_)
    refine TOps.makeInterface rfl Try.underlying73 rfl rfl ?_
    refine TOps.assign rfl rfl ?_
    refine TOps.next ?_
    exact hfalse.elim
  try simp only [decide_eq_true_eq, decide_eq_false_iff_not, Bool.and_eq_true, Bool.or_eq_true, Bool.not_eq_true', Bool.and_eq_false_iff, Bool.or_eq_false_iff, Bool.not_eq_false', Int.not_lt, Int.not_le, ne_eq, Decidable.not_not, Option.isSome_iff_ne_none, Option.isNone_iff_eq_none] at hc1
  refine Tri.fin ?_
  refine Nrm.next ?_
  refine Tri.seq (Tri.region ?_)
  refine TOps.move rfl rfl ?_
  refine TOps.buildStruct (vs := [(1, _)]) (xs := [_, _]) [(0, 1), (1, 1)] Try.underlying152 ti152 (fun w => by simp) ⟨rfl, rfl, trivial⟩ rfl rfl ?_
  refine TOps.alloc ti152 rfl (fun b5 => ?_)
  refine TOps.storeN rfl rfl ti152 rfl rfl (by repeat (first | exact Upd.here | apply Upd.there)) (by first | decide | (simp; done) | (simp; omega)) ?_
  refine TOps.next ?_
  refine Tri.seq (Tri.region ?_)
  refine TOps.loadN (vs := [.int .i64 T.v, slV a o T.ks.length cap sp, .int .i64 T.r]) rfl ti27 (Rd.all (by repeat (first | exact List.Mem.head _ | apply List.Mem.tail))) rfl rfl ?_
  refine TOps.call (vs := [_, _, _]) Try.call82 ⟨rfl, rfl, rfl, trivial⟩ (cknode_g hv n (hr.le (Le.drop (Le.refl _))) (by decide) (Nat.zero_le _)) rfl ?_
  rintro _ _ ⟨rfl, rfl⟩
  refine TOps.assign rfl rfl ?_
  refine TOps.next ?_
  refine Tri.ret1 (H' := H) Try.results61 (fun _ _ h => h) (.tmp rfl) (Le.drop (Le.drop (Le.refl _))) ⟨rfl, rfl⟩
set_option maxHeartbeats 1000000 in
theorem leaves_g {v : Nat} (hv : v ≤ 24) : ∀ (K : Nat) {B : BT} {n : Nat} {H : List Ent} {a sp : Option Nat} {o cap y m : Nat} {xs : List (Nat × Nat × Int)} {xa : Option Nat} {xc : Nat}, B.size ≤ K → RKs H n B.tr.ks a o sp → CubeOk v y m → B.valid v (y ||| m) → xs.length + (B.leaves y m).length ≤ 4096 →
    Gives Try.prog 62 [slV xa 0 xs.length xc, .agg (List.toArray [.int .i64 B.tr.v, slV a o B.tr.ks.length cap sp, .int .i64 B.tr.r]), .agg (List.toArray [natV y, natV m])] (row xa 94 3 xc (lvV (xs)) :: H) (fun u H' => ∃ b' c', u = slV (some b') 0 (xs ++ B.leaves y m).length c' ∧ row (some b') 94 3 c' (lvV (xs ++ B.leaves y m)) :: H = H') := by
  intro K
  induction K with
  | zero => intro B n H a sp o cap y m xs xa xc hK; have := B.size_pos; omega
  | succ K ih =>
  intro B n H a sp o cap y m xs xa xc hK hr hcb hB hlen
  have hy24 := hcb.y1
  have hn24 := hcb.n1
  have h24 : (2 : Nat) ^ v ≤ 2 ^ 24 := Nat.pow_le_pow_right (by decide) hv
  have h24' : (2 : Nat) ^ 24 = 16777216 := rfl
  refine Gives.enter Try.func62 rfl (by exact Try.ntmps62) rfl ?_
  refine Tri.seq (Tri.region ?_)
  refine TOps.boxN rfl ti27 rfl rfl (fun b4 => ?_)
  refine TOps.le Le.swap ?_
  refine TOps.boxN rfl ti88 rfl rfl (fun b5 => ?_)
  refine TOps.le Le.swap ?_
  refine TOps.assign rfl rfl ?_
  refine TOps.next ?_
  refine Tri.seq ?_
  refine Tri.seq (Tri.region ?_)
  first | refine TOps.fieldB 1 rfl Try.underlying27 rfl rfl ti25 rfl rfl rfl ?_ | refine TOps.fieldN 1 rfl Try.underlying27 rfl rfl ti25 rfl rfl rfl ?_
  refine TOps.load1 rfl ti25 (Rd.fld (Rd.all (H := _ :: _ :: row (some b4) 27 3 1 [.int .i64 B.tr.v, slV a o B.tr.ks.length cap sp, .int .i64 B.tr.r] :: H) (by repeat (first | exact List.Mem.head _ | apply List.Mem.tail))) 1 rfl) rfl ?_
  refine TOps.len rfl Try.underlying25 rfl ?_
  refine TOps.eqlI rfl rfl rfl ?_
  refine TOps.next ?_
  refine Tri.cond rfl (fun hc1 => ?_) (fun hc1 => ?_)
  · try simp only [decide_eq_true_eq, decide_eq_false_iff_not, Bool.and_eq_true, Bool.or_eq_true, Bool.not_eq_true', Bool.and_eq_false_iff, Bool.or_eq_false_iff, Bool.not_eq_false', Int.not_lt, Int.not_le, ne_eq, Decidable.not_not, Option.isSome_iff_ne_none, Option.isNone_iff_eq_none] at hc1
    obtain ⟨r, rfl⟩ := BT.leaf_of hc1
    have hlen1 : xs.length + 1 ≤ 4096 := hlen
    refine Tri.seq (Tri.region ?_)
    refine TOps.move rfl rfl ?_
    refine TOps.loadN (vs := [natV y, natV m]) rfl ti88 (Rd.all (by repeat (first | exact List.Mem.head _ | apply List.Mem.tail))) rfl rfl ?_
    first | refine TOps.fieldB 2 rfl Try.underlying27 rfl rfl ti3 rfl rfl rfl ?_ | refine TOps.fieldN 2 rfl Try.underlying27 rfl rfl ti3 rfl rfl rfl ?_
    refine TOps.load1 rfl ti3 (Rd.fld (Rd.all (H := _ :: _ :: row (some b4) 27 3 1 [.int .i64 (BT.lf r).tr.v, slV a o (BT.lf r).tr.ks.length cap sp, .int .i64 (BT.lf r).tr.r] :: H) (by repeat (first | exact List.Mem.head _ | apply List.Mem.tail))) 2 rfl) rfl ?_
    refine TOps.buildStruct (vs := [(0, _), (1, _)]) (xs := [_, _, _]) [(0, 2), (2, 1)] Try.underlying94 ti94 (fun w => by simp) ⟨rfl, rfl, rfl, rfl, trivial⟩ rfl rfl ?_
    refine TOps.buildSlice (vs := [_]) (xs := [_, _, _]) Try.underlying90 ti94 ⟨rfl, rfl, trivial⟩ rfl rfl rfl rfl rfl rfl (by decide) rfl (fun b16 => ?_)
    refine TOps.appendLit rfl rfl Try.underlying90 ti94 rfl (fun _ _ => (by repeat (first | exact Upd.here | apply Upd.there))) rfl (by rw [lvV_length]; omega) rfl (by omega) (by omega) (by simp) rfl (fun b17 cap17 => ?_)
    rw [show xs.length + 1 = (xs ++ (BT.lf r).leaves y m).length by simp [BT.leaves]]
    refine TOps.assign rfl rfl ?_
    refine TOps.next ?_
    refine Tri.ret1 (H' := row (some b17) 94 3 cap17 (lvV (xs ++ (BT.lf r).leaves y m)) :: H) Try.results62 (fun _ _ h => h) (.tmp rfl) ?_ ⟨_, _, rfl, rfl⟩
    rw [← show lvV xs ++ [natV y, natV m, .int .i64 (BT.lf r).tr.r] = lvV (xs ++ (BT.lf r).leaves y m) from lvV_snoc xs y m r]
    exact (Sp.le (by repeat (first | exact Sp.refl _ | exact Sp.sub (by assumption) | refine Sp.cons (by repeat (first | exact Pick.here | apply Pick.there)) ?_ | exact Sp.nil | apply Sp.skip)))
  try simp only [decide_eq_true_eq, decide_eq_false_iff_not, Bool.and_eq_true, Bool.or_eq_true, Bool.not_eq_true', Bool.and_eq_false_iff, Bool.or_eq_false_iff, Bool.not_eq_false', Int.not_lt, Int.not_le, ne_eq, Decidable.not_not, Option.isSome_iff_ne_none, Option.isNone_iff_eq_none] at hc1
  obtain ⟨e, l, g, rfl⟩ := BT.node_of hc1
  obtain ⟨q1, q2, q3, q4⟩ := hB
  obtain ⟨n', b, hn', hab, hsp, a0, o0, c0, s0, hk1, hk2⟩ := kid_of hr (k := 0) (by show 0 < 2; decide)
  obtain ⟨n2, b', hn2, hab2, hsp2, a1, o1, c1, s1, hj1, hj2⟩ := kid_of hr (k := 1) (by show 1 < 2; decide)
  obtain rfl : b = b' := Option.some.inj (hab.symm.trans hab2)
  have hlen0 : xs.length + ((l.leaves y (m ||| 2 ^ e)).length + (g.leaves (y ||| 2 ^ e) m).length) ≤ 4096 := by rw [← List.length_append]; exact hlen
  have hsz : 1 + l.size + g.size ≤ K + 1 := hK
  have hps := l.size_pos
  have hpg := g.size_pos
  have r5 : Rd (row (some b5) 88 2 1 [natV y, natV m] :: row (some b4) 27 3 1 [.int .i64 (BT.nd e l g).tr.v, slV a o (BT.nd e l g).tr.ks.length cap sp, .int .i64 (BT.nd e l g).tr.r] :: H) b5 0 [natV y, natV m] := Rd.all (by repeat (first | exact List.Mem.head _ | apply List.Mem.tail))
  have r4 : Rd (row (some b5) 88 2 1 [natV y, natV m] :: row (some b4) 27 3 1 [.int .i64 (BT.nd e l g).tr.v, slV a o (BT.nd e l g).tr.ks.length cap sp, .int .i64 (BT.nd e l g).tr.r] :: H) b4 0 [natV e, slV a o 2 cap sp, .int .i64 0] := Rd.all (by repeat (first | exact List.Mem.head _ | apply List.Mem.tail))
  have hp24 := Nat.pow_lt_pow_right (a := 2) (by decide) q1
  have ho1 : ior (m : Int) ((2 ^ e : Nat) : Int) = ((m ||| 2 ^ e : Nat) : Int) := ior_nat (by omega) (by omega)
  have ho2 : ior (y : Int) ((2 ^ e : Nat) : Int) = ((y ||| 2 ^ e : Nat) : Int) := ior_nat (by omega) (by omega)
  obtain ⟨xl, hxl⟩ : ∃ xl, xs ++ l.leaves y (m ||| 2 ^ e) = xl := ⟨_, rfl⟩
  obtain ⟨xr, hxr⟩ : ∃ xr, xl ++ g.leaves (y ||| 2 ^ e) m = xr := ⟨_, rfl⟩
  have hll : xl.length = xs.length + (l.leaves y (m ||| 2 ^ e)).length := by rw [← hxl, List.length_append]
  have hle3 : ∀ (x : Nat × Nat) (c : Nat), Le (match c with | 0 => row xa 94 3 xc (lvV (xs)) :: row (some b5) 88 2 1 [natV y, natV m] :: row (some b4) 27 3 1 [.int .i64 (BT.nd e l g).tr.v, slV a o (BT.nd e l g).tr.ks.length cap sp, .int .i64 (BT.nd e l g).tr.r] :: H | _ + 1 => row (some x.1) 94 3 x.2 (lvV (xl)) :: row (some b5) 88 2 1 [natV y, natV m] :: row (some b4) 27 3 1 [.int .i64 (BT.nd e l g).tr.v, slV a o (BT.nd e l g).tr.ks.length cap sp, .int .i64 (BT.nd e l g).tr.r] :: H) (row (some b5) 88 2 1 [natV y, natV m] :: row (some b4) 27 3 1 [.int .i64 (BT.nd e l g).tr.v, slV a o (BT.nd e l g).tr.ks.length cap sp, .int .i64 (BT.nd e l g).tr.r] :: H) := fun x c => match c with | 0 => Le.drop (Le.refl _) | _ + 1 => Le.drop (Le.refl _)
  refine Tri.fin ?_
  refine Nrm.next ?_
  refine Tri.seq ?_
  refine Tri.drawX (X := Nat × Nat) rfl [(4, .pointer (some ⟨b4, 0, none⟩)), (5, .pointer (some ⟨b5, 0, none⟩))] [(0, slV xa 0 xs.length xc)] (fun x => [_, _, _, _, _, _, _, _, _, _, _, _, _, .agg (List.toArray [natV y, natV (m ||| 2 ^ e)]), slV (some x.1) 0 xl.length x.2, slV (some x.1) 0 xl.length x.2]) (fun x c => match c with | 0 => row xa 94 3 xc (lvV (xs)) :: row (some b5) 88 2 1 [natV y, natV m] :: row (some b4) 27 3 1 [.int .i64 (BT.nd e l g).tr.v, slV a o (BT.nd e l g).tr.ks.length cap sp, .int .i64 (BT.nd e l g).tr.r] :: H | _ + 1 => row (some x.1) 94 3 x.2 (lvV (xl)) :: row (some b5) 88 2 1 [natV y, natV m] :: row (some b4) 27 3 1 [.int .i64 (BT.nd e l g).tr.v, slV a o (BT.nd e l g).tr.ks.length cap sp, .int .i64 (BT.nd e l g).tr.r] :: H) [14] (0, 0) [15] rfl rfl ⟨rfl, rfl, trivial⟩ ⟨rfl, trivial⟩ (by repeat (first | exact Le.refl _ | assumption | apply Le.drop)) (by
    refine ⟨?_, ?_, ?_, ?_, ?_, ?_, ?_, ?_, ?_, ?_, ?_, ?_, ?_, ?_, ?_, ?_, trivial⟩
    · refine ⟨fun x S c he hw hd hc hcu hm _ => ?_, trivial⟩
      refine TOps.move (hw _ _ rfl) rfl ?_
      exact TOps.fd x rfl rfl
    · refine ⟨fun x S c he hw hd hc hcu hm _ => ?_, trivial⟩
      first | refine TOps.fieldB 1 (he _ _ rfl) Try.underlying27 rfl rfl ti25 rfl rfl rfl ?_ | refine TOps.fieldN 1 (he _ _ rfl) Try.underlying27 rfl rfl ti25 rfl rfl rfl ?_
      exact TOps.fd x rfl rfl
    · refine ⟨fun x S c he hw hd hc hcu hm _ => ?_, trivial⟩
      obtain ⟨h1, -⟩ := hd
      refine TOps.load1 h1 ti25 (Rd.fld (r4.le (hle3 x c)) 1 rfl) rfl ?_
      exact TOps.fd x rfl rfl
    · refine ⟨fun x S c he hw hd hc hcu hm _ => ?_, trivial⟩
      obtain ⟨h2, -⟩ := hd
      refine TOps.indexAddr (b := b) (off := o) (m := 2) (cap := cap) (off' := o + 0 * 3) (h2.trans (by rw [hab, hsp]; rfl)) rfl Try.underlying25 ti27 (by omega) (by omega) (by simp) rfl ?_
      exact TOps.fd x rfl rfl
    · refine ⟨fun x S c he hw hd hc hcu hm _ => ?_, trivial⟩
      obtain ⟨h3, -⟩ := hd
      refine TOps.loadN (vs := [.int .i64 l.tr.v, slV a0 o0 l.tr.ks.length c0 s0, .int .i64 l.tr.r]) h3 ti27 (Rd.le hk1 (Le.trans (hle3 x c) (Le.drop (Le.drop (Le.refl _))))) rfl rfl ?_
      exact TOps.fd x rfl rfl
    · refine ⟨fun x S c he hw hd hc hcu hm _ => ?_, trivial⟩
      refine TOps.field0 (he _ _ rfl) Try.underlying88 rfl rfl ti3 rfl rfl rfl ?_
      exact TOps.fd x rfl rfl
    · refine ⟨fun x S c he hw hd hc hcu hm _ => ?_, trivial⟩
      obtain ⟨h5, -⟩ := hd
      refine TOps.load1 h5 ti3 (Rd.fld (r5.le (hle3 x c)) 0 rfl) rfl ?_
      exact TOps.fd x rfl rfl
    · refine ⟨fun x S c he hw hd hc hcu hm _ => ?_, trivial⟩
      first | refine TOps.fieldB 1 (he _ _ rfl) Try.underlying88 rfl rfl ti3 rfl rfl rfl ?_ | refine TOps.fieldN 1 (he _ _ rfl) Try.underlying88 rfl rfl ti3 rfl rfl rfl ?_
      exact TOps.fd x rfl rfl
    · refine ⟨fun x S c he hw hd hc hcu hm _ => ?_, trivial⟩
      obtain ⟨h7, -⟩ := hd
      refine TOps.load1 h7 ti3 (Rd.fld (r5.le (hle3 x c)) 1 rfl) rfl ?_
      exact TOps.fd x rfl rfl
    · refine ⟨fun x S c he hw hd hc hcu hm _ => ?_, trivial⟩
      refine TOps.field0 (he _ _ rfl) Try.underlying27 rfl rfl ti3 rfl rfl rfl ?_
      exact TOps.fd x rfl rfl
    · refine ⟨fun x S c he hw hd hc hcu hm _ => ?_, trivial⟩
      obtain ⟨h9, -⟩ := hd
      refine TOps.load1 h9 ti3 (Rd.fld (r4.le (hle3 x c)) 0 rfl) rfl ?_
      exact TOps.fd x rfl rfl
    · refine ⟨fun x S c he hw hd hc hcu hm _ => ?_, trivial⟩
      obtain ⟨h10, -⟩ := hd
      refine TOps.shl (r := ((2 ^ e : Nat) : Int)) rfl h10 (by omega) (ishl_one (by omega)) rfl ?_
      exact TOps.fd x rfl rfl
    · refine ⟨fun x S c he hw hd hc hcu hm _ => ?_, trivial⟩
      obtain ⟨h8, h11, -⟩ := hd
      refine TOps.or (r := ((m ||| 2 ^ e : Nat) : Int)) h8 h11 ho1 rfl ?_
      exact TOps.fd x rfl rfl
    · refine ⟨fun x S c he hw hd hc hcu hm _ => ?_, trivial⟩
      obtain ⟨h6, h12, -⟩ := hd
      refine TOps.buildStruct (vs := [(0, _), (1, _)]) (xs := [_, _]) [(0, 1), (1, 1)] Try.underlying88 ti88 (fun w => by simp) ⟨rfl, h6, rfl, h12, trivial⟩ rfl rfl ?_
      exact TOps.fd x rfl rfl
    · refine ⟨fun x S c he hw hd hc hcu hm _ => ?_, trivial⟩
      obtain ⟨h0, h4, h13, -⟩ := hd
      obtain rfl : c = 0 := hm rfl
      refine TOps.call (vs := [_, _, _]) Try.call62 ⟨h0, h4, h13, trivial⟩ (ih (by omega) (RKs.le (Le.drop (Le.drop (Le.refl _))) hk2) (hcb.no q1 q2) (by rw [or_no]; exact q3) (by omega)) rfl ?_
      rintro _ _ ⟨u, z, rfl, rfl⟩
      rw [hxl]
      refine TOps.fin (Nrm.draw (u, z) ?_ rfl (Le.refl _))
      intro j hj hcj; rcases j with _|_|_|_|_|_|_|_|_|_|_|_|_|_|_|_|j <;> first | rfl | exact absurd rfl hj | exact absurd hcj (by decide)
    · refine ⟨fun x S c he hw hd hc hcu hm _ => ?_, trivial⟩
      obtain ⟨h14, _, h0, h1, h2, h3, h4, h5, h6, h7, h8, h9, h10, h11, h12, h13, _, -⟩ := hd
      refine TOps.assign h14 rfl ?_
      exact TOps.fd x rfl rfl
    ) (fun w => ?_)
  refine Nrm.next ?_
  refine Tri.seq ?_
  have hle4 : ∀ (x : Nat × Nat) (c : Nat), Le (match c with | 0 => row (some w.1) 94 3 w.2 (lvV (xl)) :: row (some b5) 88 2 1 [natV y, natV m] :: row (some b4) 27 3 1 [.int .i64 (BT.nd e l g).tr.v, slV a o (BT.nd e l g).tr.ks.length cap sp, .int .i64 (BT.nd e l g).tr.r] :: H | _ + 1 => row (some x.1) 94 3 x.2 (lvV (xr)) :: row (some b5) 88 2 1 [natV y, natV m] :: row (some b4) 27 3 1 [.int .i64 (BT.nd e l g).tr.v, slV a o (BT.nd e l g).tr.ks.length cap sp, .int .i64 (BT.nd e l g).tr.r] :: H) (row (some b5) 88 2 1 [natV y, natV m] :: row (some b4) 27 3 1 [.int .i64 (BT.nd e l g).tr.v, slV a o (BT.nd e l g).tr.ks.length cap sp, .int .i64 (BT.nd e l g).tr.r] :: H) := fun x c => match c with | 0 => Le.drop (Le.refl _) | _ + 1 => Le.drop (Le.refl _)
  refine Tri.drawX (X := Nat × Nat) rfl [(0, slV (some w.1) 0 xl.length w.2), (4, .pointer (some ⟨b4, 0, none⟩)), (5, .pointer (some ⟨b5, 0, none⟩))] [] (fun x => [_, _, _, _, _, _, _, _, _, _, _, _, _, .agg (List.toArray [natV (y ||| 2 ^ e), natV m]), slV (some x.1) 0 xr.length x.2, slV (some x.1) 0 xr.length x.2]) (fun x c => match c with | 0 => row (some w.1) 94 3 w.2 (lvV (xl)) :: row (some b5) 88 2 1 [natV y, natV m] :: row (some b4) 27 3 1 [.int .i64 (BT.nd e l g).tr.v, slV a o (BT.nd e l g).tr.ks.length cap sp, .int .i64 (BT.nd e l g).tr.r] :: H | _ + 1 => row (some x.1) 94 3 x.2 (lvV (xr)) :: row (some b5) 88 2 1 [natV y, natV m] :: row (some b4) 27 3 1 [.int .i64 (BT.nd e l g).tr.v, slV a o (BT.nd e l g).tr.ks.length cap sp, .int .i64 (BT.nd e l g).tr.r] :: H) [14] (0, 0) [15] rfl rfl ⟨rfl, rfl, rfl, trivial⟩ trivial (by repeat (first | exact Le.refl _ | assumption | apply Le.drop)) (by
    refine ⟨?_, ?_, ?_, ?_, ?_, ?_, ?_, ?_, ?_, ?_, ?_, ?_, ?_, ?_, ?_, ?_, trivial⟩
    · refine ⟨fun x S c he hw hd hc hcu hm _ => ?_, trivial⟩
      refine TOps.move (he _ _ rfl) rfl ?_
      exact TOps.fd x rfl rfl
    · refine ⟨fun x S c he hw hd hc hcu hm _ => ?_, trivial⟩
      first | refine TOps.fieldB 1 (he _ _ rfl) Try.underlying27 rfl rfl ti25 rfl rfl rfl ?_ | refine TOps.fieldN 1 (he _ _ rfl) Try.underlying27 rfl rfl ti25 rfl rfl rfl ?_
      exact TOps.fd x rfl rfl
    · refine ⟨fun x S c he hw hd hc hcu hm _ => ?_, trivial⟩
      obtain ⟨h1, -⟩ := hd
      refine TOps.load1 h1 ti25 (Rd.fld (r4.le (hle4 x c)) 1 rfl) rfl ?_
      exact TOps.fd x rfl rfl
    · refine ⟨fun x S c he hw hd hc hcu hm _ => ?_, trivial⟩
      obtain ⟨h2, -⟩ := hd
      refine TOps.indexAddr (b := b) (off := o) (m := 2) (cap := cap) (off' := o + 1 * 3) (h2.trans (by rw [hab, hsp]; rfl)) rfl Try.underlying25 ti27 (by omega) (by omega) (by simp) rfl ?_
      exact TOps.fd x rfl rfl
    · refine ⟨fun x S c he hw hd hc hcu hm _ => ?_, trivial⟩
      obtain ⟨h3, -⟩ := hd
      refine TOps.loadN (vs := [.int .i64 g.tr.v, slV a1 o1 g.tr.ks.length c1 s1, .int .i64 g.tr.r]) h3 ti27 (Rd.le hj1 (Le.trans (hle4 x c) (Le.drop (Le.drop (Le.refl _))))) rfl rfl ?_
      exact TOps.fd x rfl rfl
    · refine ⟨fun x S c he hw hd hc hcu hm _ => ?_, trivial⟩
      refine TOps.field0 (he _ _ rfl) Try.underlying88 rfl rfl ti3 rfl rfl rfl ?_
      exact TOps.fd x rfl rfl
    · refine ⟨fun x S c he hw hd hc hcu hm _ => ?_, trivial⟩
      obtain ⟨h5, -⟩ := hd
      refine TOps.load1 h5 ti3 (Rd.fld (r5.le (hle4 x c)) 0 rfl) rfl ?_
      exact TOps.fd x rfl rfl
    · refine ⟨fun x S c he hw hd hc hcu hm _ => ?_, trivial⟩
      refine TOps.field0 (he _ _ rfl) Try.underlying27 rfl rfl ti3 rfl rfl rfl ?_
      exact TOps.fd x rfl rfl
    · refine ⟨fun x S c he hw hd hc hcu hm _ => ?_, trivial⟩
      obtain ⟨h7, -⟩ := hd
      refine TOps.load1 h7 ti3 (Rd.fld (r4.le (hle4 x c)) 0 rfl) rfl ?_
      exact TOps.fd x rfl rfl
    · refine ⟨fun x S c he hw hd hc hcu hm _ => ?_, trivial⟩
      obtain ⟨h8, -⟩ := hd
      refine TOps.shl (r := ((2 ^ e : Nat) : Int)) rfl h8 (by omega) (ishl_one (by omega)) rfl ?_
      exact TOps.fd x rfl rfl
    · refine ⟨fun x S c he hw hd hc hcu hm _ => ?_, trivial⟩
      obtain ⟨h6, h9, -⟩ := hd
      refine TOps.or (r := ((y ||| 2 ^ e : Nat) : Int)) h6 h9 ho2 rfl ?_
      exact TOps.fd x rfl rfl
    · refine ⟨fun x S c he hw hd hc hcu hm _ => ?_, trivial⟩
      first | refine TOps.fieldB 1 (he _ _ rfl) Try.underlying88 rfl rfl ti3 rfl rfl rfl ?_ | refine TOps.fieldN 1 (he _ _ rfl) Try.underlying88 rfl rfl ti3 rfl rfl rfl ?_
      exact TOps.fd x rfl rfl
    · refine ⟨fun x S c he hw hd hc hcu hm _ => ?_, trivial⟩
      obtain ⟨h11, -⟩ := hd
      refine TOps.load1 h11 ti3 (Rd.fld (r5.le (hle4 x c)) 1 rfl) rfl ?_
      exact TOps.fd x rfl rfl
    · refine ⟨fun x S c he hw hd hc hcu hm _ => ?_, trivial⟩
      obtain ⟨h10, h12, -⟩ := hd
      refine TOps.buildStruct (vs := [(0, _), (1, _)]) (xs := [_, _]) [(0, 1), (1, 1)] Try.underlying88 ti88 (fun w => by simp) ⟨rfl, h10, rfl, h12, trivial⟩ rfl rfl ?_
      exact TOps.fd x rfl rfl
    · refine ⟨fun x S c he hw hd hc hcu hm _ => ?_, trivial⟩
      obtain ⟨h0, h4, h13, -⟩ := hd
      obtain rfl : c = 0 := hm rfl
      refine TOps.call (vs := [_, _, _]) Try.call62 ⟨h0, h4, h13, trivial⟩ (ih (by omega) (RKs.le (Le.drop (Le.drop (Le.refl _))) hj2) (hcb.yes q1 q2) (by rw [or_yes]; exact q4) (by omega)) rfl ?_
      rintro _ _ ⟨u, z, rfl, rfl⟩
      rw [hxr]
      refine TOps.fin (Nrm.draw (u, z) ?_ rfl (Le.refl _))
      intro j hj hcj; rcases j with _|_|_|_|_|_|_|_|_|_|_|_|_|_|_|_|j <;> first | rfl | exact absurd rfl hj | exact absurd hcj (by decide)
    · refine ⟨fun x S c he hw hd hc hcu hm _ => ?_, trivial⟩
      obtain ⟨h14, _, h0, h1, h2, h3, h4, h5, h6, h7, h8, h9, h10, h11, h12, h13, _, -⟩ := hd
      refine TOps.assign h14 rfl ?_
      exact TOps.fd x rfl rfl
    ) (fun w => ?_)
  refine Nrm.next ?_
  have hfin : xs ++ (BT.nd e l g).leaves y m = xr := by rw [← hxr, ← hxl, List.append_assoc]; rfl
  refine Tri.ret1 (H' := row (some w.1) 94 3 w.2 (lvV (xr)) :: H) Try.results62 (fun _ _ h => h) (.tmp rfl) (Le.consOf (List.Sublist.cons _ (List.sublist_cons_self _ _))) ⟨w.1, w.2, by rw [hfin]; rfl, by rw [hfin]⟩
theorem leavesAll_g {v n : Nat} (hv : v ≤ 24) {H : List Ent} {T : Tr} {a sp : Option Nat} {o cap : Nat} (hr : RKs H n T.ks a o sp) :
    Gives Try.prog 36 [.agg (List.toArray [.int .i64 T.v, slV a o T.ks.length cap sp, .int .i64 T.r]), natV v] H (fun u H' => ∃ lb lc ls, u = .tuple (List.toArray [slV lb 0 ls.length lc, errV 73 (ckT v n T 0 0).1]) ∧ ((ckT v n T 0 0).1 = none → ∃ B b', lb = some b' ∧ T = BT.tr B ∧ B.valid v 0 ∧ B.size ≤ 4096 ∧ ls = B.leaves 0 0) ∧ row lb 94 3 lc (lvV (ls)) :: H = H') := by
  refine Gives.enter Try.func36 rfl (by exact Try.ntmps36) rfl ?_
  refine Tri.seq (Tri.region ?_)
  refine TOps.boxN rfl ti27 rfl rfl (fun b2 => ?_)
  refine TOps.assign rfl rfl ?_
  refine TOps.assign rfl rfl ?_
  refine TOps.next ?_
  refine Tri.seq ?_
  refine Tri.seq (Tri.region ?_)
  refine TOps.loadN (vs := [.int .i64 T.v, slV a o T.ks.length cap sp, .int .i64 T.r]) rfl ti27 (Rd.all (by repeat (first | exact List.Mem.head _ | apply List.Mem.tail))) rfl rfl ?_
  refine TOps.move rfl rfl ?_
  refine TOps.call (vs := [_, _]) Try.call61 ⟨rfl, rfl, trivial⟩ (splitCheck_g hv (hr.le (Le.drop (Le.refl _)))) rfl ?_
  rintro _ _ ⟨rfl, rfl⟩
  refine TOps.assign rfl rfl ?_
  refine TOps.next ?_
  refine Tri.seq (Tri.region ?_)
  refine TOps.move rfl rfl ?_
  refine TOps.neqNil (T := 73) (o := (ckT v n T 0 0).1) rfl Try.underlying34 rfl ?_
  refine TOps.next ?_
  refine Tri.cond rfl (fun hc1 => ?_) (fun hc1 => ?_)
  · try simp only [decide_eq_true_eq, decide_eq_false_iff_not, Bool.and_eq_true, Bool.or_eq_true, Bool.not_eq_true', Bool.and_eq_false_iff, Bool.or_eq_false_iff, Bool.not_eq_false', Int.not_lt, Int.not_le, ne_eq, Decidable.not_not, Option.isSome_iff_ne_none, Option.isNone_iff_eq_none] at hc1
    refine Tri.seq (Tri.region ?_)
    refine TOps.move rfl rfl ?_
    refine TOps.assign rfl rfl ?_
    refine TOps.assign rfl rfl ?_
    refine TOps.next ?_
    refine Tri.ret2 (H' := row none 94 3 0 (lvV []) :: H) Try.results36 (fun _ _ h => h) (.tmp rfl) (.tmp rfl) ((Le.drop (Le.refl _)).trans Le.addNil) ⟨none, 0, [], rfl, fun h => absurd h hc1, rfl⟩
  try simp only [decide_eq_true_eq, decide_eq_false_iff_not, Bool.and_eq_true, Bool.or_eq_true, Bool.not_eq_true', Bool.and_eq_false_iff, Bool.or_eq_false_iff, Bool.not_eq_false', Int.not_lt, Int.not_le, ne_eq, Decidable.not_not, Option.isSome_iff_ne_none, Option.isNone_iff_eq_none] at hc1
  have hce : (ckT v n T 0 0).1 = none := by simpa using hc1
  obtain ⟨B, rfl, hB, hs⟩ := ckT_tree (v := v) n T 0 0 hr.dep hce
  have hs2 := ckT_le (v := v) n B.tr 0 0 hce
  have hll := BT.leaves_le B 0 0
  refine Tri.fin ?_
  refine Nrm.next ?_
  refine Tri.seq (Tri.region ?_)
  refine TOps.loadN (vs := [.int .i64 B.tr.v, slV a o B.tr.ks.length cap sp, .int .i64 B.tr.r]) rfl ti27 (Rd.all (by repeat (first | exact List.Mem.head _ | apply List.Mem.tail))) rfl rfl ?_
  refine TOps.buildStruct (vs := []) (xs := [_, _]) [(0, 1), (1, 1)] Try.underlying88 ti88 (fun w => by simp) trivial rfl rfl ?_
  refine TOps.le (Le.addNil (E := 94) (sz := 3)) ?_
  refine TOps.call (vs := [_, _, _]) Try.call62 ⟨rfl, rfl, rfl, trivial⟩ (leaves_g (xs := []) (y := 0) (m := 0) hv B.size (Nat.le_refl _) (hr.le (Le.drop (Le.refl _))) (CubeOk.zero v) hB (by rw [List.length_nil, Nat.zero_add]; omega)) rfl ?_
  rintro _ _ ⟨b', c', rfl, rfl⟩
  refine TOps.assign rfl rfl ?_
  refine TOps.assign rfl rfl ?_
  refine TOps.next ?_
  refine Tri.ret2 (H' := row (some b') 94 3 c' (lvV (B.leaves 0 0)) :: H) Try.results36 (fun _ _ h => h) (.tmp rfl) (.tmp rfl) (Le.consOf (List.sublist_cons_self _ _)) ⟨some b', c', B.leaves 0 0, by rw [hce]; rfl, fun _ => ⟨B, b', rfl, rfl, hB, by omega, rfl⟩, rfl⟩
end Go.Proofs
