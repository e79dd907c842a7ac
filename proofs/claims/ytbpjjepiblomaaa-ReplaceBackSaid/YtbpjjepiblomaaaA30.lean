import Derived.Test.YtbpjjepiblomaaaE29
import Derived.Test.YtbpjjepiblomaaaC29
import Derived.Test.YtbpjjepiblomaaaW08
import Derived.Test.YtbpjjepiblomaaaGL51
namespace Go.Proofs
open Go.GL
set_option linter.unusedVariables false
set_option linter.unusedSimpArgs false
theorem rpbelow_g {H : List Ent} {fv : Value} {F : Fm} (hF : RF H fv F) (hg : F.Good) (t : Nat) (ht : t < F.vars.toNat + F.nodes.length) :
    Gives Try.prog 35 [fv, .int .i64 t] H (fun u H' => ∃ b cap, u = slV (some b) 0 (F.vars.toNat + F.nodes.length) cap ∧ row (some b) 4 1 cap (bools (F.part t)) :: H = H') := by
  have hfit := hg.fits
  obtain ⟨vars, nodes, top⟩ := F
  obtain ⟨na, noff, ncap, nsp, rfl, hN⟩ := hF
  have g0 := hg.v0; have g1 := hg.v1; have g2 := hg.n1
  simp only at g0 g1 g2 hN hfit ht
  obtain ⟨v, rfl⟩ := Int.eq_ofNat_of_zero_le g0
  rw [Int.toNat_natCast] at ht
  have eb : Fm.part ⟨v, nodes, top⟩ t = belowL v nodes nodes.length ((List.replicate (v + nodes.length) false).set t true) := by simp [Fm.part, Fm.at, Fm.below]
  dsimp only
  rw [eb, Int.toNat_natCast]
  generalize hbe : belowL v nodes nodes.length ((List.replicate (v + nodes.length) false).set t true) = res
  refine Gives.enter Try.func35 rfl (by exact Try.ntmps35) rfl ?_
  refine Tri.seq (Tri.region ?_)
  refine TOps.boxN rfl ti24 rfl rfl (fun b2 => ?_)
  refine TOps.hide (fun H1 l1 s1 r1 => ?_)
  replace hN := hN.le l1
  refine TOps.assign rfl rfl ?_
  refine TOps.next ?_
  refine Tri.seq (Tri.region ?_)
  refine TOps.field0 rfl Try.underlying24 rfl rfl ti3 rfl rfl rfl ?_
  refine TOps.load1 rfl ti3 (by first | exact Rd.lit (by repeat (first | exact List.Mem.head _ | apply List.Mem.tail)) rfl | (repeat (first | assumption | exact Rd.fld (by assumption) 0 rfl | apply Rd.up))) rfl ?_
  first | refine TOps.fieldB 1 rfl Try.underlying24 rfl rfl ti22 rfl rfl rfl ?_ | refine TOps.fieldN 1 rfl Try.underlying24 rfl rfl ti22 rfl rfl rfl ?_
  refine TOps.load1 rfl ti22 (by first | exact Rd.lit (by repeat (first | exact List.Mem.head _ | apply List.Mem.tail)) rfl | (repeat (first | assumption | exact Rd.fld (by assumption) 1 rfl | apply Rd.up))) rfl ?_
  refine TOps.len rfl Try.underlying22 rfl ?_
  refine TOps.add (r := ((v + nodes.length : Nat) : Int)) rfl rfl (by rw [wrapI (by omega) (by omega)]; omega) rfl ?_
  refine TOps.make1 rfl rfl Try.underlying68 ti4 (by omega) (by omega) (by omega) rfl (fun b15 => ?_)
  refine TOps.assign rfl rfl ?_
  refine TOps.next ?_
  refine Tri.seq (Tri.region ?_)
  refine TOps.move rfl rfl ?_
  refine TOps.move rfl rfl ?_
  refine TOps.indexAddr (off' := t) rfl rfl Try.underlying68 ti4 (by omega) (by omega) (by simp) rfl ?_
  refine TOps.store1 rfl rfl ti4 rfl rfl (by repeat (first | exact Upd.here | apply Upd.there)) (by first | decide | (simp; done) | (simp; omega)) ?_
  refine TOps.next ?_
  refine Tri.seq ?_
  refine Tri.seq (Tri.region ?_)
  first | refine TOps.fieldB 1 rfl Try.underlying24 rfl rfl ti22 rfl rfl rfl ?_ | refine TOps.fieldN 1 rfl Try.underlying24 rfl rfl ti22 rfl rfl rfl ?_
  refine TOps.load1 rfl ti22 (by first | exact Rd.lit (by repeat (first | exact List.Mem.head _ | apply List.Mem.tail)) rfl | (repeat (first | assumption | exact Rd.fld (by assumption) 1 rfl | apply Rd.up))) rfl ?_
  refine TOps.len rfl Try.underlying22 rfl ?_
  refine TOps.sub rfl rfl (wrapI (by omega) (by omega)) rfl ?_
  refine TOps.assign rfl rfl ?_
  refine TOps.next ?_
  refine Tri.block ?_
  refine Tri.loop (X := Nat × List Bool) (fun x => [(2, .pointer (some ⟨b2, 0, none⟩)), (5, slV (some b15) 0 (v + nodes.length) (v + nodes.length)), (6, .int .i64 ((x.1 : Int) - 1))]) (fun x => row (some b15) 4 1 (v + nodes.length) (bools x.2) :: H1) (fun x => x.1 ≤ nodes.length ∧ x.2.length = v + nodes.length ∧ belowL v nodes x.1 x.2 = res) (fun x => x.1) (nodes.length, (List.replicate (v + nodes.length) false).set t true) ⟨Nat.le_refl _, by simp, hbe⟩ ⟨rfl, rfl, rfl, trivial⟩ (Le.rowEq (by simp)) (fun x hp => ?_)
  obtain ⟨i, m⟩ := x
  obtain ⟨hp1, hp2, hp3⟩ := hp
  dsimp only at hp1 hp2 hp3 ⊢
  refine Tri.seq ?_
  refine Tri.seq (Tri.region ?_)
  refine TOps.move rfl rfl ?_
  refine TOps.geq rfl rfl rfl ?_
  refine TOps.next ?_
  refine Tri.cond rfl (fun hc1 => ?_) (fun hc1 => ?_)
  · try simp only [decide_eq_true_eq, decide_eq_false_iff_not, Bool.and_eq_true, Bool.or_eq_true, Bool.not_eq_true', Bool.and_eq_false_iff, Bool.or_eq_false_iff, Bool.not_eq_false', Int.not_lt, Int.not_le, ne_eq, Decidable.not_not, Option.isSome_iff_ne_none, Option.isNone_iff_eq_none] at hc1
    obtain ⟨i, rfl⟩ : ∃ j, i = j + 1 := ⟨i - 1, by omega⟩
    have hi : i < nodes.length := by omega
    have e1 : ((i + 1 : Nat) : Int) - 1 = i := by omega
    refine Tri.fin ?_
    refine Nrm.next ?_
    refine Tri.seq ?_
    refine Tri.block ?_
    refine Tri.seq (Tri.region ?_)
    refine TOps.move rfl rfl ?_
    refine TOps.field0 rfl Try.underlying24 rfl rfl ti3 rfl rfl rfl ?_
    refine TOps.load1 rfl ti3 (by first | exact Rd.lit (by repeat (first | exact List.Mem.head _ | apply List.Mem.tail)) rfl | (repeat (first | assumption | exact Rd.fld (by assumption) 0 rfl | apply Rd.up))) rfl ?_
    refine TOps.move rfl rfl ?_
    refine TOps.add (r := ((v + i : Nat) : Int)) rfl rfl (by rw [wrapI (by omega) (by omega)]; omega) rfl ?_
    refine TOps.indexAddr (off' := v + i) rfl rfl Try.underlying68 ti4 (by omega) (by omega) (by omega) rfl ?_
    refine TOps.load1 (v := .bool (m.getD (v + i) false)) rfl ti4 (Rd.lit (List.Mem.head _) (bools_get (by omega))) rfl ?_
    refine TOps.next ?_
    refine Tri.cond rfl (fun hc2 => ?_) (fun hc2 => ?_)
    · try simp only [decide_eq_true_eq, decide_eq_false_iff_not, Bool.and_eq_true, Bool.or_eq_true, Bool.not_eq_true', Bool.and_eq_false_iff, Bool.or_eq_false_iff, Bool.not_eq_false', Int.not_lt, Int.not_le, ne_eq, Decidable.not_not, Option.isSome_iff_ne_none, Option.isNone_iff_eq_none] at hc2
      refine Tri.seq (Tri.region ?_)
      obtain ⟨nb, aa, ao, acap, asp, rfl, rfl, hn⟩ := hN.at hi
      have hfi := hfit i hi
      have hcells := hn.cells
      have hal := hfi.len
      first | refine TOps.fieldB 1 rfl Try.underlying24 rfl rfl ti22 rfl rfl rfl ?_ | refine TOps.fieldN 1 rfl Try.underlying24 rfl rfl ti22 rfl rfl rfl ?_
      refine TOps.load1 rfl ti22 (by first | exact Rd.lit (by repeat (first | exact List.Mem.head _ | apply List.Mem.tail)) rfl | (repeat (first | assumption | exact Rd.fld (by assumption) 1 rfl | apply Rd.up))) rfl ?_
      refine TOps.move rfl rfl ?_
      refine TOps.indexAddr (off' := noff + i * 3) rfl rfl Try.underlying22 ti66 (by omega) (by omega) (by rw [e1]; simp) rfl ?_
      refine TOps.fieldN 2 rfl Try.underlying66 rfl rfl ti50 rfl rfl rfl ?_
      refine TOps.load1 rfl ti50 (Rd.up (hcells.part 2 rfl)) rfl ?_
      refine TOps.len rfl Try.underlying50 rfl ?_
      refine TOps.move rfl rfl ?_
      refine TOps.next ?_
      refine Tri.range (X := Unit) (fun y j => [(2, .pointer (some ⟨b2, 0, none⟩)), (5, slV (some b15) 0 (v + nodes.length) (v + nodes.length)), (6, .int .i64 (((i + 1 : Nat) : Int) - 1)), (39, slV aa ao nodes[i].args.length acap asp)]) (fun y j => row (some b15) 4 1 (v + nodes.length) (bools (markArgs m (nodes[i].args.take j))) :: H1) (fun y j => True) (by omega) rfl rfl rfl (fun _ _ => ⟨rfl, rfl, rfl, rfl⟩) () trivial ⟨rfl, rfl, rfl, rfl, trivial⟩ (by repeat (first | exact Le.refl _ | assumption | apply Le.drop)) (fun j y hltj hpj => ?_) (fun y ac wc hpj hS hM => ?_)
      · skip
        obtain ⟨ab, rfl, rfl, ha⟩ := hn.args.at hltj
        have hb := hfi.args _ (List.getElem_mem hltj)
        have hml := markArgs_length (nodes[i].args.take j) m
        refine Tri.seq (Tri.region ?_)
        refine TOps.indexAddr (off' := ao + j) rfl rfl Try.underlying50 ti3 (by omega) (by omega) (by simp) rfl ?_
        refine TOps.load1 rfl ti3 (by first | exact Rd.lit (by repeat (first | exact List.Mem.head _ | apply List.Mem.tail)) rfl | (repeat (first | assumption | apply Rd.up))) rfl ?_
        refine TOps.assign rfl rfl ?_
        refine TOps.next ?_
        refine Tri.region ?_
        refine TOps.move rfl rfl ?_
        refine TOps.move rfl rfl ?_
        refine TOps.indexAddr (off' := nodes[i].args[j].toNat) rfl rfl Try.underlying68 ti4 (by omega) (by omega) (by simp) rfl ?_
        refine TOps.store1 rfl rfl ti4 rfl rfl Upd.here (by simp; omega) ?_
        refine TOps.fin ?_
        refine Nrm.body () trivial ⟨rfl, rfl, rfl, rfl, rfl, rfl, trivial⟩ (Le.rowEq (by rw [markArgs_take_succ hltj]; simp [bools]))
      rw [List.take_length] at hM
      refine Nrm.of hS hM ?_
      refine Nrm.unB ?_
      refine Nrm.next ?_
      refine Tri.region ?_
      refine TOps.move rfl rfl ?_
      refine TOps.sub rfl rfl (wrapI (by omega) (by omega)) rfl ?_
      refine TOps.assign rfl rfl ?_
      refine TOps.fin ?_
      refine Nrm.loop (i, bif m.getD (v + i) false then markArgs m (nodes.getD i ⟨0, 0, []⟩).args else m) ⟨by simp only; omega, by cases m.getD (v + i) false <;> simp [markArgs_length, hp2], hp3⟩ (by simp) ⟨rfl, rfl, (by refine congrArg (fun z : Int => some (Value.int .i64 z)) ?_; simp), trivial⟩ (by rw [show nodes.getD i ⟨0, 0, []⟩ = nodes[i] from by simp [hi], hc2]; exact Le.refl _)
    try simp only [decide_eq_true_eq, decide_eq_false_iff_not, Bool.and_eq_true, Bool.or_eq_true, Bool.not_eq_true', Bool.and_eq_false_iff, Bool.or_eq_false_iff, Bool.not_eq_false', Int.not_lt, Int.not_le, ne_eq, Decidable.not_not, Option.isSome_iff_ne_none, Option.isNone_iff_eq_none] at hc2
    refine Tri.fin ?_
    refine Nrm.unB ?_
    refine Nrm.next ?_
    refine Tri.region ?_
    refine TOps.move rfl rfl ?_
    refine TOps.sub rfl rfl (wrapI (by omega) (by omega)) rfl ?_
    refine TOps.assign rfl rfl ?_
    refine TOps.fin ?_
    refine Nrm.loop (i, bif m.getD (v + i) false then markArgs m (nodes.getD i ⟨0, 0, []⟩).args else m) ⟨by simp only; omega, by cases m.getD (v + i) false <;> simp [markArgs_length, hp2], hp3⟩ (by simp) ⟨rfl, rfl, (by refine congrArg (fun z : Int => some (Value.int .i64 z)) ?_; simp), trivial⟩ (by rw [show nodes.getD i ⟨0, 0, []⟩ = nodes[i] from by simp [hi], hc2]; exact Le.refl _)
  try simp only [decide_eq_true_eq, decide_eq_false_iff_not, Bool.and_eq_true, Bool.or_eq_true, Bool.not_eq_true', Bool.and_eq_false_iff, Bool.or_eq_false_iff, Bool.not_eq_false', Int.not_lt, Int.not_le, ne_eq, Decidable.not_not, Option.isSome_iff_ne_none, Option.isNone_iff_eq_none] at hc1
  obtain rfl : i = 0 := by omega
  have hp3' : m = res := hp3
  subst hp3'
  first | refine Tri.exitW ?_ | (refine Tri.exitTo ?_; repeat (with_reducible first | refine ExitTo.blk ?_ | refine ExitTo.blkNe rfl ?_ | refine ExitTo.body ?_ | refine ExitTo.brk rfl ?_ | refine ExitTo.bodyNe rfl rfl ?_ | refine ExitTo.seq ?_ | refine ExitTo.loop ?_))
  refine Nrm.next ?_
  refine Tri.seq (Tri.region ?_)
  refine TOps.move rfl rfl ?_
  refine TOps.assign rfl rfl ?_
  refine TOps.next ?_
  refine Tri.ret1 (H' := _) Try.results35 (fun _ _ h => h) (.tmp rfl) (Le.consOf s1) ⟨b15, v + nodes.length, rfl, rfl⟩
theorem image_g {H : List Ent} {d : Nd} {a sp : Option Nat} {o cap tb tcap m : Nat} {to : List Nat} (hm : to.length = m) (hn : RInts H a o d.args sp) (hr : Rd H tb 0 (nats to)) (hl : d.args.length ≤ 1000) (htl : to.length ≤ 1000000)
    (hb : ∀ x ∈ d.args, 0 ≤ x ∧ x.toNat < to.length) :
    Gives Try.prog 36 [.agg (List.toArray [.int .i64 d.kind, .int .i64 d.k, slV a o d.args.length cap sp]), slV (some tb) 0 m tcap] H (fun u H' => ∃ a' cap', u = .agg (List.toArray [.int .i64 d.kind, .int .i64 d.k, slV a' 0 d.args.length cap']) ∧ (ints (trA to d.args) ≠ [] → ∃ b, a' = some b) ∧ row a' 3 1 cap' (ints (trA to d.args)) :: H = H') := by
  subst hm
  refine Gives.enter Try.func36 rfl (by exact Try.ntmps36) rfl ?_
  refine Tri.seq (Tri.region ?_)
  refine TOps.boxN rfl ti66 rfl rfl (fun b2 => ?_)
  refine TOps.hide (fun H1 l1 s1 r1 => ?_)
  replace hn := RdS.le hn l1; replace hr := hr.le l1
  refine TOps.alloc ti66 rfl (fun b4 => ?_)
  refine TOps.next ?_
  refine Tri.seq (Tri.region ?_)
  refine TOps.assign rfl rfl ?_
  refine TOps.next ?_
  refine Tri.seq ?_
  refine Tri.seq (Tri.region ?_)
  first | refine TOps.fieldB 2 rfl Try.underlying66 rfl rfl ti50 rfl rfl rfl ?_ | refine TOps.fieldN 2 rfl Try.underlying66 rfl rfl ti50 rfl rfl rfl ?_
  refine TOps.load1 rfl ti50 (by first | exact Rd.lit (by repeat (first | exact List.Mem.head _ | apply List.Mem.tail)) rfl | (repeat (first | assumption | exact Rd.fld (by assumption) 2 rfl | apply Rd.up))) rfl ?_
  refine TOps.len rfl Try.underlying50 rfl ?_
  refine TOps.move rfl rfl ?_
  refine TOps.next ?_
  refine Tri.range (X := Option Nat × Nat) (fun y j => [(1, slV (some tb) 0 to.length tcap), (2, .pointer (some ⟨b2, 0, none⟩)), (4, .pointer (some ⟨b4, 0, none⟩)), (5, slV y.1 0 j y.2), (9, slV a o d.args.length cap sp)]) (fun y j => row y.1 3 1 y.2 (ints (trA to (d.args.take j))) :: row (some b4) 66 3 1 [.int .i64 0, .int .i64 0, slV none 0 0 0] :: H1) (fun y j => j ≠ 0 → ∃ b, y.1 = some b) (by omega) rfl rfl rfl (fun _ _ => ⟨rfl, rfl, rfl, rfl⟩) (none, 0) (fun h => absurd rfl h) ⟨rfl, rfl, rfl, rfl, rfl, trivial⟩ Le.addNil (fun j y hltj hpj => ?_) (fun y ac wc hpj hS hM => ?_)
  · skip
    obtain ⟨ab, rfl, rfl, ha⟩ := RInts.at hn hltj
    have hbj := hb _ (List.getElem_mem hltj)
    refine Tri.seq (Tri.region ?_)
    refine TOps.indexAddr (off' := o + j) rfl rfl Try.underlying50 ti3 (by omega) (by omega) (by simp) rfl ?_
    refine TOps.load1 rfl ti3 (by first | exact Rd.lit (by repeat (first | exact List.Mem.head _ | apply List.Mem.tail)) rfl | (repeat (first | assumption | apply Rd.up))) rfl ?_
    refine TOps.assign rfl rfl ?_
    refine TOps.next ?_
    refine Tri.region ?_
    refine TOps.move rfl rfl ?_
    refine TOps.move rfl rfl ?_
    refine TOps.move rfl rfl ?_
    refine TOps.indexAddr (off' := d.args[j].toNat) rfl rfl Try.underlying50 ti3 (by omega) (by omega) (by simp) rfl ?_
    refine TOps.load1 (v := .int .i64 (to.getD d.args[j].toNat 0 : Nat)) rfl ti3 (Rd.up (Rd.up (by have := hr.part d.args[j].toNat (nats_get (by omega)); rwa [Nat.zero_add] at this))) rfl ?_
    refine TOps.buildSlice (vs := [_]) (xs := [_]) Try.underlying50 ti3 ⟨rfl, rfl, trivial⟩ rfl rfl rfl rfl rfl rfl (by decide) rfl (fun b20 => ?_)
    refine TOps.appendLit rfl rfl Try.underlying50 ti3 rfl (fun _ _ => (by repeat (first | exact Upd.here | apply Upd.there))) rfl (by simp [trA_length]; omega) rfl (by omega) (by omega) (by simp) rfl (fun b21 cap21 => ?_)
    refine TOps.assign rfl rfl ?_
    refine TOps.fin ?_
    refine Nrm.body (some b21, cap21) (fun _ => ⟨_, rfl⟩) ⟨rfl, rfl, rfl, rfl, rfl, rfl, rfl, trivial⟩ (Sp.le (by repeat (first | exact Sp.refl _ | exact Sp.sub (by assumption) | refine Sp.cons (by repeat (first | exact Pick.here | exact Pick.row (by (rw [trA_take_succ hltj]; simp [ints])) | apply Pick.there)) ?_ | exact Sp.nil | apply Sp.skip)))
  rw [List.take_length] at hM
  refine Nrm.of hS hM ?_
  refine Nrm.next ?_
  refine Tri.seq (Tri.region ?_)
  refine TOps.field0 rfl Try.underlying66 rfl rfl ti3 rfl rfl rfl ?_
  refine TOps.load1 rfl ti3 (by first | exact Rd.lit (by repeat (first | exact List.Mem.head _ | apply List.Mem.tail)) rfl | (repeat (first | assumption | exact Rd.fld (by assumption) 0 rfl | apply Rd.up))) rfl ?_
  first | refine TOps.fieldB 1 rfl Try.underlying66 rfl rfl ti3 rfl rfl rfl ?_ | refine TOps.fieldN 1 rfl Try.underlying66 rfl rfl ti3 rfl rfl rfl ?_
  refine TOps.load1 rfl ti3 (by first | exact Rd.lit (by repeat (first | exact List.Mem.head _ | apply List.Mem.tail)) rfl | (repeat (first | assumption | exact Rd.fld (by assumption) 1 rfl | apply Rd.up))) rfl ?_
  refine TOps.move rfl rfl ?_
  refine TOps.buildStruct (vs := [(0, _), (1, _), (2, _)]) (xs := [_, _, _]) [(0, 1), (1, 1), (2, 1)] Try.underlying66 ti66 (fun w => by simp) ⟨rfl, rfl, rfl, rfl, rfl, rfl, trivial⟩ rfl rfl ?_
  refine TOps.storeN rfl rfl ti66 rfl rfl (by repeat (first | exact Upd.here | apply Upd.there)) (by first | decide | (simp; done) | (simp; omega)) ?_
  refine TOps.next ?_
  refine Tri.ret1 (H' := row y.1 3 1 y.2 (ints (trA to d.args)) :: H) Try.results36 (fun _ _ h => h) (.cellN rfl rfl ti66 (Rd.all (by repeat (first | exact List.Mem.head _ | apply List.Mem.tail))) rfl) ?_ ⟨y.1, y.2, rfl, fun h => hpj (fun h0 => h (by rw [List.eq_nil_of_length_eq_zero h0]; rfl)), rfl⟩
  exact (Sp.le (by repeat (first | exact Sp.refl _ | exact Sp.sub (by assumption) | refine Sp.cons (by repeat (first | exact Pick.here | apply Pick.there)) ?_ | exact Sp.nil | apply Sp.skip)))
end Go.Proofs
