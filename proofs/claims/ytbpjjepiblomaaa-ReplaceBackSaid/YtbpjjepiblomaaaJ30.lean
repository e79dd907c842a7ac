import Derived.Test.YtbpjjepiblomaaaF30
import Derived.Test.YtbpjjepiblomaaaGL54
namespace Go.Proofs
open Go.GL
set_option linter.unusedVariables false
set_option linter.unusedSimpArgs false
theorem chosen_g {H : List Ent} {fv : Value} {F : Fm} (hF : RF H fv F) (hg : F.Good) {keep : List Bool} {kb kcap v vars top : Nat} {sp : Int} (hkl : keep.length = F.nodes.length) (hrk : Rd H kb 0 (bools keep)) (hvn : F.vars.toNat = v) (hvr : vars ≤ 25)
    (hsp : sp < 0 ∨ 1 ≤ vars) (ht : top < v + F.nodes.length) {G : Fm} (hG : chF keep v vars sp F.nodes top = G) :
    Gives Try.prog 43 [fv, slV (some kb) 0 F.nodes.length kcap, .int .i64 vars, .int .i64 sp, .int .i64 top] H (NewN G H) := by
  obtain ⟨na, off, cap, nsp, rfl, hN⟩ := hF
  have g0 := hg.v0; have g1 := hg.v1; have g2 := hg.n1
  have hv : F.vars = (v : Int) := by omega
  have hln := fun k => chS_len (keep := keep) (v := v) (vars := vars) (sp := sp) (nodes := F.nodes) k
  rw [hv]
  subst hG
  refine Gives.enter Try.func43 rfl (by exact Try.ntmps43) rfl ?_
  refine Tri.seq (Tri.region ?_)
  refine TOps.boxN rfl ti24 rfl rfl (fun b5 => ?_)
  refine TOps.hide (fun H1 l1 s1 r1 => ?_)
  replace hN := hN.le l1; replace hrk := hrk.le l1
  refine TOps.alloc ti24 rfl (fun b10 => ?_)
  refine TOps.next ?_
  refine Tri.seq (Tri.region ?_)
  refine TOps.move rfl rfl ?_
  refine TOps.buildStruct (vs := [(0, _)]) (xs := [_, _, _]) [(0, 1), (1, 1), (2, 1)] Try.underlying24 ti24 (fun w => by simp) ⟨rfl, rfl, trivial⟩ rfl rfl ?_
  refine TOps.alloc ti24 rfl (fun b11 => ?_)
  refine TOps.storeN rfl rfl ti24 rfl rfl (by repeat (first | exact Upd.here | apply Upd.there)) (by first | decide | (simp; done) | (simp; omega)) ?_
  refine TOps.next ?_
  refine Tri.seq (Tri.region ?_)
  refine TOps.field0 rfl Try.underlying24 rfl rfl ti3 rfl rfl rfl ?_
  refine TOps.load1 rfl ti3 (by first | exact Rd.lit (by repeat (first | exact List.Mem.head _ | apply List.Mem.tail)) rfl | (repeat (first | assumption | exact Rd.fld (by assumption) 0 rfl | apply Rd.up))) rfl ?_
  first | refine TOps.fieldB 1 rfl Try.underlying24 rfl rfl ti22 rfl rfl rfl ?_ | refine TOps.fieldN 1 rfl Try.underlying24 rfl rfl ti22 rfl rfl rfl ?_
  refine TOps.load1 rfl ti22 (by first | exact Rd.lit (by repeat (first | exact List.Mem.head _ | apply List.Mem.tail)) rfl | (repeat (first | assumption | exact Rd.fld (by assumption) 1 rfl | apply Rd.up))) rfl ?_
  refine TOps.len rfl Try.underlying22 rfl ?_
  refine TOps.add (r := ((v + F.nodes.length : Nat) : Int)) rfl rfl (by rw [wrapI (by omega) (by omega)]; omega) rfl ?_
  refine TOps.make1 rfl rfl Try.underlying50 ti3 (by omega) (by omega) (by omega) rfl (fun b26 => ?_)
  refine TOps.assign rfl rfl ?_
  refine TOps.next ?_
  refine Tri.seq ?_
  refine Tri.seq (Tri.region ?_)
  refine TOps.move rfl rfl ?_
  refine TOps.len rfl Try.underlying50 rfl ?_
  refine TOps.move rfl rfl ?_
  refine TOps.next ?_
  refine Tri.range (X := (Option Nat × Nat) × List SA × List Ent) (fun z k => [(1, slV (some kb) 0 F.nodes.length kcap), (2, .int .i64 vars), (3, .int .i64 sp), (4, .int .i64 top), (5, .pointer (some ⟨b5, 0, none⟩)), (10, .pointer (some ⟨b10, 0, none⟩)), (11, .pointer (some ⟨b11, 0, none⟩)), (12, slV (some b26) 0 (v + F.nodes.length) (v + F.nodes.length))]) (fun z k => row (some b11) 24 3 1 [.int .i64 vars, slV z.1.1 0 (chS keep v vars sp F.nodes k).2.length z.1.2, .int .i64 0] :: row z.1.1 66 3 z.1.2 (nsCells (chS keep v vars sp F.nodes k).2 z.2.1) :: row (some b26) 3 1 (v + F.nodes.length) (nats (chS keep v vars sp F.nodes k).1) :: row (some b10) 24 3 1 [.int .i64 0, slV none 0 0 0, .int .i64 0] :: (z.2.2 ++ H1)) (fun z k => ArgsIn z.2.2 (chS keep v vars sp F.nodes k).2 z.2.1 ∧ ((chS keep v vars sp F.nodes k).2 ≠ [] → ∃ b, z.1.1 = some b)) (by omega) rfl rfl rfl (fun _ _ => ⟨rfl, rfl, rfl, rfl⟩) ((none, 0), [], []) ⟨ArgsIn.nil, fun h => absurd rfl h⟩ ⟨rfl, rfl, rfl, rfl, rfl, rfl, rfl, rfl, trivial⟩ (Le.addNil.trans (Sp.le (by repeat (first | exact Sp.refl _ | exact Sp.sub (by assumption) | refine Sp.cons (by repeat (first | exact Pick.here | exact Pick.row (by simp [chS]) | apply Pick.there)) ?_ | exact Sp.nil | apply Sp.skip)))) (fun k z hlt hp => ?_) (fun z ac wc hp hS hM => ?_)
  · skip
    obtain ⟨⟨oa, ocap⟩, qs, H3⟩ := z
    obtain ⟨hp3, hp4⟩ := hp
    dsimp only at hp3 hp4 ⊢
    have hp1 : Le (H3 ++ H1) H1 := Le.sub (List.sublist_append_right _ _)
    have hN' := hN.le hp1; have hrk' := hrk.le hp1; have r1' := r1.le hp1
    have hlk := hln k
    obtain ⟨⟨to, no⟩, hs⟩ : ∃ s, chS keep v vars sp F.nodes k = s := ⟨_, rfl⟩
    rw [hs] at hp3 hp4 hlk
    rw [hs]
    dsimp only at hp3 hp4 hlk ⊢
    obtain ⟨hl1, hl2⟩ := hlk
    obtain ⟨TO, hTO⟩ : ∃ TO, TO = to.set k k := ⟨_, rfl⟩
    have hTl : TO.length = v + F.nodes.length := by rw [hTO, List.length_set, hl1]
    refine Tri.seq (Tri.region ?_)
    refine TOps.move rfl rfl ?_
    refine TOps.assign rfl rfl ?_
    refine TOps.next ?_
    refine Tri.seq (Tri.region ?_)
    refine TOps.move rfl rfl ?_
    refine TOps.move rfl rfl ?_
    refine TOps.move rfl rfl ?_
    refine TOps.indexAddr (off' := k) rfl rfl Try.underlying50 ti3 (by omega) (by omega) (by omega) rfl ?_
    refine TOps.store1 rfl rfl ti3 rfl rfl (by repeat (first | exact Upd.here | apply Upd.there)) (by simp; omega) ?_
    refine TOps.next ?_
    refine Tri.seq ?_
    refine Tri.seq (Tri.region ?_)
    refine TOps.move rfl rfl ?_
    refine TOps.field0 rfl Try.underlying24 rfl rfl ti3 rfl rfl rfl ?_
    refine TOps.load1 rfl ti3 (by first | exact Rd.lit (by repeat (first | exact List.Mem.head _ | apply List.Mem.tail)) rfl | (repeat (first | assumption | exact Rd.fld (by assumption) 0 rfl | apply Rd.up))) rfl ?_
    refine TOps.geq rfl rfl rfl ?_
    refine TOps.move rfl rfl ?_
    refine' TOps.andB 7 rfl rfl rfl rfl (fun hg7_4 => ?_) ?_; rotate_left
    · have hg7_4' := hg7_4
      try simp only [decide_eq_true_eq, decide_eq_false_iff_not, Bool.and_eq_true, Bool.or_eq_true, Bool.not_eq_true', Bool.and_eq_false_iff, Bool.or_eq_false_iff, Bool.not_eq_false', Int.not_lt, Int.not_le, ne_eq, Decidable.not_not] at hg7_4'
      refine TOps.strip 4 true rfl rfl hg7_4 rfl ?_
      refine TOps.move rfl rfl ?_
      refine TOps.move rfl rfl ?_
      refine TOps.field0 rfl Try.underlying24 rfl rfl ti3 rfl rfl rfl ?_
      refine TOps.load1 rfl ti3 (by first | exact Rd.lit (by repeat (first | exact List.Mem.head _ | apply List.Mem.tail)) rfl | (repeat (first | assumption | exact Rd.fld (by assumption) 0 rfl | apply Rd.up))) rfl ?_
      refine TOps.sub (r := ((k - v : Nat) : Int)) rfl rfl (by rw [wrapI (by omega) (by omega)]; omega) rfl ?_
      refine TOps.indexAddr (off' := k - v) rfl rfl Try.underlying68 ti4 (by omega) (by omega) (by omega) rfl ?_
      refine TOps.load1 (v := .bool (keep.getD (k - v) false)) rfl ti4 (by have := hrk'.part (k - v) (bools_get (by omega)); rw [Nat.zero_add] at this; repeat (first | exact this | apply Rd.up)) rfl ?_
      refine TOps.blk rfl (by repeat (first | exact Ext.refl _ | refine Ext.cons rfl ?_)) (by repeat (first | exact Le.refl _ | apply Le.drop))
    refine TOps.next ?_
    refine Tri.cond rfl (fun hc1 => ?_) (fun hc1 => ?_)
    · try simp only [decide_eq_true_eq, decide_eq_false_iff_not, Bool.and_eq_true, Bool.or_eq_true, Bool.not_eq_true', Bool.and_eq_false_iff, Bool.or_eq_false_iff, Bool.not_eq_false', Int.not_lt, Int.not_le, ne_eq, Decidable.not_not, Option.isSome_iff_ne_none, Option.isNone_iff_eq_none] at hc1
      have hvk : v ≤ k := by omega
      have hkn : k - v < F.nodes.length := by omega
      have hc1d : (decide (v ≤ k) && keep.getD (k - v) false) = true := by rw [decide_eq_true hvk, hc1.2]; rfl
      obtain ⟨nb, aa, ao, acap, asp, rfl, rfl, hn⟩ := hN'.at hkn
      have hfi := hg.fits (k - v) hkn
      have hcells := hn.cells
      have hal := hfi.len
      have hat := hfi.args
      obtain ⟨d, hd⟩ : ∃ d, d = F.nodes[k - v] := ⟨_, rfl⟩
      rw [← hd] at hcells hn hal hat
      have hgd : F.nodes.getD (k - v) ⟨0, 0, []⟩ = d := by rw [hd]; simp [hkn]
      refine Tri.seq (Tri.region ?_)
      first | refine TOps.fieldB 1 rfl Try.underlying24 rfl rfl ti22 rfl rfl rfl ?_ | refine TOps.fieldN 1 rfl Try.underlying24 rfl rfl ti22 rfl rfl rfl ?_
      refine TOps.load1 rfl ti22 (by first | exact Rd.lit (by repeat (first | exact List.Mem.head _ | apply List.Mem.tail)) rfl | (repeat (first | assumption | exact Rd.fld (by assumption) 1 rfl | apply Rd.up))) rfl ?_
      refine TOps.move rfl rfl ?_
      refine TOps.field0 rfl Try.underlying24 rfl rfl ti3 rfl rfl rfl ?_
      refine TOps.load1 rfl ti3 (by first | exact Rd.lit (by repeat (first | exact List.Mem.head _ | apply List.Mem.tail)) rfl | (repeat (first | assumption | exact Rd.fld (by assumption) 0 rfl | apply Rd.up))) rfl ?_
      refine TOps.sub (r := ((k - v : Nat) : Int)) rfl rfl (by rw [wrapI (by omega) (by omega)]; omega) rfl ?_
      refine TOps.indexAddr (off' := off + (k - v) * 3) rfl rfl Try.underlying22 ti66 (by omega) (by omega) (by simp) rfl ?_
      refine TOps.loadN (vs := [.int .i64 d.kind, .int .i64 d.k, slV aa ao d.args.length acap asp]) rfl ti66 (by repeat (first | exact hcells | apply Rd.up)) rfl rfl ?_
      refine TOps.alloc ti66 rfl (fun b14 => ?_)
      refine TOps.storeN rfl rfl ti66 rfl rfl (by repeat (first | exact Upd.here | apply Upd.there)) (by first | decide | (simp; done) | (simp; omega)) ?_
      refine TOps.next ?_
      refine Tri.seq (Tri.region ?_)
      refine TOps.assign rfl rfl ?_
      refine TOps.next ?_
      refine Tri.seq ?_
      refine Tri.seq (Tri.region ?_)
      first | refine TOps.fieldB 2 rfl Try.underlying66 rfl rfl ti50 rfl rfl rfl ?_ | refine TOps.fieldN 2 rfl Try.underlying66 rfl rfl ti50 rfl rfl rfl ?_
      refine TOps.load1 rfl ti50 (by first | exact Rd.lit (by repeat (first | exact List.Mem.head _ | apply List.Mem.tail)) rfl | (repeat (first | assumption | exact Rd.fld (by assumption) 2 rfl | apply Rd.up))) rfl ?_
      refine TOps.len rfl Try.underlying50 rfl ?_
      refine TOps.move rfl rfl ?_
      refine TOps.next ?_
      refine Tri.range (X := Option Nat × Nat) (fun y j => [(1, slV (some kb) 0 F.nodes.length kcap), (2, .int .i64 vars), (3, .int .i64 sp), (4, .int .i64 top), (5, .pointer (some ⟨b5, 0, none⟩)), (10, .pointer (some ⟨b10, 0, none⟩)), (11, .pointer (some ⟨b11, 0, none⟩)), (12, slV (some b26) 0 (v + F.nodes.length) (v + F.nodes.length)), (28, .int .i64 ((v + F.nodes.length : Nat) : Int)), (29, .int .i64 k), (13, .int .i64 k), (14, .pointer (some ⟨b14, 0, none⟩)), (15, slV y.1 0 j y.2), (58, slV aa ao d.args.length acap asp)]) (fun y j => row y.1 3 1 y.2 (ints (trA TO (d.args.take j))) :: row (some b14) 66 3 1 [.int .i64 d.kind, .int .i64 d.k, slV aa ao d.args.length acap asp] :: row (some b11) 24 3 1 [.int .i64 vars, slV oa 0 no.length ocap, .int .i64 0] :: row oa 66 3 ocap (nsCells no qs) :: row (some b26) 3 1 (v + F.nodes.length) (nats TO) :: row (some b10) 24 3 1 [.int .i64 0, slV none 0 0 0, .int .i64 0] :: (H3 ++ H1)) (fun y j => j ≠ 0 → ∃ b, y.1 = some b) (by omega) rfl rfl rfl (fun _ _ => ⟨rfl, rfl, rfl, rfl⟩) (none, 0) (fun h => absurd rfl h) ⟨rfl, rfl, rfl, rfl, rfl, rfl, rfl, rfl, rfl, rfl, rfl, rfl, rfl, rfl, trivial⟩ (Le.addNil.trans (Sp.le (by repeat (first | exact Sp.refl _ | exact Sp.sub (by assumption) | refine Sp.cons (by repeat (first | exact Pick.here | exact Pick.row (by (rw [hTO, nats_set]; done)) | apply Pick.there)) ?_ | exact Sp.nil | apply Sp.skip)))) (fun j y hltj hpj => ?_) (fun y ac wc hpj hS hM => ?_)
      · skip
        obtain ⟨ab, rfl, rfl, ha⟩ := RInts.at hn.args hltj
        have hb := hat _ (List.getElem_mem hltj)
        refine Tri.seq (Tri.region ?_)
        refine TOps.indexAddr (off' := ao + j) rfl rfl Try.underlying50 ti3 (by omega) (by omega) (by simp) rfl ?_
        refine TOps.load1 rfl ti3 (by first | exact Rd.lit (by repeat (first | exact List.Mem.head _ | apply List.Mem.tail)) rfl | (repeat (first | assumption | apply Rd.up))) rfl ?_
        refine TOps.assign rfl rfl ?_
        refine TOps.next ?_
        refine Tri.region ?_
        refine TOps.move rfl rfl ?_
        refine TOps.move rfl rfl ?_
        refine TOps.move rfl rfl ?_
        refine TOps.indexAddr (off' := d.args[j].toNat) rfl rfl Try.underlying50 ti3 (by omega) (by omega) (by omega) rfl ?_
        refine TOps.load1 (v := .int .i64 (TO.getD d.args[j].toNat 0 : Nat)) rfl ti3 (Rd.lit (by repeat (first | exact List.Mem.head _ | apply List.Mem.tail)) (nats_get (by omega))) rfl ?_
        refine TOps.buildSlice (vs := [_]) (xs := [_]) Try.underlying50 ti3 ⟨rfl, rfl, trivial⟩ rfl rfl rfl rfl rfl rfl (by decide) rfl (fun b69 => ?_)
        refine TOps.appendLit rfl rfl Try.underlying50 ti3 rfl (fun _ _ => Upd.here) rfl (by simp [trA_length]; omega) rfl (by omega) (by omega) (by simp) rfl (fun b70 cap70 => ?_)
        refine TOps.assign rfl rfl ?_
        refine TOps.fin ?_
        refine Nrm.body (some b70, cap70) (fun _ => ⟨_, rfl⟩) ⟨rfl, rfl, rfl, rfl, rfl, rfl, rfl, rfl, rfl, rfl, rfl, rfl, rfl, rfl, rfl, rfl, trivial⟩ (Le.rowEq (by rw [trA_take_succ hltj]; simp [ints]))
      rw [List.take_length] at hM
      refine Nrm.of hS hM ?_
      refine Nrm.next ?_
      refine Tri.seq (Tri.region ?_)
      refine TOps.move rfl rfl ?_
      refine TOps.move rfl rfl ?_
      refine TOps.move rfl rfl ?_
      first | refine TOps.fieldB 1 rfl Try.underlying24 rfl rfl ti22 rfl rfl rfl ?_ | refine TOps.fieldN 1 rfl Try.underlying24 rfl rfl ti22 rfl rfl rfl ?_
      refine TOps.load1 rfl ti22 (by first | exact Rd.lit (by repeat (first | exact List.Mem.head _ | apply List.Mem.tail)) rfl | (repeat (first | assumption | exact Rd.fld (by assumption) 1 rfl | apply Rd.up))) rfl ?_
      refine TOps.len rfl Try.underlying22 rfl ?_
      refine TOps.add (r := ((vars + no.length : Nat) : Int)) rfl rfl (by rw [wrapI (by omega) (by omega)]; omega) rfl ?_
      refine TOps.indexAddr (off' := k) rfl rfl Try.underlying50 ti3 (by omega) (by omega) (by omega) rfl ?_
      refine TOps.store1 rfl rfl ti3 rfl rfl (by repeat (first | exact Upd.here | apply Upd.there)) (by simp; omega) ?_
      refine TOps.next ?_
      refine Tri.region ?_
      first | refine TOps.fieldB 1 rfl Try.underlying24 rfl rfl ti22 rfl rfl rfl ?_ | refine TOps.fieldN 1 rfl Try.underlying24 rfl rfl ti22 rfl rfl rfl ?_
      refine TOps.load1 rfl ti22 (by first | exact Rd.lit (by repeat (first | exact List.Mem.head _ | apply List.Mem.tail)) rfl | (repeat (first | assumption | exact Rd.fld (by assumption) 1 rfl | apply Rd.up))) rfl ?_
      refine TOps.field0 rfl Try.underlying66 rfl rfl ti3 rfl rfl rfl ?_
      refine TOps.load1 rfl ti3 (by first | exact Rd.lit (by repeat (first | exact List.Mem.head _ | apply List.Mem.tail)) rfl | (repeat (first | assumption | exact Rd.fld (by assumption) 0 rfl | apply Rd.up))) rfl ?_
      first | refine TOps.fieldB 1 rfl Try.underlying66 rfl rfl ti3 rfl rfl rfl ?_ | refine TOps.fieldN 1 rfl Try.underlying66 rfl rfl ti3 rfl rfl rfl ?_
      refine TOps.load1 rfl ti3 (by first | exact Rd.lit (by repeat (first | exact List.Mem.head _ | apply List.Mem.tail)) rfl | (repeat (first | assumption | exact Rd.fld (by assumption) 1 rfl | apply Rd.up))) rfl ?_
      refine TOps.move rfl rfl ?_
      refine TOps.buildStruct (vs := [(0, _), (1, _), (2, _)]) (xs := [_, _, _]) [(0, 1), (1, 1), (2, 1)] Try.underlying66 ti66 (fun w => by simp) ⟨rfl, rfl, rfl, rfl, rfl, rfl, trivial⟩ rfl rfl ?_
      refine TOps.buildSlice (vs := [_]) (xs := [_, _, _]) Try.underlying22 ti66 ⟨rfl, rfl, trivial⟩ rfl rfl rfl rfl rfl rfl (by decide) rfl (fun b88 => ?_)
      refine TOps.appendLit rfl rfl Try.underlying22 ti66 rfl (fun _ _ => (by repeat (first | exact Upd.here | apply Upd.there))) rfl (by rw [nsCells_length _ _ hp3.1]) rfl (by omega) (by omega) (by simp) rfl (fun b89 cap89 => ?_)
      first | refine TOps.fieldB 1 rfl Try.underlying24 rfl rfl ti22 rfl rfl rfl ?_ | refine TOps.fieldN 1 rfl Try.underlying24 rfl rfl ti22 rfl rfl rfl ?_
      refine TOps.store1 rfl rfl ti22 rfl rfl (by repeat (first | exact Upd.here | apply Upd.there)) (by first | decide | (simp; done) | (simp; omega) | exact (show (1 : Nat) < 3 by decide)) ?_
      refine TOps.fin ?_
      refine Nrm.next ?_
      refine Tri.seq (Tri.region ?_)
      refine TOps.move rfl rfl ?_
      refine TOps.move rfl rfl ?_
      refine TOps.eqlI rfl rfl rfl ?_
      refine TOps.next ?_
      refine Tri.cond rfl (fun hc2 => ?_) (fun hc2 => ?_)
      · try simp only [decide_eq_true_eq, decide_eq_false_iff_not, Bool.and_eq_true, Bool.or_eq_true, Bool.not_eq_true', Bool.and_eq_false_iff, Bool.or_eq_false_iff, Bool.not_eq_false', Int.not_lt, Int.not_le, ne_eq, Decidable.not_not, Option.isSome_iff_ne_none, Option.isNone_iff_eq_none] at hc2
        have hst' : chS keep v vars sp F.nodes (k + 1) = ((TO.set k (vars + no.length)).set k (vars - 1), no ++ [trN TO d]) := by rw [chS_step hs hc1d (decide_eq_true hc2) (fun _ => hgd), hTO]; rfl
        obtain ⟨NX, hNX⟩ : ∃ NX : (Option Nat × Nat) × List SA × List Ent, NX = ((some b89, cap89), qs ++ [(y.1, 0, y.2, none)], row y.1 3 1 y.2 (ints (trA TO d.args)) :: H3) := ⟨_, rfl⟩
        have hNP : ∀ ns : List Nd, ns = no ++ [trN TO d] → ArgsIn NX.2.2 ns NX.2.1 ∧ (ns ≠ [] → ∃ b, NX.1.1 = some b) := by
          rintro _ rfl
          subst hNX
          exact ⟨ArgsIn.snoc (hp3.le (Le.drop (Le.refl _))) (RdS.ofRowA (List.Mem.head _) (fun h => hpj (fun h0 => h (by simp [List.eq_nil_of_length_eq_zero h0, trA, trN])))), fun _ => ⟨_, rfl⟩⟩
        refine Tri.region ?_
        refine TOps.move rfl rfl ?_
        refine TOps.move rfl rfl ?_
        refine TOps.move rfl rfl ?_
        refine TOps.sub (r := ((vars - 1 : Nat) : Int)) rfl rfl (by rw [wrapI (by omega) (by omega)]; omega) rfl ?_
        refine TOps.indexAddr (off' := k) rfl rfl Try.underlying50 ti3 (by omega) (by omega) (by omega) rfl ?_
        refine TOps.store1 rfl rfl ti3 rfl rfl (by repeat (first | exact Upd.here | apply Upd.there)) (by simp; omega) ?_
        refine TOps.fin ?_
        refine Nrm.body NX (hNP _ (by rw [hst'])) ⟨rfl, rfl, rfl, rfl, rfl, rfl, rfl, rfl, rfl, rfl, trivial⟩ (by subst hNX; rw [hst']; exact (Sp.le (by repeat (first | exact Sp.refl _ | exact Sp.sub (by assumption) | refine Sp.cons (by repeat (first | exact Pick.here | exact Pick.row (by first | (simp; done) | (rw [nats_set]; done) | (rw [nats_set, nats_set]; done) | (dsimp only; rw [nsCells_snoc _ _ _ _ hp3.1]; simp [ndCells, trN, trA_length]; done)) | apply Pick.there)) ?_ | exact Sp.nil | apply Sp.skip))))
      try simp only [decide_eq_true_eq, decide_eq_false_iff_not, Bool.and_eq_true, Bool.or_eq_true, Bool.not_eq_true', Bool.and_eq_false_iff, Bool.or_eq_false_iff, Bool.not_eq_false', Int.not_lt, Int.not_le, ne_eq, Decidable.not_not, Option.isSome_iff_ne_none, Option.isNone_iff_eq_none] at hc2
      have hst' : chS keep v vars sp F.nodes (k + 1) = (TO.set k (vars + no.length), no ++ [trN TO d]) := by rw [chS_step hs hc1d (decide_eq_false hc2) (fun _ => hgd), hTO]; rfl
      obtain ⟨NX, hNX⟩ : ∃ NX : (Option Nat × Nat) × List SA × List Ent, NX = ((some b89, cap89), qs ++ [(y.1, 0, y.2, none)], row y.1 3 1 y.2 (ints (trA TO d.args)) :: H3) := ⟨_, rfl⟩
      have hNP : ∀ ns : List Nd, ns = no ++ [trN TO d] → ArgsIn NX.2.2 ns NX.2.1 ∧ (ns ≠ [] → ∃ b, NX.1.1 = some b) := by
        rintro _ rfl
        subst hNX
        exact ⟨ArgsIn.snoc (hp3.le (Le.drop (Le.refl _))) (RdS.ofRowA (List.Mem.head _) (fun h => hpj (fun h0 => h (by simp [List.eq_nil_of_length_eq_zero h0, trA, trN])))), fun _ => ⟨_, rfl⟩⟩
      refine Tri.fin ?_
      refine Nrm.body NX (hNP _ (by rw [hst'])) ⟨rfl, rfl, rfl, rfl, rfl, rfl, rfl, rfl, rfl, rfl, trivial⟩ (by subst hNX; rw [hst']; exact (Sp.le (by repeat (first | exact Sp.refl _ | exact Sp.sub (by assumption) | refine Sp.cons (by repeat (first | exact Pick.here | exact Pick.row (by first | (simp; done) | (rw [nats_set]; done) | (rw [nats_set, nats_set]; done) | (dsimp only; rw [nsCells_snoc _ _ _ _ hp3.1]; simp [ndCells, trN, trA_length]; done)) | apply Pick.there)) ?_ | exact Sp.nil | apply Sp.skip))))
    try simp only [decide_eq_true_eq, decide_eq_false_iff_not, Bool.and_eq_true, Bool.or_eq_true, Bool.not_eq_true', Bool.and_eq_false_iff, Bool.or_eq_false_iff, Bool.not_eq_false', Int.not_lt, Int.not_le, ne_eq, Decidable.not_not, Option.isSome_iff_ne_none, Option.isNone_iff_eq_none] at hc1
    have hc1d : (decide (v ≤ k) && keep.getD (k - v) false) = false := by rcases hc1 with h | h; (rw [decide_eq_false (by omega)]; rfl); (rw [h, Bool.and_false])
    refine Tri.fin ?_
    refine Nrm.next ?_
    refine Tri.seq (Tri.region ?_)
    refine TOps.move rfl rfl ?_
    refine TOps.move rfl rfl ?_
    refine TOps.eqlI rfl rfl rfl ?_
    refine TOps.next ?_
    refine Tri.cond rfl (fun hc3 => ?_) (fun hc3 => ?_)
    · try simp only [decide_eq_true_eq, decide_eq_false_iff_not, Bool.and_eq_true, Bool.or_eq_true, Bool.not_eq_true', Bool.and_eq_false_iff, Bool.or_eq_false_iff, Bool.not_eq_false', Int.not_lt, Int.not_le, ne_eq, Decidable.not_not, Option.isSome_iff_ne_none, Option.isNone_iff_eq_none] at hc3
      have hst' : chS keep v vars sp F.nodes (k + 1) = ((to.set k k).set k (vars - 1), no) := by rw [chS_step (d := ⟨0, 0, []⟩) hs hc1d (decide_eq_true hc3) (fun h => by cases h)]; rfl
      obtain ⟨NX, hNX⟩ : ∃ NX : (Option Nat × Nat) × List SA × List Ent, NX = ((oa, ocap), qs, H3) := ⟨_, rfl⟩
      have hNP : ∀ ns : List Nd, ns = no → ArgsIn NX.2.2 ns NX.2.1 ∧ (ns ≠ [] → ∃ b, NX.1.1 = some b) := by
        rintro _ rfl
        subst hNX
        exact ⟨hp3, hp4⟩
      refine Tri.region ?_
      refine TOps.move rfl rfl ?_
      refine TOps.move rfl rfl ?_
      refine TOps.move rfl rfl ?_
      refine TOps.sub (r := ((vars - 1 : Nat) : Int)) rfl rfl (by rw [wrapI (by omega) (by omega)]; omega) rfl ?_
      refine TOps.indexAddr (off' := k) rfl rfl Try.underlying50 ti3 (by omega) (by omega) (by omega) rfl ?_
      refine TOps.store1 rfl rfl ti3 rfl rfl (by repeat (first | exact Upd.here | apply Upd.there)) (by simp; omega) ?_
      refine TOps.fin ?_
      refine Nrm.body NX (hNP _ (by rw [hst'])) ⟨rfl, rfl, rfl, rfl, rfl, rfl, rfl, rfl, rfl, rfl, trivial⟩ (by subst hNX; rw [hst']; exact (Sp.le (by repeat (first | exact Sp.refl _ | exact Sp.sub (by assumption) | refine Sp.cons (by repeat (first | exact Pick.here | exact Pick.row (by first | (simp; done) | (rw [nats_set]; done) | (rw [nats_set, nats_set]; done) | (dsimp only; rw [nsCells_snoc _ _ _ _ hp3.1]; simp [ndCells, trN, trA_length]; done)) | apply Pick.there)) ?_ | exact Sp.nil | apply Sp.skip))))
    try simp only [decide_eq_true_eq, decide_eq_false_iff_not, Bool.and_eq_true, Bool.or_eq_true, Bool.not_eq_true', Bool.and_eq_false_iff, Bool.or_eq_false_iff, Bool.not_eq_false', Int.not_lt, Int.not_le, ne_eq, Decidable.not_not, Option.isSome_iff_ne_none, Option.isNone_iff_eq_none] at hc3
    have hst' : chS keep v vars sp F.nodes (k + 1) = (to.set k k, no) := by rw [chS_step (d := ⟨0, 0, []⟩) hs hc1d (decide_eq_false hc3) (fun h => by cases h)]; rfl
    obtain ⟨NX, hNX⟩ : ∃ NX : (Option Nat × Nat) × List SA × List Ent, NX = ((oa, ocap), qs, H3) := ⟨_, rfl⟩
    have hNP : ∀ ns : List Nd, ns = no → ArgsIn NX.2.2 ns NX.2.1 ∧ (ns ≠ [] → ∃ b, NX.1.1 = some b) := by
      rintro _ rfl
      subst hNX
      exact ⟨hp3, hp4⟩
    refine Tri.fin ?_
    refine Nrm.body NX (hNP _ (by rw [hst'])) ⟨rfl, rfl, rfl, rfl, rfl, rfl, rfl, rfl, rfl, rfl, trivial⟩ (by subst hNX; rw [hst']; exact (Sp.le (by repeat (first | exact Sp.refl _ | exact Sp.sub (by assumption) | refine Sp.cons (by repeat (first | exact Pick.here | exact Pick.row (by first | (simp; done) | (rw [nats_set]; done) | (rw [nats_set, nats_set]; done) | (dsimp only; rw [nsCells_snoc _ _ _ _ hp3.1]; simp [ndCells, trN, trA_length]; done)) | apply Pick.there)) ?_ | exact Sp.nil | apply Sp.skip))))
  obtain ⟨hp3, hp4⟩ := hp
  have hlk := hln (v + F.nodes.length)
  refine Nrm.of hS hM ?_
  refine Nrm.next ?_
  refine Tri.seq (Tri.region ?_)
  refine TOps.move rfl rfl ?_
  refine TOps.move rfl rfl ?_
  refine TOps.indexAddr (off' := top) rfl rfl Try.underlying50 ti3 (by omega) (by omega) (by omega) rfl ?_
  refine TOps.load1 (v := .int .i64 ((chS keep v vars sp F.nodes (v + F.nodes.length)).1.getD top 0 : Nat)) rfl ti3 (Rd.lit (by repeat (first | exact List.Mem.head _ | apply List.Mem.tail)) (nats_get (by omega))) rfl ?_
  first | refine TOps.fieldB 2 rfl Try.underlying24 rfl rfl ti3 rfl rfl rfl ?_ | refine TOps.fieldN 2 rfl Try.underlying24 rfl rfl ti3 rfl rfl rfl ?_
  refine TOps.store1 rfl rfl ti3 rfl rfl (by repeat (first | exact Upd.here | apply Upd.there)) (by first | decide | (simp; done) | (simp; omega) | exact (show (2 : Nat) < 3 by decide)) ?_
  refine TOps.next ?_
  refine Tri.seq (Tri.region ?_)
  refine TOps.loadN rfl ti24 (by first | exact Rd.all (by repeat (first | exact List.Mem.head _ | apply List.Mem.tail)) | (repeat (first | assumption | apply Rd.up))) rfl rfl ?_
  refine TOps.storeN rfl rfl ti24 rfl rfl (by repeat (first | exact Upd.here | apply Upd.there)) (by first | decide | (simp; done) | (simp; omega)) ?_
  refine TOps.next ?_
  refine Tri.ret1 (H' := (row z.1.1 66 3 z.1.2 (nsCells (chS keep v vars sp F.nodes (v + F.nodes.length)).2 z.2.1) :: z.2.2) ++ H) Try.results43 (fun _ _ h => h) (.cellN rfl rfl ti24 (Rd.all (by repeat (first | exact List.Mem.head _ | apply List.Mem.tail))) rfl) ?_ ⟨z.1.1, z.1.2, row z.1.1 66 3 z.1.2 (nsCells (chS keep v vars sp F.nodes (v + F.nodes.length)).2 z.2.1) :: z.2.2, by unfold chF; rfl, ?_, rfl⟩
  · exact Le.sub (by simp only [List.cons_append]; repeat (first | exact List.Sublist.cons_cons _ (List.Sublist.cons _ (List.Sublist.cons _ (List.Sublist.append_left s1 _))) | apply List.Sublist.cons))
  · exact RNodes.ofA (E := 66) (sz := 3) (cap := z.1.2) (List.Mem.head _) (hp3.le (Le.drop (Le.refl _))) hp4
end Go.Proofs
