import Derived.Test.YtbpjjepiblomaaaA30
import Derived.Test.YtbpjjepiblomaaaGL51
namespace Go.Proofs
open Go.GL
set_option linter.unusedVariables false
set_option linter.unusedSimpArgs false
theorem putN_g {H : List Ent} {ov iv : Value} {O I : Fm} (hO : RF H ov O) (hI : RF H iv I) (hkO : O.ok) (hkI : I.ok) :
    Gives Try.prog 18 [ov, iv] H (fun u H' => ∃ a cap N, u = .tuple (List.toArray [.agg (List.toArray [.int .i64 (O.putF I).vars, slV a 0 (O.putF I).nodes.length cap, .int .i64 (O.putF I).top]), errV 45 (O.putErr I)]) ∧ RNodes N a 0 (O.putF I).nodes ∧ N ++ H = H') := by
  have hO0 := hO
  have hI0 := hI
  obtain ⟨oa0, ooff, oc0, osp, rfl, hNO⟩ := hO
  obtain ⟨ia0, ioff, ic0, isp, rfl, hNI⟩ := hI
  refine Gives.enter Try.func18 rfl (by exact Try.ntmps18) rfl ?_
  refine Tri.seq (Tri.region ?_)
  refine TOps.boxN rfl ti24 rfl rfl (fun b2 => ?_)
  refine TOps.hide (fun H1 l1 s1 r1 => ?_)
  replace hO0 := hO0.le l1; replace hI0 := hI0.le l1; replace hNO := hNO.le l1; replace hNI := hNI.le l1
  refine TOps.boxN rfl ti24 rfl rfl (fun b3 => ?_)
  refine TOps.hide (fun H2 l2 s2 r2 => ?_)
  replace hO0 := hO0.le l2; replace hI0 := hI0.le l2; replace hNO := hNO.le l2; replace hNI := hNI.le l2; replace r1 := r1.le l2; have l3 := l2.trans l1
  refine TOps.alloc ti24 rfl (fun b4 => ?_)
  refine TOps.assign rfl rfl ?_
  refine TOps.next ?_
  refine Tri.seq ?_
  refine Tri.seq (Tri.region ?_)
  refine TOps.loadN rfl ti24 (by first | exact Rd.all (by repeat (first | exact List.Mem.head _ | apply List.Mem.tail)) | (repeat (first | assumption | apply Rd.up))) rfl rfl ?_
  refine TOps.call (vs := [_]) Try.call22 ⟨rfl, trivial⟩ (check_g (hO0.le (Le.drop (Le.refl _))) hkO) rfl ?_
  rintro _ _ ⟨rfl, rfl⟩
  refine TOps.assign rfl rfl ?_
  refine TOps.next ?_
  refine Tri.seq (Tri.region ?_)
  refine TOps.move rfl rfl ?_
  refine TOps.neqNil rfl Try.underlying28 rfl ?_
  refine TOps.next ?_
  refine Tri.cond rfl (fun hc1 => ?_) (fun hc1 => ?_)
  · try simp only [decide_eq_true_eq, decide_eq_false_iff_not, Bool.and_eq_true, Bool.or_eq_true, Bool.not_eq_true', Bool.and_eq_false_iff, Bool.or_eq_false_iff, Bool.not_eq_false', Int.not_lt, Int.not_le, ne_eq, Decidable.not_not, Option.isSome_iff_ne_none, Option.isNone_iff_eq_none] at hc1
    obtain ⟨e, he⟩ := Option.ne_none_iff_exists'.1 hc1
    have hpe : O.putErr I = some e := by unfold Fm.putErr; rw [he]
    refine Tri.seq (Tri.region ?_)
    refine TOps.buildStruct (vs := []) (xs := [_, _, _]) [(0, 1), (1, 1), (2, 1)] Try.underlying24 ti24 (fun w => by simp) trivial rfl rfl ?_
    refine TOps.move rfl rfl ?_
    refine TOps.storeN rfl rfl ti24 rfl rfl (by repeat (first | exact Upd.here | apply Upd.there)) (by first | decide | (simp; done) | (simp; omega)) ?_
    refine TOps.assign rfl rfl ?_
    refine TOps.next ?_
    refine Tri.ret2 (H' := H) Try.results18 (fun _ _ h => h) (.cellN rfl rfl ti24 (Rd.all (by repeat (first | exact List.Mem.head _ | apply List.Mem.tail))) rfl) (.tmp rfl) (Le.drop l3) ⟨none, 0, [], ?_, ?_, rfl⟩
    · unfold Fm.putF; rw [hpe, he]; rfl
    · unfold Fm.putF; rw [hpe]; exact .inl rfl
  try simp only [decide_eq_true_eq, decide_eq_false_iff_not, Bool.and_eq_true, Bool.or_eq_true, Bool.not_eq_true', Bool.and_eq_false_iff, Bool.or_eq_false_iff, Bool.not_eq_false', Int.not_lt, Int.not_le, ne_eq, Decidable.not_not, Option.isSome_iff_ne_none, Option.isNone_iff_eq_none] at hc1
  have heO : O.err = none := by simpa using hc1
  have hgO := (Fm.good_iff O).1 heO
  refine Tri.fin ?_
  refine Nrm.next ?_
  refine Tri.seq ?_
  refine Tri.seq (Tri.region ?_)
  refine TOps.loadN rfl ti24 (by first | exact Rd.all (by repeat (first | exact List.Mem.head _ | apply List.Mem.tail)) | (repeat (first | assumption | apply Rd.up))) rfl rfl ?_
  refine TOps.call (vs := [_]) Try.call22 ⟨rfl, trivial⟩ (check_g (hI0.le (Le.drop (Le.refl _))) hkI) rfl ?_
  rintro _ _ ⟨rfl, rfl⟩
  refine TOps.assign rfl rfl ?_
  refine TOps.next ?_
  refine Tri.seq (Tri.region ?_)
  refine TOps.move rfl rfl ?_
  refine TOps.neqNil rfl Try.underlying28 rfl ?_
  refine TOps.next ?_
  refine Tri.cond rfl (fun hc2 => ?_) (fun hc2 => ?_)
  · try simp only [decide_eq_true_eq, decide_eq_false_iff_not, Bool.and_eq_true, Bool.or_eq_true, Bool.not_eq_true', Bool.and_eq_false_iff, Bool.or_eq_false_iff, Bool.not_eq_false', Int.not_lt, Int.not_le, ne_eq, Decidable.not_not, Option.isSome_iff_ne_none, Option.isNone_iff_eq_none] at hc2
    obtain ⟨e, he⟩ := Option.ne_none_iff_exists'.1 hc2
    have hpe : O.putErr I = some e := by unfold Fm.putErr; rw [heO, he]
    refine Tri.seq (Tri.region ?_)
    refine TOps.buildStruct (vs := []) (xs := [_, _, _]) [(0, 1), (1, 1), (2, 1)] Try.underlying24 ti24 (fun w => by simp) trivial rfl rfl ?_
    refine TOps.move rfl rfl ?_
    refine TOps.storeN rfl rfl ti24 rfl rfl (by repeat (first | exact Upd.here | apply Upd.there)) (by first | decide | (simp; done) | (simp; omega)) ?_
    refine TOps.assign rfl rfl ?_
    refine TOps.next ?_
    refine Tri.ret2 (H' := H) Try.results18 (fun _ _ h => h) (.cellN rfl rfl ti24 (Rd.all (by repeat (first | exact List.Mem.head _ | apply List.Mem.tail))) rfl) (.tmp rfl) (Le.drop l3) ⟨none, 0, [], ?_, ?_, rfl⟩
    · unfold Fm.putF; rw [hpe, he]; rfl
    · unfold Fm.putF; rw [hpe]; exact .inl rfl
  try simp only [decide_eq_true_eq, decide_eq_false_iff_not, Bool.and_eq_true, Bool.or_eq_true, Bool.not_eq_true', Bool.and_eq_false_iff, Bool.or_eq_false_iff, Bool.not_eq_false', Int.not_lt, Int.not_le, ne_eq, Decidable.not_not, Option.isSome_iff_ne_none, Option.isNone_iff_eq_none] at hc2
  have heI : I.err = none := by simpa using hc2
  have hgI := (Fm.good_iff I).1 heI
  have o0 := hgO.v0; have o1 := hgO.v1; have o2 := hgO.n1; have ot := hgO.topLt
  have i0 := hgI.v0; have i1 := hgI.v1; have i2 := hgI.n1; have it := hgI.topLt
  obtain ⟨vi, hvi⟩ := Int.eq_ofNat_of_zero_le i0
  have hvn : I.vars.toNat = vi := by omega
  obtain ⟨tI, htI⟩ := Int.eq_ofNat_of_zero_le it.1
  have hperr : O.putErr I = if O.vars ≠ I.vars + 1 then some 11 else if 128 < O.nodes.length + I.nodes.length then some 4 else none := by unfold Fm.putErr; rw [heO, heI]
  rw [hvi] at r2 hperr
  rw [htI] at r2
  refine Tri.fin ?_
  refine Nrm.next ?_
  refine Tri.seq ?_
  refine Tri.seq (Tri.region ?_)
  refine TOps.field0 rfl Try.underlying24 rfl rfl ti3 rfl rfl rfl ?_
  refine TOps.load1 rfl ti3 (by first | exact Rd.lit (by repeat (first | exact List.Mem.head _ | apply List.Mem.tail)) rfl | (repeat (first | assumption | exact Rd.fld (by assumption) 0 rfl | apply Rd.up))) rfl ?_
  refine TOps.field0 rfl Try.underlying24 rfl rfl ti3 rfl rfl rfl ?_
  refine TOps.load1 rfl ti3 (by first | exact Rd.lit (by repeat (first | exact List.Mem.head _ | apply List.Mem.tail)) rfl | (repeat (first | assumption | exact Rd.fld (by assumption) 0 rfl | apply Rd.up))) rfl ?_
  refine TOps.add (r := (vi : Int) + 1) rfl rfl (by rw [wrapI (by omega) (by omega)]) rfl ?_
  refine TOps.neqI rfl rfl rfl ?_
  refine TOps.next ?_
  refine Tri.cond rfl (fun hc3 => ?_) (fun hc3 => ?_)
  · try simp only [decide_eq_true_eq, decide_eq_false_iff_not, Bool.and_eq_true, Bool.or_eq_true, Bool.not_eq_true', Bool.and_eq_false_iff, Bool.or_eq_false_iff, Bool.not_eq_false', Int.not_lt, Int.not_le, ne_eq, Decidable.not_not, Option.isSome_iff_ne_none, Option.isNone_iff_eq_none] at hc3
    have hpe : O.putErr I = some 11 := by rw [hperr, if_pos hc3]
    refine Tri.seq (Tri.region ?_)
    refine TOps.buildStruct (vs := []) (xs := [_, _, _]) [(0, 1), (1, 1), (2, 1)] Try.underlying24 ti24 (fun w => by simp) trivial rfl rfl ?_
    refine TOps.makeInterface rfl Try.underlying45 rfl rfl ?_
    refine TOps.storeN rfl rfl ti24 rfl rfl (by repeat (first | exact Upd.here | apply Upd.there)) (by first | decide | (simp; done) | (simp; omega)) ?_
    refine TOps.assign rfl rfl ?_
    refine TOps.next ?_
    refine Tri.ret2 (H' := H) Try.results18 (fun _ _ h => h) (.cellN rfl rfl ti24 (Rd.all (by repeat (first | exact List.Mem.head _ | apply List.Mem.tail))) rfl) (.tmp rfl) (Le.drop l3) ⟨none, 0, [], ?_, ?_, rfl⟩
    · unfold Fm.putF; rw [hpe]; rfl
    · unfold Fm.putF; rw [hpe]; exact .inl rfl
  try simp only [decide_eq_true_eq, decide_eq_false_iff_not, Bool.and_eq_true, Bool.or_eq_true, Bool.not_eq_true', Bool.and_eq_false_iff, Bool.or_eq_false_iff, Bool.not_eq_false', Int.not_lt, Int.not_le, ne_eq, Decidable.not_not, Option.isSome_iff_ne_none, Option.isNone_iff_eq_none] at hc3
  have hov : O.vars = ((vi + 1 : Nat) : Int) := by omega
  have hovn : O.vars.toNat = vi + 1 := by omega
  rw [if_neg (by omega)] at hperr
  rw [hov] at r1
  refine Tri.fin ?_
  refine Nrm.next ?_
  refine Tri.seq ?_
  refine Tri.seq (Tri.region ?_)
  first | refine TOps.fieldB 1 rfl Try.underlying24 rfl rfl ti22 rfl rfl rfl ?_ | refine TOps.fieldN 1 rfl Try.underlying24 rfl rfl ti22 rfl rfl rfl ?_
  refine TOps.load1 rfl ti22 (by first | exact Rd.lit (by repeat (first | exact List.Mem.head _ | apply List.Mem.tail)) rfl | (repeat (first | assumption | exact Rd.fld (by assumption) 1 rfl | apply Rd.up))) rfl ?_
  refine TOps.len rfl Try.underlying22 rfl ?_
  first | refine TOps.fieldB 1 rfl Try.underlying24 rfl rfl ti22 rfl rfl rfl ?_ | refine TOps.fieldN 1 rfl Try.underlying24 rfl rfl ti22 rfl rfl rfl ?_
  refine TOps.load1 rfl ti22 (by first | exact Rd.lit (by repeat (first | exact List.Mem.head _ | apply List.Mem.tail)) rfl | (repeat (first | assumption | exact Rd.fld (by assumption) 1 rfl | apply Rd.up))) rfl ?_
  refine TOps.len rfl Try.underlying22 rfl ?_
  refine TOps.add (r := ((O.nodes.length + I.nodes.length : Nat) : Int)) rfl rfl (by rw [wrapI (by omega) (by omega)]; omega) rfl ?_
  refine TOps.gtr rfl rfl rfl ?_
  refine TOps.next ?_
  refine Tri.cond rfl (fun hc4 => ?_) (fun hc4 => ?_)
  · try simp only [decide_eq_true_eq, decide_eq_false_iff_not, Bool.and_eq_true, Bool.or_eq_true, Bool.not_eq_true', Bool.and_eq_false_iff, Bool.or_eq_false_iff, Bool.not_eq_false', Int.not_lt, Int.not_le, ne_eq, Decidable.not_not, Option.isSome_iff_ne_none, Option.isNone_iff_eq_none] at hc4
    have hpe : O.putErr I = some 4 := by rw [hperr, if_pos (by omega)]
    refine Tri.seq (Tri.region ?_)
    refine TOps.buildStruct (vs := []) (xs := [_, _, _]) [(0, 1), (1, 1), (2, 1)] Try.underlying24 ti24 (fun w => by simp) trivial rfl rfl ?_
    refine TOps.makeInterface rfl Try.underlying45 rfl rfl ?_
    refine TOps.storeN rfl rfl ti24 rfl rfl (by repeat (first | exact Upd.here | apply Upd.there)) (by first | decide | (simp; done) | (simp; omega)) ?_
    refine TOps.assign rfl rfl ?_
    refine TOps.next ?_
    refine Tri.ret2 (H' := H) Try.results18 (fun _ _ h => h) (.cellN rfl rfl ti24 (Rd.all (by repeat (first | exact List.Mem.head _ | apply List.Mem.tail))) rfl) (.tmp rfl) (Le.drop l3) ⟨none, 0, [], ?_, ?_, rfl⟩
    · unfold Fm.putF; rw [hpe]; rfl
    · unfold Fm.putF; rw [hpe]; exact .inl rfl
  try simp only [decide_eq_true_eq, decide_eq_false_iff_not, Bool.and_eq_true, Bool.or_eq_true, Bool.not_eq_true', Bool.and_eq_false_iff, Bool.or_eq_false_iff, Bool.not_eq_false', Int.not_lt, Int.not_le, ne_eq, Decidable.not_not, Option.isSome_iff_ne_none, Option.isNone_iff_eq_none] at hc4
  have hpe : O.putErr I = none := by rw [hperr, if_neg (by omega)]
  obtain ⟨n1, hn1⟩ : ∃ n1, n1 = vi + I.nodes.length := ⟨_, rfl⟩
  obtain ⟨n2, hn2⟩ : ∃ n2, n2 = vi + 1 + O.nodes.length := ⟨_, rfl⟩
  have hpl : (putTab O I).length = n2 := by rw [putTab_length, hovn, hn2]
  refine Tri.fin ?_
  refine Nrm.next ?_
  refine Tri.seq (Tri.region ?_)
  refine TOps.field0 rfl Try.underlying24 rfl rfl ti3 rfl rfl rfl ?_
  refine TOps.load1 rfl ti3 (by first | exact Rd.lit (by repeat (first | exact List.Mem.head _ | apply List.Mem.tail)) rfl | (repeat (first | assumption | exact Rd.fld (by assumption) 0 rfl | apply Rd.up))) rfl ?_
  refine TOps.buildStruct (vs := [(0, _)]) (xs := [_, _, _]) [(0, 1), (1, 1), (2, 1)] Try.underlying24 ti24 (fun w => by simp) ⟨rfl, rfl, trivial⟩ rfl rfl ?_
  refine TOps.alloc ti24 rfl (fun b8 => ?_)
  refine TOps.storeN rfl rfl ti24 rfl rfl (by repeat (first | exact Upd.here | apply Upd.there)) (by first | decide | (simp; done) | (simp; omega)) ?_
  refine TOps.next ?_
  refine Tri.seq (Tri.region ?_)
  refine TOps.field0 rfl Try.underlying24 rfl rfl ti3 rfl rfl rfl ?_
  refine TOps.load1 rfl ti3 (by first | exact Rd.lit (by repeat (first | exact List.Mem.head _ | apply List.Mem.tail)) rfl | (repeat (first | assumption | exact Rd.fld (by assumption) 0 rfl | apply Rd.up))) rfl ?_
  first | refine TOps.fieldB 1 rfl Try.underlying24 rfl rfl ti22 rfl rfl rfl ?_ | refine TOps.fieldN 1 rfl Try.underlying24 rfl rfl ti22 rfl rfl rfl ?_
  refine TOps.load1 rfl ti22 (by first | exact Rd.lit (by repeat (first | exact List.Mem.head _ | apply List.Mem.tail)) rfl | (repeat (first | assumption | exact Rd.fld (by assumption) 1 rfl | apply Rd.up))) rfl ?_
  refine TOps.len rfl Try.underlying22 rfl ?_
  refine TOps.add (r := ((n1 : Nat) : Int)) rfl rfl (by rw [wrapI (by omega) (by omega)]; omega) rfl ?_
  refine TOps.make1 rfl rfl Try.underlying50 ti3 (by omega) (by omega) (by omega) rfl (fun b56 => ?_)
  refine TOps.assign rfl rfl ?_
  refine TOps.next ?_
  refine Tri.seq ?_
  refine Tri.seq (Tri.region ?_)
  refine TOps.move rfl rfl ?_
  refine TOps.len rfl Try.underlying50 rfl ?_
  refine TOps.move rfl rfl ?_
  refine TOps.next ?_
  refine Tri.range (X := Unit) (fun x k => [(2, .pointer (some ⟨b2, 0, none⟩)), (3, .pointer (some ⟨b3, 0, none⟩)), (4, .pointer (some ⟨b4, 0, none⟩)), (8, .pointer (some ⟨b8, 0, none⟩)), (9, slV (some b56) 0 n1 n1)]) (fun x k => row (some b56) 3 1 n1 (nats ((List.range n1).take k ++ List.replicate (n1 - k) 0)) :: row (some b8) 24 3 1 [.int .i64 vi, slV none 0 0 0, .int .i64 0] :: row (some b4) 24 3 1 [.int .i64 0, slV none 0 0 0, .int .i64 0] :: H2) (fun x k => True) (by omega) rfl rfl rfl (fun _ _ => ⟨rfl, rfl, rfl, rfl⟩) () trivial ⟨rfl, rfl, rfl, rfl, rfl, trivial⟩ (Sp.le (by repeat (first | exact Sp.refl _ | exact Sp.sub (by assumption) | refine Sp.cons (by repeat (first | exact Pick.here | exact Pick.row (by simp) | apply Pick.there)) ?_ | exact Sp.nil | apply Sp.skip))) (fun k x hlt hp => ?_) (fun x ac wc hp hS hM => ?_)
  · skip
    refine Tri.seq (Tri.region ?_)
    refine TOps.move rfl rfl ?_
    refine TOps.assign rfl rfl ?_
    refine TOps.next ?_
    refine Tri.region ?_
    refine TOps.move rfl rfl ?_
    refine TOps.move rfl rfl ?_
    refine TOps.move rfl rfl ?_
    refine TOps.indexAddr (off' := k) rfl rfl Try.underlying50 ti3 (by omega) (by omega) (by simp) rfl ?_
    refine TOps.store1 rfl rfl ti3 rfl rfl (by repeat (first | exact Upd.here | apply Upd.there)) (by first | decide | (simp; done) | (simp; omega)) ?_
    refine TOps.fin ?_
    refine Nrm.body () trivial ⟨rfl, rfl, rfl, rfl, rfl, rfl, rfl, trivial⟩ (Le.rowEq (by rw [← nats_set, take_fill (by simp) (by omega) (range_getD (by omega))]))
  rw [show (List.range n1).take n1 ++ List.replicate (n1 - n1) 0 = List.range n1 from by rw [Nat.sub_self, List.replicate_zero, List.append_nil]; exact List.take_of_length_le (by simp)] at hM
  refine Nrm.of hS hM ?_
  refine Nrm.next ?_
  refine Tri.seq ?_
  refine Tri.seq (Tri.region ?_)
  first | refine TOps.fieldB 1 rfl Try.underlying24 rfl rfl ti22 rfl rfl rfl ?_ | refine TOps.fieldN 1 rfl Try.underlying24 rfl rfl ti22 rfl rfl rfl ?_
  refine TOps.load1 rfl ti22 (by first | exact Rd.lit (by repeat (first | exact List.Mem.head _ | apply List.Mem.tail)) rfl | (repeat (first | assumption | exact Rd.fld (by assumption) 1 rfl | apply Rd.up))) rfl ?_
  refine TOps.len rfl Try.underlying22 rfl ?_
  refine TOps.move rfl rfl ?_
  refine TOps.next ?_
  refine Tri.range (X := (Option Nat × Nat) × List SA × List Ent) (fun z k => [(2, .pointer (some ⟨b2, 0, none⟩)), (3, .pointer (some ⟨b3, 0, none⟩)), (4, .pointer (some ⟨b4, 0, none⟩)), (8, .pointer (some ⟨b8, 0, none⟩)), (9, slV (some b56) 0 n1 n1), (68, slV ia0 ioff I.nodes.length ic0 isp)]) (fun z k => row (some b8) 24 3 1 [.int .i64 vi, slV z.1.1 0 k z.1.2, .int .i64 0] :: row z.1.1 66 3 z.1.2 (nsCells (I.nodes.take k) z.2.1) :: row (some b56) 3 1 n1 (nats (List.range n1)) :: row (some b4) 24 3 1 [.int .i64 0, slV none 0 0 0, .int .i64 0] :: (z.2.2 ++ H2)) (fun z k => ArgsIn z.2.2 (I.nodes.take k) z.2.1 ∧ (I.nodes.take k ≠ [] → ∃ b, z.1.1 = some b)) (by omega) rfl rfl rfl (fun _ _ => ⟨rfl, rfl, rfl, rfl⟩) ((none, 0), [], []) ⟨ArgsIn.nil, fun h => absurd rfl h⟩ ⟨rfl, rfl, rfl, rfl, rfl, rfl, trivial⟩ (Le.addNil.trans (Sp.le (by repeat (first | exact Sp.refl _ | exact Sp.sub (by assumption) | refine Sp.cons (by repeat (first | exact Pick.here | apply Pick.there)) ?_ | exact Sp.nil | apply Sp.skip)))) (fun k z hlt hp => ?_) (fun z ac wc hp hS hM => ?_)
  · skip
    obtain ⟨⟨oa, ocap⟩, qs, H3⟩ := z
    obtain ⟨hp3, hp4⟩ := hp
    dsimp only at hp3 hp4 ⊢
    have hp1 : Le (H3 ++ H2) H2 := Le.sub (List.sublist_append_right _ _)
    obtain ⟨nb, aa, ao, acap, asp, rfl, rfl, hn⟩ := hNI.at hlt
    have hfi := hgI.fits k hlt
    have hcells := hn.cells
    have hal := hfi.len
    have hat := hfi.args
    obtain ⟨d, hd⟩ : ∃ d, d = I.nodes[k] := ⟨_, rfl⟩
    rw [← hd] at hcells hn hal hat
    replace hcells := hcells.le hp1; replace hn := hn.le hp1
    have htk : (I.nodes.take k).length = k := by rw [List.length_take]; omega
    have hab : ∀ x ∈ d.args, 0 ≤ x ∧ x.toNat < (List.range n1).length := fun x hx => by have := hat x hx; rw [List.length_range]; omega
    have hid : trN (List.range n1) d = d := trN_id fun x hx => by have := hat x hx; omega
    refine Tri.seq (Tri.region ?_)
    refine TOps.indexAddr (off' := ioff + k * 3) rfl rfl Try.underlying22 ti66 (by omega) (by omega) (by simp) rfl ?_
    refine TOps.loadN (vs := [.int .i64 d.kind, .int .i64 d.k, slV aa ao d.args.length acap asp]) rfl ti66 (by repeat (first | exact hcells | apply Rd.up)) rfl rfl ?_
    refine TOps.alloc ti66 rfl (fun b12 => ?_)
    refine TOps.storeN rfl rfl ti66 rfl rfl (by repeat (first | exact Upd.here | apply Upd.there)) (by first | decide | (simp; done) | (simp; omega)) ?_
    refine TOps.next ?_
    obtain ⟨CS, hCS⟩ : ∃ CS, CS = nsCells (I.nodes.take k) qs := ⟨_, rfl⟩
    have hcl : CS.length = k * 3 := by rw [hCS, nsCells_length _ _ hp3.1, htk]
    obtain ⟨kk, hkk⟩ : ∃ kk, k = kk := ⟨_, rfl⟩
    obtain ⟨TB, hTB⟩ : ∃ TB, TB = List.range n1 := ⟨_, rfl⟩
    have hTl : TB.length = n1 := by rw [hTB, List.length_range]
    have hsn : I.nodes.take (k + 1) = I.nodes.take k ++ [trN TB d] := by rw [List.take_succ_eq_append_getElem hlt, ← hd, hTB, hid]
    rw [← hTB] at hab
    obtain ⟨HB, hHB⟩ : ∃ HB, HB = row (some b56) 3 1 n1 (nats (List.range n1)) :: row (some b4) 24 3 1 [.int .i64 0, slV none 0 0 0, .int .i64 0] :: (H3 ++ H2) := ⟨_, rfl⟩
    have hBr : RInts HB aa ao d.args asp := by rw [hHB]; exact RdS.up (RdS.up hn.args)
    have hTr : Rd HB b56 0 (nats TB) := by rw [hHB, hTB]; exact Rd.all (by repeat (first | exact List.Mem.head _ | apply List.Mem.tail))
    refine Tri.drawX (X := OA (ints (trA TB d.args)) × Nat × Nat × Nat × Nat) rfl [(2, .pointer (some ⟨b2, 0, none⟩)), (3, .pointer (some ⟨b3, 0, none⟩)), (4, .pointer (some ⟨b4, 0, none⟩)), (8, .pointer (some ⟨b8, 0, none⟩)), (9, slV (some b56) 0 n1 n1), (68, slV (some nb) ioff I.nodes.length ic0), (69, .int .i64 I.nodes.length), (70, .int .i64 k), (12, .pointer (some ⟨b12, 0, none⟩))] [] (fun x => [_, slV oa 0 kk ocap, .agg (List.toArray [.int .i64 d.kind, .int .i64 d.k, slV aa ao d.args.length acap asp]), _, .agg (List.toArray [.int .i64 d.kind, .int .i64 d.k, slV x.1.1 0 d.args.length x.2.1]), slV (some x.2.2.1) 0 1 1, slV (some x.2.2.2.1) 0 (kk + 1) x.2.2.2.2, _, undef]) (fun x c => match c with | 0 => row (some b12) 66 3 1 [.int .i64 d.kind, .int .i64 d.k, slV aa ao d.args.length acap asp] :: row (some b8) 24 3 1 [.int .i64 vi, slV oa 0 kk ocap, .int .i64 0] :: row oa 66 3 ocap CS :: HB | 1 => row x.1.1 3 1 x.2.1 (ints (trA TB d.args)) :: row (some b12) 66 3 1 [.int .i64 d.kind, .int .i64 d.k, slV aa ao d.args.length acap asp] :: row (some b8) 24 3 1 [.int .i64 vi, slV oa 0 kk ocap, .int .i64 0] :: row oa 66 3 ocap CS :: HB | 2 => row (some x.2.2.1) 66 3 1 [.int .i64 d.kind, .int .i64 d.k, slV x.1.1 0 d.args.length x.2.1] :: row x.1.1 3 1 x.2.1 (ints (trA TB d.args)) :: row (some b12) 66 3 1 [.int .i64 d.kind, .int .i64 d.k, slV aa ao d.args.length acap asp] :: row (some b8) 24 3 1 [.int .i64 vi, slV oa 0 kk ocap, .int .i64 0] :: row oa 66 3 ocap CS :: HB | 3 => row x.1.1 3 1 x.2.1 (ints (trA TB d.args)) :: row (some b12) 66 3 1 [.int .i64 d.kind, .int .i64 d.k, slV aa ao d.args.length acap asp] :: row (some b8) 24 3 1 [.int .i64 vi, slV oa 0 kk ocap, .int .i64 0] :: row (some x.2.2.2.1) 66 3 x.2.2.2.2 (CS ++ [.int .i64 d.kind, .int .i64 d.k, slV x.1.1 0 d.args.length x.2.1]) :: HB | _ + 4 => row x.1.1 3 1 x.2.1 (ints (trA TB d.args)) :: row (some b12) 66 3 1 [.int .i64 d.kind, .int .i64 d.k, slV aa ao d.args.length acap asp] :: row (some b8) 24 3 1 [.int .i64 vi, slV (some x.2.2.2.1) 0 (kk + 1) x.2.2.2.2, .int .i64 0] :: row (some x.2.2.2.1) 66 3 x.2.2.2.2 (CS ++ [.int .i64 d.kind, .int .i64 d.k, slV x.1.1 0 d.args.length x.2.1]) :: HB) [4, 5, 6, 8] (OA.zero _, 0, 0, 0, 0) [] rfl rfl ⟨rfl, rfl, rfl, rfl, rfl, rfl, rfl, rfl, rfl, trivial⟩ trivial (by subst hHB hCS hkk; exact (Sp.le (by repeat (first | exact Sp.refl _ | exact Sp.sub (by assumption) | refine Sp.cons (by repeat (first | exact Pick.here | apply Pick.there)) ?_ | exact Sp.nil | apply Sp.skip)))) (by
      refine ⟨?_, ?_, ?_, ?_, ?_, ?_, ?_, ?_, ?_, trivial⟩
      · refine ⟨fun x S c he hw hd hc hcu hm _ => ?_, trivial⟩
        first | refine TOps.fieldB 1 (he _ _ rfl) Try.underlying24 rfl rfl ti22 rfl rfl rfl ?_ | refine TOps.fieldN 1 (he _ _ rfl) Try.underlying24 rfl rfl ti22 rfl rfl rfl ?_
        exact TOps.fin (Nrm.draw x (fun _ _ _ => rfl) rfl (by first | exact Le.refl _ | assumption | exact (by repeat (first | exact Le.refl _ | assumption | apply Le.drop))))
      · refine ⟨fun x S c he hw hd hc hcu hm _ => ?_, trivial⟩
        obtain ⟨h0, -⟩ := hd
        rcases (show c = 0 ∨ c = 1 ∨ c = 2 by have : c ≤ 2 := hcu; omega) with rfl | rfl | rfl <;> refine TOps.load1 h0 ti22 (Rd.lit (by repeat (first | exact List.Mem.head _ | apply List.Mem.tail)) rfl) rfl ?_
        all_goals exact TOps.fin (Nrm.draw x (fun _ _ _ => rfl) rfl (Le.refl _))
      · refine ⟨fun x S c he hw hd hc hcu hm _ => ?_, trivial⟩
        obtain rfl : c = 0 := by have : c ≤ 0 := hcu; omega
        refine TOps.loadN (he _ _ rfl) ti66 (Rd.all (by repeat (first | exact List.Mem.head _ | apply List.Mem.tail))) rfl rfl ?_
        exact TOps.fin (Nrm.draw x (fun _ _ _ => rfl) rfl (by first | exact Le.refl _ | assumption | exact (by repeat (first | exact Le.refl _ | assumption | apply Le.drop))))
      · refine ⟨fun x S c he hw hd hc hcu hm _ => ?_, trivial⟩
        refine TOps.move (he _ _ rfl) rfl ?_
        exact TOps.fin (Nrm.draw x (fun _ _ _ => rfl) rfl (by first | exact Le.refl _ | assumption | exact (by repeat (first | exact Le.refl _ | assumption | apply Le.drop))))
      · refine ⟨fun x S c he hw hd hc hcu hm _ => ?_, trivial⟩
        obtain ⟨h2, h3, -⟩ := hd
        obtain rfl : c = 0 := hm rfl
        refine TOps.call (vs := [_, _]) Try.call36 ⟨h2, h3, trivial⟩ (image_g (to := TB) hTl (RdS.up (RdS.up (RdS.up hBr))) (Rd.up (Rd.up (Rd.up hTr))) (by omega) (by omega) hab) rfl ?_
        rintro _ _ ⟨a', c', rfl, h0', rfl⟩
        refine TOps.fin (Nrm.draw (⟨a', h0'⟩, c', x.2.2) ?_ rfl (Le.refl _))
        intro j hj hcj; rcases j with _|_|_|_|_|_|_|_|_|j <;> first | rfl | exact absurd rfl hj | exact absurd hcj (by decide)
      · refine ⟨fun x S c he hw hd hc hcu hm _ => ?_, trivial⟩
        obtain ⟨h4, -⟩ := hd
        obtain rfl : c = 1 := hm rfl
        refine TOps.buildSlice (vs := [_]) (xs := [_, _, _]) Try.underlying22 ti66 ⟨rfl, h4, trivial⟩ rfl rfl rfl rfl rfl rfl (by decide) rfl (fun b79 => ?_)
        refine TOps.fin (Nrm.draw (x.1, x.2.1, b79, x.2.2.2) ?_ rfl (Le.refl _))
        intro j hj hcj; rcases j with _|_|_|_|_|_|_|_|_|j <;> first | rfl | exact absurd rfl hj | exact absurd hcj (by decide)
      · refine ⟨fun x S c he hw hd hc hcu hm _ => ?_, trivial⟩
        obtain ⟨h1, h5, h4, -⟩ := hd
        obtain rfl : c = 2 := hm rfl
        refine TOps.appendLit h1 h5 Try.underlying22 ti66 rfl (fun _ _ => (by repeat (first | exact Upd.here | apply Upd.there))) rfl (by rw [hcl, hkk]) rfl (by omega) (by omega) (by simp) rfl (fun b80 cap80 => ?_)
        refine TOps.fin (Nrm.draw (x.1, x.2.1, x.2.2.1, b80, cap80) ?_ rfl (Le.refl _))
        intro j hj hcj; rcases j with _|_|_|_|_|_|_|_|_|j <;> first | rfl | exact absurd rfl hj | exact absurd hcj (by decide)
      · refine ⟨fun x S c he hw hd hc hcu hm _ => ?_, trivial⟩
        obtain ⟨h0, h1, h2, h3, h4, h5, h6, -⟩ := hd
        first | refine TOps.fieldB 1 (he _ _ rfl) Try.underlying24 rfl rfl ti22 rfl rfl rfl ?_ | refine TOps.fieldN 1 (he _ _ rfl) Try.underlying24 rfl rfl ti22 rfl rfl rfl ?_
        exact TOps.fin (Nrm.draw x (fun _ _ _ => rfl) rfl (by first | exact Le.refl _ | assumption | exact (by repeat (first | exact Le.refl _ | assumption | apply Le.drop))))
      · refine ⟨fun x S c he hw hd hc hcu hm _ => ?_, trivial⟩
        obtain ⟨h7, h6, _, h0, h1, h2, h3, h4, h5, _, -⟩ := hd
        obtain rfl : c = 3 := hm rfl
        refine TOps.store1 h7 h6 ti22 rfl rfl (by repeat (first | exact Upd.here | apply Upd.there)) (by simp) ?_
        exact TOps.fin (Nrm.draw x (fun _ _ _ => rfl) rfl (by first | exact Le.refl _ | assumption | exact (by repeat (first | exact Le.refl _ | assumption | apply Le.drop))))
      ) (fun w => ?_)
    subst hHB hkk
    refine Nrm.body ((some w.2.2.2.1, w.2.2.2.2), qs ++ [(w.1.1, 0, w.2.1, none)], row w.1.1 3 1 w.2.1 (ints (trA TB d.args)) :: H3) (by rw [hsn]; exact ⟨ArgsIn.snoc (hp3.le (Le.drop (Le.refl _))) (RdS.ofRowA (List.Mem.head _) w.1.2), fun _ => ⟨_, rfl⟩⟩) ⟨rfl, rfl, rfl, rfl, rfl, rfl, rfl, rfl, trivial⟩ (by rw [hsn]; exact (Sp.le (by repeat (first | exact Sp.refl _ | exact Sp.sub (by assumption) | refine Sp.cons (by repeat (first | exact Pick.here | exact Pick.row (by first | (simp; done) | (rw [nsCells_snoc _ _ _ _ hp3.1, ← hCS]; simp [ndCells, trN, trA_length]; done)) | apply Pick.there)) ?_ | exact Sp.nil | apply Sp.skip))))
  obtain ⟨hp3, hp4⟩ := hp
  rw [List.take_length] at hM hp3 hp4
  obtain ⟨⟨oa1, ocap1⟩, qs1, H3⟩ := z
  dsimp only at hM hS hp3 hp4
  have hp1 : Le (H3 ++ H2) H2 := Le.sub (List.sublist_append_right _ _)
  have r1' := r1.le hp1; have r2' := r2.le hp1
  refine Nrm.of hS hM ?_
  refine Nrm.next ?_
  refine Tri.seq (Tri.region ?_)
  refine TOps.field0 rfl Try.underlying24 rfl rfl ti3 rfl rfl rfl ?_
  refine TOps.load1 rfl ti3 (by first | exact Rd.lit (by repeat (first | exact List.Mem.head _ | apply List.Mem.tail)) rfl | (repeat (first | assumption | exact Rd.fld (by assumption) 0 rfl | apply Rd.up))) rfl ?_
  first | refine TOps.fieldB 1 rfl Try.underlying24 rfl rfl ti22 rfl rfl rfl ?_ | refine TOps.fieldN 1 rfl Try.underlying24 rfl rfl ti22 rfl rfl rfl ?_
  refine TOps.load1 rfl ti22 (by first | exact Rd.lit (by repeat (first | exact List.Mem.head _ | apply List.Mem.tail)) rfl | (repeat (first | assumption | exact Rd.fld (by assumption) 1 rfl | apply Rd.up))) rfl ?_
  refine TOps.len rfl Try.underlying22 rfl ?_
  refine TOps.add (r := ((n2 : Nat) : Int)) rfl rfl (by rw [wrapI (by omega) (by omega)]; omega) rfl ?_
  refine TOps.make1 rfl rfl Try.underlying50 ti3 (by omega) (by omega) (by omega) rfl (fun b89 => ?_)
  refine TOps.assign rfl rfl ?_
  refine TOps.next ?_
  refine Tri.seq ?_
  refine Tri.seq (Tri.region ?_)
  refine TOps.move rfl rfl ?_
  refine TOps.len rfl Try.underlying50 rfl ?_
  refine TOps.move rfl rfl ?_
  refine TOps.next ?_
  refine Tri.range (X := Unit) (fun x k => [(2, .pointer (some ⟨b2, 0, none⟩)), (3, .pointer (some ⟨b3, 0, none⟩)), (4, .pointer (some ⟨b4, 0, none⟩)), (8, .pointer (some ⟨b8, 0, none⟩)), (13, slV (some b89) 0 n2 n2)]) (fun x k => row (some b89) 3 1 n2 (nats ((putTab O I).take k ++ List.replicate (n2 - k) 0)) :: row (some b8) 24 3 1 [.int .i64 vi, slV oa1 0 I.nodes.length ocap1, .int .i64 0] :: row oa1 66 3 ocap1 (nsCells I.nodes qs1) :: row (some b4) 24 3 1 [.int .i64 0, slV none 0 0 0, .int .i64 0] :: (H3 ++ H2)) (fun x k => True) (by omega) rfl rfl rfl (fun _ _ => ⟨rfl, rfl, rfl, rfl⟩) () trivial ⟨rfl, rfl, rfl, rfl, rfl, trivial⟩ (Sp.le (by repeat (first | exact Sp.refl _ | exact Sp.sub (by assumption) | refine Sp.cons (by repeat (first | exact Pick.here | exact Pick.row (by simp) | apply Pick.there)) ?_ | exact Sp.nil | apply Sp.skip))) (fun k x hlt hp => ?_) (fun x ac wc hp hS hM => ?_)
  · skip
    have hpt := putTab_getD (O := O) (I := I) (a := k) (by rw [hovn]; omega)
    rw [hvn, show I.top.toNat = tI by omega] at hpt
    refine Tri.seq (Tri.region ?_)
    refine TOps.move rfl rfl ?_
    refine TOps.assign rfl rfl ?_
    refine TOps.next ?_
    refine Tri.block ?_
    refine Tri.seq (Tri.region ?_)
    refine TOps.move rfl rfl ?_
    refine TOps.field0 rfl Try.underlying24 rfl rfl ti3 rfl rfl rfl ?_
    refine TOps.load1 rfl ti3 (by first | exact Rd.lit (by repeat (first | exact List.Mem.head _ | apply List.Mem.tail)) rfl | (repeat (first | assumption | exact Rd.fld (by assumption) 0 rfl | apply Rd.up))) rfl ?_
    refine TOps.lss rfl rfl rfl ?_
    refine TOps.assign rfl rfl ?_
    refine TOps.next ?_
    refine Tri.cond rfl (fun hc5 => ?_) (fun hc5 => ?_)
    · try simp only [decide_eq_true_eq, decide_eq_false_iff_not, Bool.and_eq_true, Bool.or_eq_true, Bool.not_eq_true', Bool.and_eq_false_iff, Bool.or_eq_false_iff, Bool.not_eq_false', Int.not_lt, Int.not_le, ne_eq, Decidable.not_not, Option.isSome_iff_ne_none, Option.isNone_iff_eq_none] at hc5
      rw [if_pos (by omega)] at hpt
      refine Tri.region ?_
      refine TOps.move rfl rfl ?_
      refine TOps.move rfl rfl ?_
      refine TOps.move rfl rfl ?_
      refine TOps.indexAddr (off' := k) rfl rfl Try.underlying50 ti3 (by omega) (by omega) (by simp) rfl ?_
      refine TOps.store1 rfl rfl ti3 rfl rfl (by repeat (first | exact Upd.here | apply Upd.there)) (by first | decide | (simp; done) | (simp; omega)) ?_
      refine TOps.fin ?_
      refine Nrm.unB ?_
      refine Nrm.body () trivial ⟨rfl, rfl, rfl, rfl, rfl, rfl, rfl, trivial⟩ (Le.rowEq (by rw [← nats_set, take_fill hpl (by omega) hpt]))
    try simp only [decide_eq_true_eq, decide_eq_false_iff_not, Bool.and_eq_true, Bool.or_eq_true, Bool.not_eq_true', Bool.and_eq_false_iff, Bool.or_eq_false_iff, Bool.not_eq_false', Int.not_lt, Int.not_le, ne_eq, Decidable.not_not, Option.isSome_iff_ne_none, Option.isNone_iff_eq_none] at hc5
    rw [if_neg (by omega)] at hpt
    refine Tri.seq (Tri.region ?_)
    refine TOps.move rfl rfl ?_
    refine TOps.field0 rfl Try.underlying24 rfl rfl ti3 rfl rfl rfl ?_
    refine TOps.load1 rfl ti3 (by first | exact Rd.lit (by repeat (first | exact List.Mem.head _ | apply List.Mem.tail)) rfl | (repeat (first | assumption | exact Rd.fld (by assumption) 0 rfl | apply Rd.up))) rfl ?_
    refine TOps.eqlI rfl rfl rfl ?_
    refine TOps.assign rfl rfl ?_
    refine TOps.next ?_
    refine Tri.cond rfl (fun hc6 => ?_) (fun hc6 => ?_)
    · try simp only [decide_eq_true_eq, decide_eq_false_iff_not, Bool.and_eq_true, Bool.or_eq_true, Bool.not_eq_true', Bool.and_eq_false_iff, Bool.or_eq_false_iff, Bool.not_eq_false', Int.not_lt, Int.not_le, ne_eq, Decidable.not_not, Option.isSome_iff_ne_none, Option.isNone_iff_eq_none] at hc6
      rw [if_pos (by omega)] at hpt
      refine Tri.region ?_
      refine TOps.move rfl rfl ?_
      refine TOps.move rfl rfl ?_
      first | refine TOps.fieldB 2 rfl Try.underlying24 rfl rfl ti3 rfl rfl rfl ?_ | refine TOps.fieldN 2 rfl Try.underlying24 rfl rfl ti3 rfl rfl rfl ?_
      refine TOps.load1 rfl ti3 (by first | exact Rd.lit (by repeat (first | exact List.Mem.head _ | apply List.Mem.tail)) rfl | (repeat (first | assumption | exact Rd.fld (by assumption) 2 rfl | apply Rd.up))) rfl ?_
      refine TOps.indexAddr (off' := k) rfl rfl Try.underlying50 ti3 (by omega) (by omega) (by simp) rfl ?_
      refine TOps.store1 rfl rfl ti3 rfl rfl (by repeat (first | exact Upd.here | apply Upd.there)) (by first | decide | (simp; done) | (simp; omega)) ?_
      refine TOps.fin ?_
      refine Nrm.unB ?_
      refine Nrm.body () trivial ⟨rfl, rfl, rfl, rfl, rfl, rfl, rfl, trivial⟩ (Le.rowEq (by rw [← nats_set, take_fill hpl (by omega) hpt]))
    try simp only [decide_eq_true_eq, decide_eq_false_iff_not, Bool.and_eq_true, Bool.or_eq_true, Bool.not_eq_true', Bool.and_eq_false_iff, Bool.or_eq_false_iff, Bool.not_eq_false', Int.not_lt, Int.not_le, ne_eq, Decidable.not_not, Option.isSome_iff_ne_none, Option.isNone_iff_eq_none] at hc6
    rw [if_neg (by omega)] at hpt
    refine Tri.region ?_
    refine TOps.move rfl rfl ?_
    refine TOps.move rfl rfl ?_
    refine TOps.move rfl rfl ?_
    refine TOps.sub (r := ((k - 1 : Nat) : Int)) rfl rfl (by rw [wrapI (by omega) (by omega)]; omega) rfl ?_
    first | refine TOps.fieldB 1 rfl Try.underlying24 rfl rfl ti22 rfl rfl rfl ?_ | refine TOps.fieldN 1 rfl Try.underlying24 rfl rfl ti22 rfl rfl rfl ?_
    refine TOps.load1 rfl ti22 (by first | exact Rd.lit (by repeat (first | exact List.Mem.head _ | apply List.Mem.tail)) rfl | (repeat (first | assumption | exact Rd.fld (by assumption) 1 rfl | apply Rd.up))) rfl ?_
    refine TOps.len rfl Try.underlying22 rfl ?_
    refine TOps.add (r := ((k - 1 + I.nodes.length : Nat) : Int)) rfl rfl (by rw [wrapI (by omega) (by omega)]; omega) rfl ?_
    refine TOps.indexAddr (off' := k) rfl rfl Try.underlying50 ti3 (by omega) (by omega) (by simp) rfl ?_
    refine TOps.store1 rfl rfl ti3 rfl rfl (by repeat (first | exact Upd.here | apply Upd.there)) (by first | decide | (simp; done) | (simp; omega)) ?_
    refine TOps.fin ?_
    refine Nrm.unB ?_
    refine Nrm.body () trivial ⟨rfl, rfl, rfl, rfl, rfl, rfl, rfl, trivial⟩ (Le.rowEq (by rw [← nats_set, take_fill hpl (by omega) hpt]))
  rw [show (putTab O I).take n2 ++ List.replicate (n2 - n2) 0 = putTab O I from by rw [Nat.sub_self, List.replicate_zero, List.append_nil]; exact List.take_of_length_le (by omega)] at hM
  refine Nrm.of hS hM ?_
  refine Nrm.next ?_
  refine Tri.seq ?_
  refine Tri.seq (Tri.region ?_)
  first | refine TOps.fieldB 1 rfl Try.underlying24 rfl rfl ti22 rfl rfl rfl ?_ | refine TOps.fieldN 1 rfl Try.underlying24 rfl rfl ti22 rfl rfl rfl ?_
  refine TOps.load1 rfl ti22 (by first | exact Rd.lit (by repeat (first | exact List.Mem.head _ | apply List.Mem.tail)) rfl | (repeat (first | assumption | exact Rd.fld (by assumption) 1 rfl | apply Rd.up))) rfl ?_
  refine TOps.len rfl Try.underlying22 rfl ?_
  refine TOps.move rfl rfl ?_
  refine TOps.next ?_
  refine Tri.range (X := (Option Nat × Nat) × List SA × List Ent) (fun z k => [(2, .pointer (some ⟨b2, 0, none⟩)), (3, .pointer (some ⟨b3, 0, none⟩)), (4, .pointer (some ⟨b4, 0, none⟩)), (8, .pointer (some ⟨b8, 0, none⟩)), (13, slV (some b89) 0 n2 n2), (125, slV oa0 ooff O.nodes.length oc0 osp)]) (fun z k => row (some b8) 24 3 1 [.int .i64 vi, slV z.1.1 0 (I.nodes.length + k) z.1.2, .int .i64 0] :: row z.1.1 66 3 z.1.2 (nsCells (I.nodes ++ (O.nodes.take k).map (trN (putTab O I))) z.2.1) :: row (some b89) 3 1 n2 (nats (putTab O I)) :: row (some b4) 24 3 1 [.int .i64 0, slV none 0 0 0, .int .i64 0] :: (z.2.2 ++ H2)) (fun z k => ArgsIn z.2.2 (I.nodes ++ (O.nodes.take k).map (trN (putTab O I))) z.2.1 ∧ (I.nodes ++ (O.nodes.take k).map (trN (putTab O I)) ≠ [] → ∃ b, z.1.1 = some b)) (by omega) rfl rfl rfl (fun _ _ => ⟨rfl, rfl, rfl, rfl⟩) ((oa1, ocap1), qs1, H3) ⟨by simpa using hp3, by simpa using hp4⟩ ⟨rfl, rfl, rfl, rfl, rfl, rfl, trivial⟩ (Sp.le (by repeat (first | exact Sp.refl _ | exact Sp.sub (by assumption) | refine Sp.cons (by repeat (first | exact Pick.here | exact Pick.row (by simp) | apply Pick.there)) ?_ | exact Sp.nil | apply Sp.skip))) (fun k z hlt hp => ?_) (fun z ac wc hp hS hM => ?_)
  · skip
    obtain ⟨⟨oa, ocap⟩, qs, H4⟩ := z
    obtain ⟨hq3, hq4⟩ := hp
    dsimp only at hq3 hq4 ⊢
    have hq1 : Le (H4 ++ H2) H2 := Le.sub (List.sublist_append_right _ _)
    obtain ⟨nb, aa, ao, acap, asp, rfl, rfl, hn⟩ := hNO.at hlt
    have hfi := hgO.fits k hlt
    have hcells := hn.cells
    have hal := hfi.len
    have hat := hfi.args
    obtain ⟨d, hd⟩ : ∃ d, d = O.nodes[k] := ⟨_, rfl⟩
    rw [← hd] at hcells hn hal hat
    replace hcells := hcells.le hq1; replace hn := hn.le hq1
    have htk : (I.nodes ++ (O.nodes.take k).map (trN (putTab O I))).length = I.nodes.length + k := by rw [List.length_append, List.length_map, List.length_take]; omega
    have hab : ∀ x ∈ d.args, 0 ≤ x ∧ x.toNat < (putTab O I).length := fun x hx => by have := hat x hx; rw [hpl]; omega
    have htake : I.nodes ++ (O.nodes.take (k + 1)).map (trN (putTab O I)) = (I.nodes ++ (O.nodes.take k).map (trN (putTab O I))) ++ [trN (putTab O I) d] := by rw [List.take_succ_eq_append_getElem hlt, List.map_append, ← hd]; simp
    refine Tri.seq (Tri.region ?_)
    refine TOps.indexAddr (off' := ooff + k * 3) rfl rfl Try.underlying22 ti66 (by omega) (by omega) (by simp) rfl ?_
    refine TOps.loadN (vs := [.int .i64 d.kind, .int .i64 d.k, slV aa ao d.args.length acap asp]) rfl ti66 (by repeat (first | exact hcells | apply Rd.up)) rfl rfl ?_
    refine TOps.alloc ti66 rfl (fun b16 => ?_)
    refine TOps.storeN rfl rfl ti66 rfl rfl (by repeat (first | exact Upd.here | apply Upd.there)) (by first | decide | (simp; done) | (simp; omega)) ?_
    refine TOps.next ?_
    obtain ⟨CS, hCS⟩ : ∃ CS, CS = nsCells (I.nodes ++ (O.nodes.take k).map (trN (putTab O I))) qs := ⟨_, rfl⟩
    have hcl : CS.length = (I.nodes.length + k) * 3 := by rw [hCS, nsCells_length _ _ hq3.1, htk]
    obtain ⟨kk, hkk⟩ : ∃ kk, kk = I.nodes.length + k := ⟨_, rfl⟩
    obtain ⟨TB, hTB⟩ : ∃ TB, TB = putTab O I := ⟨_, rfl⟩
    have hTl : TB.length = n2 := by rw [hTB, hpl]
    rw [← hTB] at hab
    obtain ⟨HB, hHB⟩ : ∃ HB, HB = row (some b89) 3 1 n2 (nats (putTab O I)) :: row (some b4) 24 3 1 [.int .i64 0, slV none 0 0 0, .int .i64 0] :: (H4 ++ H2) := ⟨_, rfl⟩
    have hBr : RInts HB aa ao d.args asp := by rw [hHB]; exact RdS.up (RdS.up hn.args)
    have hTr : Rd HB b89 0 (nats TB) := by rw [hHB, hTB]; exact Rd.all (by repeat (first | exact List.Mem.head _ | apply List.Mem.tail))
    refine Tri.drawX (X := OA (ints (trA TB d.args)) × Nat × Nat × Nat × Nat) rfl [(2, .pointer (some ⟨b2, 0, none⟩)), (3, .pointer (some ⟨b3, 0, none⟩)), (4, .pointer (some ⟨b4, 0, none⟩)), (8, .pointer (some ⟨b8, 0, none⟩)), (13, slV (some b89) 0 n2 n2), (125, slV (some nb) ooff O.nodes.length oc0), (126, .int .i64 O.nodes.length), (127, .int .i64 k), (16, .pointer (some ⟨b16, 0, none⟩))] [] (fun x => [_, slV oa 0 kk ocap, .agg (List.toArray [.int .i64 d.kind, .int .i64 d.k, slV aa ao d.args.length acap asp]), _, .agg (List.toArray [.int .i64 d.kind, .int .i64 d.k, slV x.1.1 0 d.args.length x.2.1]), slV (some x.2.2.1) 0 1 1, slV (some x.2.2.2.1) 0 (kk + 1) x.2.2.2.2, _, undef]) (fun x c => match c with | 0 => row (some b16) 66 3 1 [.int .i64 d.kind, .int .i64 d.k, slV aa ao d.args.length acap asp] :: row (some b8) 24 3 1 [.int .i64 vi, slV oa 0 kk ocap, .int .i64 0] :: row oa 66 3 ocap CS :: HB | 1 => row x.1.1 3 1 x.2.1 (ints (trA TB d.args)) :: row (some b16) 66 3 1 [.int .i64 d.kind, .int .i64 d.k, slV aa ao d.args.length acap asp] :: row (some b8) 24 3 1 [.int .i64 vi, slV oa 0 kk ocap, .int .i64 0] :: row oa 66 3 ocap CS :: HB | 2 => row (some x.2.2.1) 66 3 1 [.int .i64 d.kind, .int .i64 d.k, slV x.1.1 0 d.args.length x.2.1] :: row x.1.1 3 1 x.2.1 (ints (trA TB d.args)) :: row (some b16) 66 3 1 [.int .i64 d.kind, .int .i64 d.k, slV aa ao d.args.length acap asp] :: row (some b8) 24 3 1 [.int .i64 vi, slV oa 0 kk ocap, .int .i64 0] :: row oa 66 3 ocap CS :: HB | 3 => row x.1.1 3 1 x.2.1 (ints (trA TB d.args)) :: row (some b16) 66 3 1 [.int .i64 d.kind, .int .i64 d.k, slV aa ao d.args.length acap asp] :: row (some b8) 24 3 1 [.int .i64 vi, slV oa 0 kk ocap, .int .i64 0] :: row (some x.2.2.2.1) 66 3 x.2.2.2.2 (CS ++ [.int .i64 d.kind, .int .i64 d.k, slV x.1.1 0 d.args.length x.2.1]) :: HB | _ + 4 => row x.1.1 3 1 x.2.1 (ints (trA TB d.args)) :: row (some b16) 66 3 1 [.int .i64 d.kind, .int .i64 d.k, slV aa ao d.args.length acap asp] :: row (some b8) 24 3 1 [.int .i64 vi, slV (some x.2.2.2.1) 0 (kk + 1) x.2.2.2.2, .int .i64 0] :: row (some x.2.2.2.1) 66 3 x.2.2.2.2 (CS ++ [.int .i64 d.kind, .int .i64 d.k, slV x.1.1 0 d.args.length x.2.1]) :: HB) [4, 5, 6, 8] (OA.zero _, 0, 0, 0, 0) [] rfl rfl ⟨rfl, rfl, rfl, rfl, rfl, rfl, rfl, rfl, rfl, trivial⟩ trivial (by subst hHB hCS hkk; exact (Sp.le (by repeat (first | exact Sp.refl _ | exact Sp.sub (by assumption) | refine Sp.cons (by repeat (first | exact Pick.here | apply Pick.there)) ?_ | exact Sp.nil | apply Sp.skip)))) (by
      refine ⟨?_, ?_, ?_, ?_, ?_, ?_, ?_, ?_, ?_, trivial⟩
      · refine ⟨fun x S c he hw hd hc hcu hm _ => ?_, trivial⟩
        first | refine TOps.fieldB 1 (he _ _ rfl) Try.underlying24 rfl rfl ti22 rfl rfl rfl ?_ | refine TOps.fieldN 1 (he _ _ rfl) Try.underlying24 rfl rfl ti22 rfl rfl rfl ?_
        exact TOps.fin (Nrm.draw x (fun _ _ _ => rfl) rfl (by first | exact Le.refl _ | assumption | exact (by repeat (first | exact Le.refl _ | assumption | apply Le.drop))))
      · refine ⟨fun x S c he hw hd hc hcu hm _ => ?_, trivial⟩
        obtain ⟨h0, -⟩ := hd
        rcases (show c = 0 ∨ c = 1 ∨ c = 2 by have : c ≤ 2 := hcu; omega) with rfl | rfl | rfl <;> refine TOps.load1 h0 ti22 (Rd.lit (by repeat (first | exact List.Mem.head _ | apply List.Mem.tail)) rfl) rfl ?_
        all_goals exact TOps.fin (Nrm.draw x (fun _ _ _ => rfl) rfl (Le.refl _))
      · refine ⟨fun x S c he hw hd hc hcu hm _ => ?_, trivial⟩
        obtain rfl : c = 0 := by have : c ≤ 0 := hcu; omega
        refine TOps.loadN (he _ _ rfl) ti66 (Rd.all (by repeat (first | exact List.Mem.head _ | apply List.Mem.tail))) rfl rfl ?_
        exact TOps.fin (Nrm.draw x (fun _ _ _ => rfl) rfl (by first | exact Le.refl _ | assumption | exact (by repeat (first | exact Le.refl _ | assumption | apply Le.drop))))
      · refine ⟨fun x S c he hw hd hc hcu hm _ => ?_, trivial⟩
        refine TOps.move (he _ _ rfl) rfl ?_
        exact TOps.fin (Nrm.draw x (fun _ _ _ => rfl) rfl (by first | exact Le.refl _ | assumption | exact (by repeat (first | exact Le.refl _ | assumption | apply Le.drop))))
      · refine ⟨fun x S c he hw hd hc hcu hm _ => ?_, trivial⟩
        obtain ⟨h2, h3, -⟩ := hd
        obtain rfl : c = 0 := hm rfl
        refine TOps.call (vs := [_, _]) Try.call36 ⟨h2, h3, trivial⟩ (image_g (to := TB) hTl (RdS.up (RdS.up (RdS.up hBr))) (Rd.up (Rd.up (Rd.up hTr))) (by omega) (by omega) hab) rfl ?_
        rintro _ _ ⟨a', c', rfl, h0', rfl⟩
        refine TOps.fin (Nrm.draw (⟨a', h0'⟩, c', x.2.2) ?_ rfl (Le.refl _))
        intro j hj hcj; rcases j with _|_|_|_|_|_|_|_|_|j <;> first | rfl | exact absurd rfl hj | exact absurd hcj (by decide)
      · refine ⟨fun x S c he hw hd hc hcu hm _ => ?_, trivial⟩
        obtain ⟨h4, -⟩ := hd
        obtain rfl : c = 1 := hm rfl
        refine TOps.buildSlice (vs := [_]) (xs := [_, _, _]) Try.underlying22 ti66 ⟨rfl, h4, trivial⟩ rfl rfl rfl rfl rfl rfl (by decide) rfl (fun b136 => ?_)
        refine TOps.fin (Nrm.draw (x.1, x.2.1, b136, x.2.2.2) ?_ rfl (Le.refl _))
        intro j hj hcj; rcases j with _|_|_|_|_|_|_|_|_|j <;> first | rfl | exact absurd rfl hj | exact absurd hcj (by decide)
      · refine ⟨fun x S c he hw hd hc hcu hm _ => ?_, trivial⟩
        obtain ⟨h1, h5, h4, -⟩ := hd
        obtain rfl : c = 2 := hm rfl
        refine TOps.appendLit h1 h5 Try.underlying22 ti66 rfl (fun _ _ => (by repeat (first | exact Upd.here | apply Upd.there))) rfl (by rw [hcl, hkk]) rfl (by omega) (by omega) (by simp) rfl (fun b137 cap137 => ?_)
        refine TOps.fin (Nrm.draw (x.1, x.2.1, x.2.2.1, b137, cap137) ?_ rfl (Le.refl _))
        intro j hj hcj; rcases j with _|_|_|_|_|_|_|_|_|j <;> first | rfl | exact absurd rfl hj | exact absurd hcj (by decide)
      · refine ⟨fun x S c he hw hd hc hcu hm _ => ?_, trivial⟩
        obtain ⟨h0, h1, h2, h3, h4, h5, h6, -⟩ := hd
        first | refine TOps.fieldB 1 (he _ _ rfl) Try.underlying24 rfl rfl ti22 rfl rfl rfl ?_ | refine TOps.fieldN 1 (he _ _ rfl) Try.underlying24 rfl rfl ti22 rfl rfl rfl ?_
        exact TOps.fin (Nrm.draw x (fun _ _ _ => rfl) rfl (by first | exact Le.refl _ | assumption | exact (by repeat (first | exact Le.refl _ | assumption | apply Le.drop))))
      · refine ⟨fun x S c he hw hd hc hcu hm _ => ?_, trivial⟩
        obtain ⟨h7, h6, _, h0, h1, h2, h3, h4, h5, _, -⟩ := hd
        obtain rfl : c = 3 := hm rfl
        refine TOps.store1 h7 h6 ti22 rfl rfl (by repeat (first | exact Upd.here | apply Upd.there)) (by simp) ?_
        exact TOps.fin (Nrm.draw x (fun _ _ _ => rfl) rfl (by first | exact Le.refl _ | assumption | exact (by repeat (first | exact Le.refl _ | assumption | apply Le.drop))))
      ) (fun w => ?_)
    subst hHB hkk
    refine Nrm.body ((some w.2.2.2.1, w.2.2.2.2), qs ++ [(w.1.1, 0, w.2.1, none)], row w.1.1 3 1 w.2.1 (ints (trA TB d.args)) :: H4) (by rw [htake, ← hTB]; rw [← hTB] at hq3; exact ⟨ArgsIn.snoc (hq3.le (Le.drop (Le.refl _))) (RdS.ofRowA (List.Mem.head _) w.1.2), fun _ => ⟨_, rfl⟩⟩) ⟨rfl, rfl, rfl, rfl, rfl, rfl, rfl, rfl, trivial⟩ (by rw [htake]; exact (Sp.le (by repeat (first | exact Sp.refl _ | exact Sp.sub (by assumption) | refine Sp.cons (by repeat (first | exact Pick.here | exact Pick.row (by first | (simp; done) | (rw [nsCells_snoc _ _ _ _ hq3.1, ← hCS]; simp [ndCells, trN, trA_length]; done)) | apply Pick.there)) ?_ | exact Sp.nil | apply Sp.skip))))
  obtain ⟨hq3, hq4⟩ := hp
  have hq1 : Le (z.2.2 ++ H2) H2 := Le.sub (List.sublist_append_right _ _)
  rw [List.take_length] at hM hq3 hq4
  have htO : O.top.toNat < n2 := by omega
  have r1z := r1.le hq1
  refine Nrm.of hS hM ?_
  refine Nrm.next ?_
  refine Tri.seq (Tri.region ?_)
  refine TOps.move rfl rfl ?_
  first | refine TOps.fieldB 2 rfl Try.underlying24 rfl rfl ti3 rfl rfl rfl ?_ | refine TOps.fieldN 2 rfl Try.underlying24 rfl rfl ti3 rfl rfl rfl ?_
  refine TOps.load1 rfl ti3 (by first | exact Rd.lit (by repeat (first | exact List.Mem.head _ | apply List.Mem.tail)) rfl | (repeat (first | assumption | exact Rd.fld (by assumption) 2 rfl | apply Rd.up))) rfl ?_
  refine TOps.indexAddr (off' := O.top.toNat) rfl rfl Try.underlying50 ti3 (by omega) (by omega) (by simp) rfl ?_
  refine TOps.load1 (v := .int .i64 ((putTab O I).getD O.top.toNat 0 : Nat)) rfl ti3 (Rd.lit (by repeat (first | exact List.Mem.head _ | apply List.Mem.tail)) (nats_get (by omega))) rfl ?_
  first | refine TOps.fieldB 2 rfl Try.underlying24 rfl rfl ti3 rfl rfl rfl ?_ | refine TOps.fieldN 2 rfl Try.underlying24 rfl rfl ti3 rfl rfl rfl ?_
  refine TOps.store1 rfl rfl ti3 rfl rfl (by repeat (first | exact Upd.here | apply Upd.there)) (by first | decide | (simp; done) | (simp; omega) | exact (show (2 : Nat) < 3 by decide)) ?_
  refine TOps.next ?_
  refine Tri.seq (Tri.region ?_)
  refine TOps.loadN rfl ti24 (by first | exact Rd.all (by repeat (first | exact List.Mem.head _ | apply List.Mem.tail)) | (repeat (first | assumption | apply Rd.up))) rfl rfl ?_
  refine TOps.storeN rfl rfl ti24 rfl rfl (by repeat (first | exact Upd.here | apply Upd.there)) (by first | decide | (simp; done) | (simp; omega)) ?_
  refine TOps.assign rfl rfl ?_
  refine TOps.next ?_
  refine Tri.ret2 (H' := (row z.1.1 66 3 z.1.2 (nsCells (I.nodes ++ O.nodes.map (trN (putTab O I))) z.2.1) :: z.2.2) ++ H) Try.results18 (fun _ _ h => h) (.cellN rfl rfl ti24 (Rd.all (by repeat (first | exact List.Mem.head _ | apply List.Mem.tail))) rfl) (.tmp rfl) ?_ ⟨z.1.1, z.1.2, row z.1.1 66 3 z.1.2 (nsCells (I.nodes ++ O.nodes.map (trN (putTab O I))) z.2.1) :: z.2.2, ?_, ?_, rfl⟩
  · exact Le.sub (by simp only [List.cons_append]; repeat (first | exact List.Sublist.cons_cons _ (List.Sublist.cons _ (List.Sublist.cons _ (List.Sublist.append_left (s1.trans s2) _))) | apply List.Sublist.cons))
  · have e1 : O.putF I = O.put I := by unfold Fm.putF; rw [hpe]; rfl
    rw [hpe, e1]; simp only [Fm.put, hvi, List.length_append, List.length_map]; rfl
  · unfold Fm.putF; rw [hpe]
    exact RNodes.ofA (E := 66) (sz := 3) (cap := z.1.2) (List.Mem.head _) (hq3.le (Le.drop (Le.refl _))) hq4
theorem put_g {H : List Ent} {ov iv : Value} {O I : Fm} (hO : RF H ov O) (hI : RF H iv I) (hkO : O.ok) (hkI : I.ok) :
    Gives Try.prog 18 [ov, iv] H (NewFE 45 (O.putF I) (O.putErr I) H) := by
  intro w hM
  refine (putN_g hO hI hkO hkI w hM).mono fun e W' h => ?_
  obtain ⟨v, H', ⟨a, cap, N, h1, h2, h3⟩, h4, h5⟩ := h
  subst h3
  exact ⟨v, N ++ H, ⟨_, h1, Le.sub (List.sublist_append_right _ _), List.sublist_append_right _ _, ⟨a, 0, cap, none, rfl, h2.le (Le.sub (List.sublist_append_left _ _))⟩⟩, h4, h5⟩
end Go.Proofs
