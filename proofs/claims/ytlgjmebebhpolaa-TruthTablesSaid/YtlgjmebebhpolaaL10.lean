import Derived.Test.YtlgjmebebhpolaaA10
import Derived.Test.YtlgjmebebhpolaaB10
import Derived.Test.YtlgjmebebhpolaaNU
import Derived.Test.YtlgjmebebhpolaaGL44
namespace Go.Proofs
open Go.GL
set_option linter.unusedVariables false
set_option linter.unusedSimpArgs false
theorem count_g {H : List Ent} {fv : Value} {F : Fm} (hF : RF H fv F) (hk : F.ok) :
    Gives Try.prog 15 [fv] H (R1 (.tuple (List.toArray [.int .i64 (bif F.terr.isNone then (F.count : Int) else 0), errV 48 F.terr])) H) := by
  have hF0 := hF
  obtain ⟨na, off, ncap, nsp, rfl, hN⟩ := hF
  refine Gives.enter Try.func15 rfl (by exact Try.ntmps15) rfl ?_
  refine Tri.seq (Tri.region ?_)
  refine TOps.boxN rfl ti24 rfl rfl (fun b1 => ?_)
  refine TOps.hide (fun H1 l1 s1 r1 => ?_)
  replace hF0 := hF0.le l1
  refine TOps.assign rfl rfl ?_
  refine TOps.assign rfl rfl ?_
  refine TOps.next ?_
  refine Tri.seq (Tri.region ?_)
  refine TOps.loadN rfl ti24 (by first | exact Rd.all (by repeat (first | exact List.Mem.head _ | apply List.Mem.tail)) | (repeat (first | assumption | apply Rd.up))) rfl rfl ?_
  refine TOps.call (vs := [_]) Try.call14 ⟨rfl, trivial⟩ (weights_g hF0 hk) rfl ?_
  rintro _ _ ⟨xs, la, lcap, hxs, rfl, hla, rfl⟩
  have hlr : RdS (row la 3 1 lcap (nats xs) :: H1) la 0 (nats xs) := RdS.ofRowA (List.Mem.head _) hla
  have l2 : Le (row la 3 1 lcap (nats xs) :: H1) H := Le.drop l1
  generalize row la 3 1 lcap (nats xs) :: H1 = H2 at *
  have hx4 : (∀ x ∈ xs, x ≤ 4096) ∧ xs.length ≤ 13 ∧ (xs.sum : Int) = (bif F.terr.isNone then (F.count : Int) else 0) := by
    cases he : F.terr with
    | some e => rw [hxs, he]; simp
    | none =>
      obtain ⟨hg, h12⟩ := Fm.terr_none he
      rw [hxs, he]
      refine ⟨Fm.weights_le h12, ?_, rfl⟩
      show F.weights.length ≤ 13
      rw [F.weights_length]; omega
  obtain ⟨hx4, hxl, hsum⟩ := hx4
  refine TOps.move rfl rfl ?_
  refine TOps.extract rfl rfl rfl ?_
  refine TOps.extract rfl rfl rfl ?_
  refine TOps.assign rfl rfl ?_
  refine TOps.assign rfl rfl ?_
  refine TOps.next ?_
  refine Tri.seq (Tri.region ?_)
  refine TOps.assign rfl rfl ?_
  refine TOps.next ?_
  refine Tri.seq ?_
  refine Tri.seq (Tri.region ?_)
  refine TOps.move rfl rfl ?_
  refine TOps.len rfl Try.underlying36 rfl ?_
  refine TOps.move rfl rfl ?_
  refine TOps.next ?_
  refine Tri.range (X := Unit) (fun x k => [(5, errV 48 F.terr), (14, slV la 0 xs.length lcap), (6, .int .i64 ((xs.take k).sum : Nat))]) (fun x k => H2) (fun x k => True) (by omega) rfl rfl rfl (fun _ _ => ⟨rfl, rfl, rfl, rfl⟩) () trivial ⟨rfl, rfl, rfl, trivial⟩ (by repeat (first | exact Le.refl _ | assumption | apply Le.drop)) (fun k x hlt hp => ?_) (fun x ac wc hp hS hM => ?_)
  · skip
    obtain ⟨lb, rfl, -, hl⟩ := RdS.at hlr (i := k) (by simpa using hlt)
    rw [List.getElem_map, Nat.zero_add] at hl
    have hsu := sum_take_succ hlt
    have hsl := sum_take_le (k := k) hx4
    have hsl2 : k * 4096 ≤ 13 * 4096 := Nat.mul_le_mul_right _ (by omega)
    have hxk := hx4 _ (List.getElem_mem hlt)
    refine Tri.seq (Tri.region ?_)
    refine TOps.indexAddr (off' := k) rfl rfl Try.underlying36 ti3 (by omega) (by omega) (by simp) rfl ?_
    refine TOps.load1 rfl ti3 hl rfl ?_
    refine TOps.assign rfl rfl ?_
    refine TOps.next ?_
    refine Tri.region ?_
    refine TOps.move rfl rfl ?_
    refine TOps.move rfl rfl ?_
    refine TOps.add (r := (((xs.take (k + 1)).sum : Nat) : Int)) rfl rfl (by rw [wrapI (by omega) (by omega)]; omega) rfl ?_
    refine TOps.assign rfl rfl ?_
    refine TOps.fin ?_
    refine Nrm.body () trivial ⟨rfl, rfl, rfl, rfl, rfl, trivial⟩ (by repeat (first | exact Le.refl _ | assumption | apply Le.drop))
  rw [List.take_length] at hS
  refine Nrm.of hS hM ?_
  refine Nrm.next ?_
  refine Tri.seq (Tri.region ?_)
  refine TOps.move rfl rfl ?_
  refine TOps.move rfl rfl ?_
  refine TOps.assign rfl rfl ?_
  refine TOps.assign rfl rfl ?_
  refine TOps.next ?_
  refine Tri.ret2 (H' := H) Try.results15 (fun _ _ h => h) (.tmp rfl) (.tmp rfl) l2 ⟨by rw [hsum], rfl⟩
theorem truthSums_g {H : List Ent} {fv : Value} {F : Fm} (hF : RF H fv F) (hk : F.ok) :
    Gives Try.prog 4 [fv] H (R1 (.bool true) H) := by
  have hF0 := hF
  have k3 := hk.2.2.2
  obtain ⟨na, off, cap, nsp, rfl, hN⟩ := hF
  refine Gives.enter Try.func4 rfl (by exact Try.ntmps4) rfl ?_
  refine Tri.seq (Tri.region ?_)
  refine TOps.boxN rfl ti24 rfl rfl (fun b1 => ?_)
  refine TOps.hide (fun H1 l1 s1 r1 => ?_)
  replace hF0 := hF0.le l1; replace hN := hN.le l1
  refine TOps.assign rfl rfl ?_
  refine TOps.next ?_
  refine Tri.seq ?_
  refine Tri.seq (Tri.region ?_)
  refine TOps.call (vs := []) Try.call9 trivial (awake10_g) rfl ?_
  rintro _ _ ⟨rfl, rfl⟩
  refine TOps.not rfl rfl ?_
  refine TOps.move rfl rfl ?_
  refine' TOps.orB 3 rfl rfl rfl rfl (fun hg1_2 => ?_) ?_; rotate_left
  · have hg1_2' := hg1_2
    try simp only [decide_eq_true_eq, decide_eq_false_iff_not, Bool.and_eq_true, Bool.or_eq_true, Bool.not_eq_true', Bool.and_eq_false_iff, Bool.or_eq_false_iff, Bool.not_eq_false', Int.not_lt, Int.not_le, ne_eq, Decidable.not_not] at hg1_2'
    refine TOps.strip 2 false rfl rfl hg1_2 rfl ?_
    refine TOps.loadN rfl ti24 (by first | exact Rd.all (by repeat (first | exact List.Mem.head _ | apply List.Mem.tail)) | (repeat (first | assumption | apply Rd.up))) rfl rfl ?_
    refine TOps.call (vs := [_]) Try.call10 ⟨rfl, trivial⟩ (light_g hF0 hk) rfl ?_
    rintro _ _ ⟨rfl, rfl⟩
    refine TOps.not rfl rfl ?_
    refine TOps.blk rfl (by repeat (first | exact Ext.refl _ | refine Ext.cons rfl ?_)) (by repeat (first | exact Le.refl _ | apply Le.drop))
  refine TOps.move rfl rfl ?_
  refine' TOps.orB 5 rfl rfl rfl rfl (fun hg1_7 => ?_) ?_; rotate_left
  · have hg1_7' := hg1_7
    try simp only [decide_eq_true_eq, decide_eq_false_iff_not, Bool.and_eq_true, Bool.or_eq_true, Bool.not_eq_true', Bool.and_eq_false_iff, Bool.or_eq_false_iff, Bool.not_eq_false', Int.not_lt, Int.not_le, ne_eq, Decidable.not_not] at hg1_7'
    refine TOps.strip 7 false rfl rfl hg1_7 rfl ?_
    first | refine TOps.fieldB 1 rfl Try.underlying24 rfl rfl ti22 rfl rfl rfl ?_ | refine TOps.fieldN 1 rfl Try.underlying24 rfl rfl ti22 rfl rfl rfl ?_
    refine TOps.load1 rfl ti22 (by first | exact Rd.lit (by repeat (first | exact List.Mem.head _ | apply List.Mem.tail)) rfl | (repeat (first | assumption | exact Rd.fld (by assumption) 1 rfl | apply Rd.up))) rfl ?_
    refine TOps.len rfl Try.underlying22 rfl ?_
    refine TOps.add (r := IntKind.i64.wrap ((F.nodes.length : Int) + 1)) rfl rfl rfl rfl ?_
    refine TOps.gtr rfl rfl rfl ?_
    refine TOps.blk rfl (by repeat (first | exact Ext.refl _ | refine Ext.cons rfl ?_)) (by repeat (first | exact Le.refl _ | apply Le.drop))
  refine TOps.next ?_
  refine Tri.cond rfl (fun hc1 => ?_) (fun hc1 => ?_)
  · try simp only [decide_eq_true_eq, decide_eq_false_iff_not, Bool.and_eq_true, Bool.or_eq_true, Bool.not_eq_true', Bool.and_eq_false_iff, Bool.or_eq_false_iff, Bool.not_eq_false', Int.not_lt, Int.not_le, ne_eq, Decidable.not_not, Option.isSome_iff_ne_none, Option.isNone_iff_eq_none] at hc1
    refine Tri.seq (Tri.region ?_)
    refine TOps.call (vs := []) Try.call9 trivial (awake10_g) rfl ?_
    rintro _ _ ⟨rfl, rfl⟩
    refine TOps.assign rfl rfl ?_
    refine TOps.next ?_
    refine Tri.ret1 (H' := H) Try.results4 (fun _ _ h => h) (.tmp rfl) l1 ⟨rfl, rfl⟩
  try simp only [decide_eq_true_eq, decide_eq_false_iff_not, Bool.and_eq_true, Bool.or_eq_true, Bool.not_eq_true', Bool.and_eq_false_iff, Bool.or_eq_false_iff, Bool.not_eq_false', Int.not_lt, Int.not_le, ne_eq, Decidable.not_not, Option.isSome_iff_ne_none, Option.isNone_iff_eq_none] at hc1
  refine Tri.fin ?_
  refine Nrm.next ?_
  refine Tri.seq (Tri.region ?_)
  refine TOps.loadN rfl ti24 (by first | exact Rd.all (by repeat (first | exact List.Mem.head _ | apply List.Mem.tail)) | (repeat (first | assumption | apply Rd.up))) rfl rfl ?_
  refine TOps.call (vs := [_]) Try.call14 ⟨rfl, trivial⟩ (weights_g hF0 hk) rfl ?_
  rintro _ _ ⟨xs, la, lcap, hxs, rfl, hla, rfl⟩
  have hlr : RdS (row la 3 1 lcap (nats xs) :: H1) la 0 (nats xs) := RdS.ofRowA (List.Mem.head _) hla
  replace hF0 := hF0.le (Le.drop (e := row la 3 1 lcap (nats xs)) (Le.refl _)); replace hN := hN.le (Le.drop (e := row la 3 1 lcap (nats xs)) (Le.refl _)); replace r1 := r1.up (e := row la 3 1 lcap (nats xs))
  have l2 : Le (row la 3 1 lcap (nats xs) :: H1) H := Le.drop l1
  generalize row la 3 1 lcap (nats xs) :: H1 = H2 at *
  refine TOps.move rfl rfl ?_
  refine TOps.extract rfl rfl rfl ?_
  refine TOps.extract rfl rfl rfl ?_
  refine TOps.assign rfl rfl ?_
  refine TOps.assign rfl rfl ?_
  refine TOps.next ?_
  refine Tri.seq (Tri.region ?_)
  refine TOps.loadN rfl ti24 (by first | exact Rd.all (by repeat (first | exact List.Mem.head _ | apply List.Mem.tail)) | (repeat (first | assumption | apply Rd.up))) rfl rfl ?_
  refine TOps.call (vs := [_]) Try.call15 ⟨rfl, trivial⟩ (count_g hF0 hk) rfl ?_
  rintro _ _ ⟨rfl, rfl⟩
  refine TOps.move rfl rfl ?_
  refine TOps.extract rfl rfl rfl ?_
  refine TOps.extract rfl rfl rfl ?_
  refine TOps.assign rfl rfl ?_
  refine TOps.assign rfl rfl ?_
  refine TOps.next ?_
  refine Tri.seq ?_
  refine Tri.seq (Tri.region ?_)
  refine TOps.move rfl rfl ?_
  refine TOps.neqNil rfl Try.underlying29 rfl ?_
  refine TOps.move rfl rfl ?_
  refine' TOps.orB 2 rfl rfl rfl rfl (fun hg5_2 => ?_) ?_; rotate_left
  · have hg5_2' := hg5_2
    try simp only [decide_eq_true_eq, decide_eq_false_iff_not, Bool.and_eq_true, Bool.or_eq_true, Bool.not_eq_true', Bool.and_eq_false_iff, Bool.or_eq_false_iff, Bool.not_eq_false', Int.not_lt, Int.not_le, ne_eq, Decidable.not_not] at hg5_2'
    refine TOps.strip 2 false rfl rfl hg5_2 rfl ?_
    refine TOps.move rfl rfl ?_
    refine TOps.neqNil rfl Try.underlying29 rfl ?_
    refine TOps.blk rfl (by repeat (first | exact Ext.refl _ | refine Ext.cons rfl ?_)) (by repeat (first | exact Le.refl _ | apply Le.drop))
  refine TOps.next ?_
  refine Tri.cond rfl (fun hc2 => ?_) (fun hc2 => ?_)
  · try simp only [decide_eq_true_eq, decide_eq_false_iff_not, Bool.and_eq_true, Bool.or_eq_true, Bool.not_eq_true', Bool.and_eq_false_iff, Bool.or_eq_false_iff, Bool.not_eq_false', Int.not_lt, Int.not_le, ne_eq, Decidable.not_not, Option.isSome_iff_ne_none, Option.isNone_iff_eq_none] at hc2
    obtain ⟨e, he⟩ : ∃ e, F.terr = some e := by
      cases h : F.terr with
      | none => rw [h] at hc2; simp at hc2
      | some e => exact ⟨e, rfl⟩
    rw [he]
    refine Tri.seq (Tri.region ?_)
    refine TOps.move rfl rfl ?_
    refine TOps.call (vs := [_]) Try.call16 ⟨rfl, trivial⟩ (num_g (some e)) rfl ?_
    rintro _ _ ⟨rfl, rfl⟩
    refine TOps.move rfl rfl ?_
    refine TOps.call (vs := [_]) Try.call16 ⟨rfl, trivial⟩ (num_g (some e)) rfl ?_
    rintro _ _ ⟨rfl, rfl⟩
    refine TOps.eqlIr (r := true) rfl rfl (by simp) rfl ?_
    refine TOps.assign rfl rfl ?_
    refine TOps.next ?_
    refine Tri.ret1 (H' := H) Try.results4 (fun _ _ h => h) (.tmp rfl) l2 ⟨rfl, rfl⟩
  try simp only [decide_eq_true_eq, decide_eq_false_iff_not, Bool.and_eq_true, Bool.or_eq_true, Bool.not_eq_true', Bool.and_eq_false_iff, Bool.or_eq_false_iff, Bool.not_eq_false', Int.not_lt, Int.not_le, ne_eq, Decidable.not_not, Option.isSome_iff_ne_none, Option.isNone_iff_eq_none] at hc2
  have he : F.terr = none := by simpa using hc2
  obtain ⟨hg, h12⟩ := Fm.terr_none he
  obtain rfl : xs = F.weights := by rw [hxs, he]; rfl
  rw [he, show (bif (none : Option Int).isNone then (F.count : Int) else 0) = (F.count : Int) from rfl]
  have g0 := hg.v0; have g1 := hg.v1; have g2 := hg.n1; have gt := hg.topLt
  have hlen : F.nodes.length + 1 ≤ 128 := by have := hc1.2; rw [wrapI (by omega) (by omega)] at this; omega
  have hng := Fm.neg_good hg hlen
  have hnt := Fm.neg_terr he hlen
  have hwl := F.weights_length
  have hnl : F.neg.weights.length = F.vars.toNat + 1 := F.neg.weights_length
  have hw4 := Fm.weights_le (F := F) h12
  have hn4 := Fm.weights_le (F := F.neg) h12
  have hNe : F.neg = ⟨F.vars, F.nodes ++ [⟨1, 0, [F.top]⟩], F.vars + F.nodes.length⟩ := rfl
  refine Tri.fin ?_
  refine Nrm.next ?_
  refine Tri.seq ?_
  obtain ⟨qs, hqs, hys⟩ := hN.cells
  have hcl := nsCells_length F.nodes qs hqs.1
  have hc1' := nsCells_one' F.nodes qs
  obtain ⟨CELLS, hCE⟩ : ∃ CELLS, CELLS = nsCells F.nodes qs := ⟨_, rfl⟩
  rw [← hCE] at hcl hc1' hys
  have hll : ∀ (x : NX) (D : List Nat), Le (on D [2] [5] [row (some x.b2) 43 3 0 []] ++ (on D [5] [11] [row x.a5 43 3 x.c5 CELLS] ++ (on D [11] [] [row (some x.a11) 43 3 x.c11 (CELLS ++ x.three)] ++ (on D [8] [] [row (some x.b8) 3 1 1 [.int .i64 F.top]] ++ (on D [10] [] [row (some x.b10) 43 3 1 x.three] ++ (on D [19] [20] [row (some x.b19) 24 3 1 [.int .i64 0, slV none 0 0 0, .int .i64 0]] ++ (on D [20] [] [row (some x.b19) 24 3 1 [.int .i64 F.vars, slV (some x.a11) 0 (0 + F.nodes.length + 1) x.c11, .int .i64 (F.vars + F.nodes.length)]] ++ H2))))))) H2 := fun x D => Le.sub (by repeat (first | exact List.Sublist.refl _ | apply sub_on))
  refine Tri.drawM (X := NX) rfl [(1, .pointer (some ⟨b1, 0, none⟩)), (3, slV la 0 F.weights.length lcap), (5, .int .i64 F.count)] [] (fun x => [_, _, slV (some x.b2) 0 0 0, _, _, slV x.a5 0 (0 + F.nodes.length) x.c5, _, _, slV (some x.b8) 0 1 1, .agg (List.toArray [.int .i64 1, .int .i64 0, slV (some x.b8) 0 1 1]), slV (some x.b10) 0 1 1, slV (some x.a11) 0 (0 + F.nodes.length + 1) x.c11, _, _, _, _, _, _, .agg (List.toArray [.int .i64 F.vars, slV (some x.a11) 0 (0 + F.nodes.length + 1) x.c11, .int .i64 (F.vars + F.nodes.length)]), .pointer (some ⟨x.b19, 0, none⟩), undef]) (fun x D => on D [2] [5] [row (some x.b2) 43 3 0 []] ++ (on D [5] [11] [row x.a5 43 3 x.c5 CELLS] ++ (on D [11] [] [row (some x.a11) 43 3 x.c11 (CELLS ++ x.three)] ++ (on D [8] [] [row (some x.b8) 3 1 1 [.int .i64 F.top]] ++ (on D [10] [] [row (some x.b10) 43 3 1 x.three] ++ (on D [19] [20] [row (some x.b19) 24 3 1 [.int .i64 0, slV none 0 0 0, .int .i64 0]] ++ (on D [20] [] [row (some x.b19) 24 3 1 [.int .i64 F.vars, slV (some x.a11) 0 (0 + F.nodes.length + 1) x.c11, .int .i64 (F.vars + F.nodes.length)]] ++ H2))))))) [2, 5, 8, 10, 11, 19, 20] [0, 1, 0, 0, 8, 28, 0, 64, 192, 448, 960, 2044, 0, 4096, 0, 16384, 49152, 126976, 262143, 0, 1048575] [[], [19], [8], [8, 19], [8, 10], [8, 10, 19], [2], [2, 19], [2, 8], [2, 8, 19], [2, 8, 10], [2, 8, 10, 19], [2, 5], [2, 5, 19], [2, 5, 8], [2, 5, 8, 19], [2, 5, 8, 10], [2, 5, 8, 10, 19], [2, 5, 8, 10, 11], [2, 5, 8, 10, 11, 19], [2, 5, 8, 10, 11, 19, 20]] ⟨0, none, 0, 0, 0, 0, 0, 0⟩ [19] rfl rfl (by kernel_rfl) (by kernel_rfl) ⟨rfl, rfl, rfl, trivial⟩ trivial (by repeat (first | exact Le.refl _ | assumption | apply Le.drop)) (by
    refine ⟨?_, ?_, ?_, ?_, ?_, ?_, ?_, ?_, ?_, ?_, ?_, ?_, ?_, ?_, ?_, ?_, ?_, ?_, ?_, ?_, ?_, trivial⟩
    · refine ⟨fun x S D he hw hd hD _ => ?_, trivial⟩
      refine TOps.field0 (he _ _ rfl) Try.underlying24 rfl rfl ti3 rfl rfl rfl ?_
      exact TOps.fin (Nrm.drawM x (fun _ _ _ => rfl) rfl (by first | exact Le.refl _ | assumption | exact (by repeat (first | exact Le.refl _ | assumption | apply Le.drop))))
    · refine ⟨fun x S D he hw hd hD _ => ?_, trivial⟩
      obtain ⟨h0, -⟩ := hd
      refine TOps.load1 h0 ti3 (Rd.le (by first | exact Rd.lit (by repeat (first | exact List.Mem.head _ | apply List.Mem.tail)) rfl | (repeat (first | assumption | exact Rd.fld (by assumption) 0 rfl | apply Rd.up))) (hll x D)) rfl ?_
      exact TOps.fin (Nrm.drawM x (fun _ _ _ => rfl) rfl (by first | exact Le.refl _ | assumption | exact (by repeat (first | exact Le.refl _ | assumption | apply Le.drop))))
    · refine ⟨fun x S D he hw hd hD _ => ?_, trivial⟩
      replace hD := mem_of_eq (L' := [[], [19], [8], [8, 19], [8, 10], [8, 10, 19]]) hD (by kernel_rfl)
      simp only [List.mem_cons, List.not_mem_nil, or_false] at hD
      rcases hD with rfl | rfl | rfl | rfl | rfl | rfl
      all_goals refine TOps.buildSlice0 Try.underlying22 ti43 rfl (fun b52 => ?_)
      all_goals refine TOps.fin (Nrm.drawM {x with b2 := b52} ?_ rfl (Sp.le (by repeat (first | exact Sp.refl _ | exact Sp.sub (by assumption) | refine Sp.cons (by repeat (first | exact Pick.here | apply Pick.there)) ?_ | exact Sp.nil | apply Sp.skip))))
      all_goals (intro j hj hcj; rcases j with _|_|_|_|_|_|_|_|_|_|_|_|_|_|_|_|_|_|_|_|_|j <;> first | rfl | exact absurd rfl hj | exact absurd hcj (by decide))
    · refine ⟨fun x S D he hw hd hD _ => ?_, trivial⟩
      first | refine TOps.fieldB 1 (he _ _ rfl) Try.underlying24 rfl rfl ti22 rfl rfl rfl ?_ | refine TOps.fieldN 1 (he _ _ rfl) Try.underlying24 rfl rfl ti22 rfl rfl rfl ?_
      exact TOps.fin (Nrm.drawM x (fun _ _ _ => rfl) rfl (by first | exact Le.refl _ | assumption | exact (by repeat (first | exact Le.refl _ | assumption | apply Le.drop))))
    · refine ⟨fun x S D he hw hd hD _ => ?_, trivial⟩
      obtain ⟨h3, -⟩ := hd
      refine TOps.load1 h3 ti22 (Rd.le (by first | exact Rd.lit (by repeat (first | exact List.Mem.head _ | apply List.Mem.tail)) rfl | (repeat (first | assumption | exact Rd.fld (by assumption) 1 rfl | apply Rd.up))) (hll x D)) rfl ?_
      exact TOps.fin (Nrm.drawM x (fun _ _ _ => rfl) rfl (by first | exact Le.refl _ | assumption | exact (by repeat (first | exact Le.refl _ | assumption | apply Le.drop))))
    · refine ⟨fun x S D he hw hd hD _ => ?_, trivial⟩
      obtain ⟨h2, h4, -⟩ := hd
      replace hD := mem_of_eq (L' := [[2], [2, 19], [2, 8], [2, 8, 19], [2, 8, 10], [2, 8, 10, 19]]) hD (by kernel_rfl)
      simp only [List.mem_cons, List.not_mem_nil, or_false] at hD
      rcases hD with rfl | rfl | rfl | rfl | rfl | rfl
      all_goals refine TOps.append (ys := CELLS) h2 h4 Try.underlying22 ti43 rfl (fun _ _ => (by repeat (first | exact Upd.here | apply Upd.there))) (RdS.le hys (hll x _)) hcl rfl hc1' (by omega) (by omega) rfl (fun a' c' ha' => ?_)
      all_goals refine TOps.fin (Nrm.drawM {x with a5 := a', c5 := c'} ?_ rfl (Sp.le (by repeat (first | exact Sp.refl _ | exact Sp.sub (by assumption) | refine Sp.cons (by repeat (first | exact Pick.here | apply Pick.there)) ?_ | exact Sp.nil | apply Sp.skip))))
      all_goals (intro j hj hcj; rcases j with _|_|_|_|_|_|_|_|_|_|_|_|_|_|_|_|_|_|_|_|_|j <;> first | rfl | exact absurd rfl hj | exact absurd hcj (by decide))
    · refine ⟨fun x S D he hw hd hD _ => ?_, trivial⟩
      first | refine TOps.fieldB 2 (he _ _ rfl) Try.underlying24 rfl rfl ti3 rfl rfl rfl ?_ | refine TOps.fieldN 2 (he _ _ rfl) Try.underlying24 rfl rfl ti3 rfl rfl rfl ?_
      exact TOps.fin (Nrm.drawM x (fun _ _ _ => rfl) rfl (by first | exact Le.refl _ | assumption | exact (by repeat (first | exact Le.refl _ | assumption | apply Le.drop))))
    · refine ⟨fun x S D he hw hd hD _ => ?_, trivial⟩
      obtain ⟨h6, -⟩ := hd
      refine TOps.load1 h6 ti3 (Rd.le (by first | exact Rd.lit (by repeat (first | exact List.Mem.head _ | apply List.Mem.tail)) rfl | (repeat (first | assumption | exact Rd.fld (by assumption) 2 rfl | apply Rd.up))) (hll x D)) rfl ?_
      exact TOps.fin (Nrm.drawM x (fun _ _ _ => rfl) rfl (by first | exact Le.refl _ | assumption | exact (by repeat (first | exact Le.refl _ | assumption | apply Le.drop))))
    · refine ⟨fun x S D he hw hd hD _ => ?_, trivial⟩
      obtain ⟨h7, -⟩ := hd
      replace hD := mem_of_eq (L' := [[], [19], [2], [2, 19], [2, 5], [2, 5, 19]]) hD (by kernel_rfl)
      simp only [List.mem_cons, List.not_mem_nil, or_false] at hD
      rcases hD with rfl | rfl | rfl | rfl | rfl | rfl
      all_goals refine TOps.buildSlice (vs := [_]) (xs := [_]) Try.underlying36 ti3 ⟨rfl, h7, trivial⟩ rfl rfl rfl rfl rfl rfl (by decide) rfl (fun b58 => ?_)
      all_goals refine TOps.fin (Nrm.drawM {x with b8 := b58} ?_ rfl (Sp.le (by repeat (first | exact Sp.refl _ | exact Sp.sub (by assumption) | refine Sp.cons (by repeat (first | exact Pick.here | apply Pick.there)) ?_ | exact Sp.nil | apply Sp.skip))))
      all_goals (intro j hj hcj; rcases j with _|_|_|_|_|_|_|_|_|_|_|_|_|_|_|_|_|_|_|_|_|j <;> first | rfl | exact absurd rfl hj | exact absurd hcj (by decide))
    · refine ⟨fun x S D he hw hd hD _ => ?_, trivial⟩
      obtain ⟨h8, -⟩ := hd
      refine TOps.buildStruct (vs := [(0, _), (2, _)]) (xs := [_, _, _]) [(0, 1), (1, 1), (2, 1)] Try.underlying43 ti43 (fun w => by simp) ⟨rfl, rfl, rfl, h8, trivial⟩ rfl rfl ?_
      exact TOps.fin (Nrm.drawM x (fun _ _ _ => rfl) rfl (by first | exact Le.refl _ | assumption | exact (by repeat (first | exact Le.refl _ | assumption | apply Le.drop))))
    · refine ⟨fun x S D he hw hd hD _ => ?_, trivial⟩
      obtain ⟨h9, -⟩ := hd
      replace hD := mem_of_eq (L' := [[8], [8, 19], [2, 8], [2, 8, 19], [2, 5, 8], [2, 5, 8, 19]]) hD (by kernel_rfl)
      simp only [List.mem_cons, List.not_mem_nil, or_false] at hD
      rcases hD with rfl | rfl | rfl | rfl | rfl | rfl
      all_goals refine TOps.buildSlice (vs := [_]) (xs := [_, _, _]) Try.underlying22 ti43 ⟨rfl, h9, trivial⟩ rfl rfl rfl rfl rfl rfl (by decide) rfl (fun b63 => ?_)
      all_goals refine TOps.fin (Nrm.drawM {x with b10 := b63} ?_ rfl (Sp.le (by repeat (first | exact Sp.refl _ | exact Sp.sub (by assumption) | refine Sp.cons (by repeat (first | exact Pick.here | apply Pick.there)) ?_ | exact Sp.nil | apply Sp.skip))))
      all_goals (intro j hj hcj; rcases j with _|_|_|_|_|_|_|_|_|_|_|_|_|_|_|_|_|_|_|_|_|j <;> first | rfl | exact absurd rfl hj | exact absurd hcj (by decide))
    · refine ⟨fun x S D he hw hd hD _ => ?_, trivial⟩
      obtain ⟨h5, h10, _, -⟩ := hd
      replace hD := mem_of_eq (L' := [[2, 5, 8, 10], [2, 5, 8, 10, 19]]) hD (by kernel_rfl)
      simp only [List.mem_cons, List.not_mem_nil, or_false] at hD
      rcases hD with rfl | rfl
      all_goals refine TOps.append (ys := x.three) h5 h10 Try.underlying22 ti43 rfl (fun _ _ => (by repeat (first | exact Upd.here | apply Upd.there))) (RdS.ofRowS (by repeat (first | exact List.Mem.head _ | apply List.Mem.tail))) rfl (by rw [hcl]; omega) (by intro u hu; simp at hu; rcases hu with rfl | rfl | rfl <;> rfl) (by omega) (by omega) rfl (fun a' c' ha' => ?_)
      all_goals obtain ⟨b', rfl⟩ := ha' (by simp)
      all_goals refine TOps.fin (Nrm.drawM {x with a11 := b', c11 := c'} ?_ rfl (Sp.le (by repeat (first | exact Sp.refl _ | exact Sp.sub (by assumption) | refine Sp.cons (by repeat (first | exact Pick.here | apply Pick.there)) ?_ | exact Sp.nil | apply Sp.skip))))
      all_goals (intro j hj hcj; rcases j with _|_|_|_|_|_|_|_|_|_|_|_|_|_|_|_|_|_|_|_|_|j <;> first | rfl | exact absurd rfl hj | exact absurd hcj (by decide))
    · refine ⟨fun x S D he hw hd hD _ => ?_, trivial⟩
      refine TOps.field0 (he _ _ rfl) Try.underlying24 rfl rfl ti3 rfl rfl rfl ?_
      exact TOps.fin (Nrm.drawM x (fun _ _ _ => rfl) rfl (by first | exact Le.refl _ | assumption | exact (by repeat (first | exact Le.refl _ | assumption | apply Le.drop))))
    · refine ⟨fun x S D he hw hd hD _ => ?_, trivial⟩
      obtain ⟨h12, -⟩ := hd
      refine TOps.load1 h12 ti3 (Rd.le (by first | exact Rd.lit (by repeat (first | exact List.Mem.head _ | apply List.Mem.tail)) rfl | (repeat (first | assumption | exact Rd.fld (by assumption) 0 rfl | apply Rd.up))) (hll x D)) rfl ?_
      exact TOps.fin (Nrm.drawM x (fun _ _ _ => rfl) rfl (by first | exact Le.refl _ | assumption | exact (by repeat (first | exact Le.refl _ | assumption | apply Le.drop))))
    · refine ⟨fun x S D he hw hd hD _ => ?_, trivial⟩
      first | refine TOps.fieldB 1 (he _ _ rfl) Try.underlying24 rfl rfl ti22 rfl rfl rfl ?_ | refine TOps.fieldN 1 (he _ _ rfl) Try.underlying24 rfl rfl ti22 rfl rfl rfl ?_
      exact TOps.fin (Nrm.drawM x (fun _ _ _ => rfl) rfl (by first | exact Le.refl _ | assumption | exact (by repeat (first | exact Le.refl _ | assumption | apply Le.drop))))
    · refine ⟨fun x S D he hw hd hD _ => ?_, trivial⟩
      obtain ⟨h14, -⟩ := hd
      refine TOps.load1 h14 ti22 (Rd.le (by first | exact Rd.lit (by repeat (first | exact List.Mem.head _ | apply List.Mem.tail)) rfl | (repeat (first | assumption | exact Rd.fld (by assumption) 1 rfl | apply Rd.up))) (hll x D)) rfl ?_
      exact TOps.fin (Nrm.drawM x (fun _ _ _ => rfl) rfl (by first | exact Le.refl _ | assumption | exact (by repeat (first | exact Le.refl _ | assumption | apply Le.drop))))
    · refine ⟨fun x S D he hw hd hD _ => ?_, trivial⟩
      obtain ⟨h15, -⟩ := hd
      refine TOps.len h15 Try.underlying22 rfl ?_
      exact TOps.fin (Nrm.drawM x (fun _ _ _ => rfl) rfl (by first | exact Le.refl _ | assumption | exact (by repeat (first | exact Le.refl _ | assumption | apply Le.drop))))
    · refine ⟨fun x S D he hw hd hD _ => ?_, trivial⟩
      obtain ⟨h13, h16, -⟩ := hd
      refine TOps.add h13 h16 (wrapI (by omega) (by omega)) rfl ?_
      exact TOps.fin (Nrm.drawM x (fun _ _ _ => rfl) rfl (by first | exact Le.refl _ | assumption | exact (by repeat (first | exact Le.refl _ | assumption | apply Le.drop))))
    · refine ⟨fun x S D he hw hd hD _ => ?_, trivial⟩
      obtain ⟨h1, h11, h17, -⟩ := hd
      refine TOps.buildStruct (vs := [(0, _), (1, _), (2, _)]) (xs := [_, _, _]) [(0, 1), (1, 1), (2, 1)] Try.underlying24 ti24 (fun w => by simp) ⟨rfl, h1, rfl, h11, rfl, h17, trivial⟩ rfl rfl ?_
      exact TOps.fin (Nrm.drawM x (fun _ _ _ => rfl) rfl (by first | exact Le.refl _ | assumption | exact (by repeat (first | exact Le.refl _ | assumption | apply Le.drop))))
    · refine ⟨fun x S D he hw hd hD _ => ?_, trivial⟩
      replace hD := mem_of_eq (L' := [[], [8], [8, 10], [2], [2, 8], [2, 8, 10], [2, 5], [2, 5, 8], [2, 5, 8, 10], [2, 5, 8, 10, 11]]) hD (by kernel_rfl)
      simp only [List.mem_cons, List.not_mem_nil, or_false] at hD
      rcases hD with rfl | rfl | rfl | rfl | rfl | rfl | rfl | rfl | rfl | rfl
      all_goals refine TOps.alloc ti24 rfl (fun b67 => ?_)
      all_goals refine TOps.fin (Nrm.drawM {x with b19 := b67} ?_ rfl (Sp.le (by repeat (first | exact Sp.refl _ | exact Sp.sub (by assumption) | refine Sp.cons (by repeat (first | exact Pick.here | apply Pick.there)) ?_ | exact Sp.nil | apply Sp.skip))))
      all_goals (intro j hj hcj; rcases j with _|_|_|_|_|_|_|_|_|_|_|_|_|_|_|_|_|_|_|_|_|j <;> first | rfl | exact absurd rfl hj | exact absurd hcj (by decide))
    · refine ⟨fun x S D he hw hd hD _ => ?_, trivial⟩
      obtain ⟨h19, h18, h11, h0, h1, h2, h3, h4, h5, h6, h7, h8, h9, h10, _, h12, h13, h14, h15, h16, h17, _, _, -⟩ := hd
      replace hD := mem_of_eq (L' := [[2, 5, 8, 10, 11, 19]]) hD (by kernel_rfl)
      simp only [List.mem_cons, List.not_mem_nil, or_false] at hD
      rcases hD with rfl
      all_goals refine TOps.storeN h19 h18 ti24 rfl rfl (by repeat (first | exact Upd.here | apply Upd.there)) (by simp) ?_
      all_goals exact TOps.fin (Nrm.drawM x (fun _ _ _ => rfl) rfl (Sp.le (by repeat (first | exact Sp.refl _ | exact Sp.sub (by assumption) | refine Sp.cons (by repeat (first | exact Pick.here | apply Pick.there)) ?_ | exact Sp.nil | apply Sp.skip))))
    ) (fun z => ?_)
  obtain ⟨H5, hH5⟩ : ∃ H5, H5 = row (some z.a11) 43 3 z.c11 (CELLS ++ z.three) :: row (some z.b8) 3 1 1 [.int .i64 F.top] :: H2 := ⟨_, rfl⟩
  refine Nrm.le (H' := row (some z.b19) 24 3 1 [.int .i64 F.vars, slV (some z.a11) 0 (0 + F.nodes.length + 1) z.c11, .int .i64 (F.vars + F.nodes.length)] :: H5) (by subst hH5; exact (Sp.le (by repeat (first | exact Sp.refl _ | exact Sp.sub (by assumption) | refine Sp.cons (by repeat (first | exact Pick.here | apply Pick.there)) ?_ | exact Sp.nil | apply Sp.skip)))) ?_
  have l5 : Le H5 H2 := by rw [hH5]; exact Le.drop (Le.drop (Le.refl _))
  have hA : ArgsIn H5 (F.nodes ++ [⟨1, 0, [F.top]⟩]) (qs ++ [(some z.b8, 0, 1, none)]) := (hqs.le (l5)).snoc (by rw [hH5]; exact RInts.ofRow (xs := [F.top]) (by repeat (first | exact List.Mem.head _ | apply List.Mem.tail)))
  have hRN : RNodes H5 (some z.a11) 0 (F.nodes ++ [⟨1, 0, [F.top]⟩]) := RNodes.ofA (E := 43) (sz := 3) (cap := z.c11) (by rw [hH5, nsCells_snoc _ _ _ _ hqs.1, ← hCE]; exact List.Mem.head _) hA (fun _ => ⟨_, rfl⟩)
  have hRF : ∀ (e : Ent), RF (e :: H5) (.agg (List.toArray [.int .i64 F.vars, slV (some z.a11) 0 (F.nodes.length + 1) z.c11, .int .i64 (F.vars + F.nodes.length)])) F.neg := fun e => ⟨some z.a11, 0, z.c11, none, by rw [hNe]; simp, (by rw [hNe]; exact hRN.le (Le.drop (Le.refl _)))⟩
  replace hF0 := hF0.le l5; replace r1 := r1.le l5; replace hlr := hlr.le l5
  have l6 := l5.trans l2
  clear hH5 hll hRN hA
  rw [show 0 + F.nodes.length + 1 = F.nodes.length + 1 by omega]
  generalize z.b19 = b10 at *
  obtain ⟨H6, hH6⟩ : ∃ H6, H6 = row (some b10) 24 3 1 [.int .i64 F.vars, slV (some z.a11) 0 (F.nodes.length + 1) z.c11, .int .i64 (F.vars + F.nodes.length)] :: H5 := ⟨_, rfl⟩
  replace hRF := hRF (row (some b10) 24 3 1 [.int .i64 F.vars, slV (some z.a11) 0 (F.nodes.length + 1) z.c11, .int .i64 (F.vars + F.nodes.length)])
  have r7 : Rd H6 b10 0 [.int .i64 F.vars, slV (some z.a11) 0 (F.nodes.length + 1) z.c11, .int .i64 (F.vars + F.nodes.length)] := by rw [hH6]; exact Rd.all (List.Mem.head _)
  have l7 : Le H6 H5 := by rw [hH6]; exact Le.drop (Le.refl _)
  rw [← hH6] at hRF ⊢
  replace hF0 := hF0.le l7; replace r1 := r1.le l7; replace hlr := hlr.le l7
  replace l6 := l7.trans l6
  clear hH6 l7
  refine Nrm.next ?_
  refine Tri.seq (Tri.region ?_)
  refine TOps.loadN rfl ti24 (by first | exact Rd.all (by repeat (first | exact List.Mem.head _ | apply List.Mem.tail)) | (repeat (first | assumption | apply Rd.up))) rfl rfl ?_
  refine TOps.call (vs := [_]) Try.call14 ⟨rfl, trivial⟩ (weights_g hRF hng.ok) rfl ?_
  rintro _ _ ⟨ys, ma, mcap, hys', rfl, hma, rfl⟩
  obtain rfl : ys = F.neg.weights := by rw [hys', hnt]; rfl
  rw [hnt]
  have hmr : RdS (row ma 3 1 mcap (nats F.neg.weights) :: H6) ma 0 (nats F.neg.weights) := RdS.ofRowA (List.Mem.head _) hma
  replace hlr := RdS.up (e := row ma 3 1 mcap (nats F.neg.weights)) hlr
  replace r1 := r1.up (e := row ma 3 1 mcap (nats F.neg.weights))
  replace l6 := Le.drop (e := row ma 3 1 mcap (nats F.neg.weights)) l6
  generalize row ma 3 1 mcap (nats F.neg.weights) :: H6 = H7 at *
  have hla2 := Fm.law_sums' he
  have hcs : (F.weights.sum : Nat) = F.count := rfl
  generalize F.neg.weights = NW at *
  generalize F.weights = FW at *
  generalize F.count = CN at *
  clear hF0 hRF hN hys hqs
  obtain ⟨v, hv⟩ := Int.eq_ofNat_of_zero_le g0
  have hvn : F.vars.toNat = v := by omega
  rw [hvn] at hwl hnl hla2
  rw [hv] at r1
  refine TOps.move rfl rfl ?_
  refine TOps.extract rfl rfl rfl ?_
  refine TOps.extract rfl rfl rfl ?_
  refine TOps.assign rfl rfl ?_
  refine TOps.assign rfl rfl ?_
  refine TOps.next ?_
  refine Tri.seq ?_
  refine Tri.seq (Tri.region ?_)
  refine TOps.move rfl rfl ?_
  refine TOps.neqNil (T := 48) (o := none) rfl Try.underlying29 rfl ?_
  refine TOps.move rfl rfl ?_
  refine' TOps.orB 6 rfl rfl rfl rfl (fun hg9_2 => ?_) ?_; rotate_left
  · have hg9_2' := hg9_2
    try simp only [decide_eq_true_eq, decide_eq_false_iff_not, Bool.and_eq_true, Bool.or_eq_true, Bool.not_eq_true', Bool.and_eq_false_iff, Bool.or_eq_false_iff, Bool.not_eq_false', Int.not_lt, Int.not_le, ne_eq, Decidable.not_not] at hg9_2'
    refine TOps.strip 2 false rfl rfl hg9_2 rfl ?_
    refine TOps.move rfl rfl ?_
    refine TOps.len rfl Try.underlying36 rfl ?_
    refine TOps.field0 rfl Try.underlying24 rfl rfl ti3 rfl rfl rfl ?_
    refine TOps.load1 rfl ti3 (by first | exact Rd.lit (by repeat (first | exact List.Mem.head _ | apply List.Mem.tail)) rfl | (repeat (first | assumption | exact Rd.fld (by assumption) 0 rfl | apply Rd.up))) rfl ?_
    refine TOps.add rfl rfl (wrapI (by omega) (by omega)) rfl ?_
    refine TOps.neqIr (r := false) rfl rfl (decide_eq_false (by omega)) rfl ?_
    refine TOps.blk rfl (by repeat (first | exact Ext.refl _ | refine Ext.cons rfl ?_)) (by repeat (first | exact Le.refl _ | apply Le.drop))
  refine TOps.move rfl rfl ?_
  refine' TOps.orB 5 rfl rfl rfl rfl (fun hg9_10 => ?_) ?_; rotate_left
  · have hg9_10' := hg9_10
    try simp only [decide_eq_true_eq, decide_eq_false_iff_not, Bool.and_eq_true, Bool.or_eq_true, Bool.not_eq_true', Bool.and_eq_false_iff, Bool.or_eq_false_iff, Bool.not_eq_false', Int.not_lt, Int.not_le, ne_eq, Decidable.not_not] at hg9_10'
    refine TOps.strip 10 false rfl rfl hg9_10 rfl ?_
    refine TOps.move rfl rfl ?_
    refine TOps.len rfl Try.underlying36 rfl ?_
    refine TOps.move rfl rfl ?_
    refine TOps.len rfl Try.underlying36 rfl ?_
    refine TOps.neqIr (r := false) rfl rfl (decide_eq_false (by omega)) rfl ?_
    refine TOps.blk rfl (by repeat (first | exact Ext.refl _ | refine Ext.cons rfl ?_)) (by repeat (first | exact Le.refl _ | apply Le.drop))
  refine TOps.next ?_
  refine Tri.cond rfl (fun hc3 => ?_) (fun hc3 => ?_)
  · try simp only [decide_eq_true_eq, decide_eq_false_iff_not, Bool.and_eq_true, Bool.or_eq_true, Bool.not_eq_true', Bool.and_eq_false_iff, Bool.or_eq_false_iff, Bool.not_eq_false', Int.not_lt, Int.not_le, ne_eq, Decidable.not_not, Option.isSome_iff_ne_none, Option.isNone_iff_eq_none] at hc3
    have hfalse : False := by simp at hc3
    refine Tri.seq (Tri.region ?_)
    refine TOps.assign rfl rfl ?_
    refine TOps.next ?_
    exact hfalse.elim
  try simp only [decide_eq_true_eq, decide_eq_false_iff_not, Bool.and_eq_true, Bool.or_eq_true, Bool.not_eq_true', Bool.and_eq_false_iff, Bool.or_eq_false_iff, Bool.not_eq_false', Int.not_lt, Int.not_le, ne_eq, Decidable.not_not, Option.isSome_iff_ne_none, Option.isNone_iff_eq_none] at hc3
  refine Tri.fin ?_
  refine Nrm.next ?_
  refine Tri.seq (Tri.region ?_)
  refine TOps.assign rfl rfl ?_
  refine TOps.assign rfl rfl ?_
  refine TOps.next ?_
  refine Tri.seq ?_
  refine Tri.seq (Tri.region ?_)
  refine TOps.move rfl rfl ?_
  refine TOps.len rfl Try.underlying36 rfl ?_
  refine TOps.move rfl rfl ?_
  refine TOps.next ?_
  refine Tri.range (X := Unit) (fun x k => [(1, .pointer (some ⟨b1, 0, none⟩)), (3, slV la 0 FW.length lcap), (5, .int .i64 CN), (8, slV ma 0 NW.length mcap), (10, .int .i64 ((FW.take k).sum : Nat)), (11, .int .i64 (bin v k : Nat)), (90, slV la 0 FW.length lcap)]) (fun x k => H7) (fun x k => True) (by omega) rfl rfl rfl (fun _ _ => ⟨rfl, rfl, rfl, rfl⟩) () trivial ⟨rfl, rfl, rfl, rfl, rfl, (by rw [bin_zero]; rfl), rfl, trivial⟩ (by repeat (first | exact Le.refl _ | assumption | apply Le.drop)) (fun k x hlt hp => ?_) (fun x ac wc hp hS hM => ?_)
  · skip
    obtain ⟨lb, rfl, -, hl⟩ := RdS.at hlr (i := k) (by simpa using hlt)
    obtain ⟨mb, rfl, -, hlm⟩ := RdS.at hmr (i := k) (by simp; omega)
    have hltn : k < NW.length := by omega
    rw [List.getElem_map, Nat.zero_add] at hl hlm
    have hsu := sum_take_succ hlt
    have hsl := sum_take_le (k := k) hw4
    have hsl2 : k * 4096 ≤ 13 * 4096 := Nat.mul_le_mul_right _ (by omega)
    have hxk := hw4 _ (List.getElem_mem hlt)
    have hyk := hn4 _ (List.getElem_mem hltn)
    have hadd := hla2 k (by omega)
    rw [List.getD_eq_getElem?_getD, List.getElem?_eq_getElem hlt, Option.getD_some, List.getD_eq_getElem?_getD, List.getElem?_eq_getElem hltn, Option.getD_some] at hadd
    have hbd := bin_div (v := v) (i := k) (by omega)
    have hb1 := bin_le v (k + 1)
    have h4096 := pow12 (v := v) (by omega)
    have hmul : bin v k * (v - k) ≤ 8192 * 12 := Nat.mul_le_mul (by omega) (by omega)
    have hq : Int.tdiv ((bin v k * (v - k) : Nat) : Int) ((k + 1 : Nat) : Int) = ((bin v (k + 1) : Nat) : Int) := by rw [← Int.ofNat_tdiv, hbd]
    have hmi : (bin v k : Int) * ((v - k : Nat) : Int) = ((bin v k * (v - k) : Nat) : Int) := (Int.natCast_mul _ _).symm
    generalize hWK : FW[k] = wk at *
    generalize hNK : NW[k] = nk at *
    refine Tri.seq (Tri.region ?_)
    refine TOps.move rfl rfl ?_
    refine TOps.assign rfl rfl ?_
    refine TOps.next ?_
    refine Tri.seq ?_
    refine Tri.seq ?_
    refine Tri.drawC rfl [(3, slV (some lb) 0 FW.length lcap), (8, slV (some mb) 0 NW.length mcap), (11, .int .i64 (bin v k : Nat)), (12, .int .i64 k), (1, .pointer (some ⟨b1, 0, none⟩)), (5, .int .i64 CN), (10, .int .i64 ((FW.take k).sum : Nat)), (90, slV (some lb) 0 FW.length lcap), (91, .int .i64 FW.length), (92, .int .i64 k)] [] [_, _, _, _, _, _, _, _, _, _, _, _, _, _, _, _, _, _, _, _, _, _, _, _, _] (H7) [24] rfl ⟨rfl, rfl, rfl, rfl, rfl, rfl, rfl, rfl, rfl, rfl, trivial⟩ trivial (by repeat (first | exact Le.refl _ | assumption | apply Le.drop)) (by
      refine ⟨?_, ?_, ?_, ?_, ?_, ?_, ?_, ?_, ?_, ?_, ?_, ?_, ?_, ?_, ?_, ?_, ?_, ?_, ?_, ?_, ?_, ?_, ?_, ?_, ?_, trivial⟩
      · refine ⟨fun x S c he hw hd hc hcu hm _ => ?_, trivial⟩
        refine TOps.move (he _ _ rfl) rfl ?_
        exact TOps.fin (Nrm.draw x (fun _ _ _ => rfl) rfl (by first | exact Le.refl _ | assumption | exact (by repeat (first | exact Le.refl _ | assumption | apply Le.drop))))
      · refine ⟨fun x S c he hw hd hc hcu hm _ => ?_, trivial⟩
        refine TOps.move (he _ _ rfl) rfl ?_
        exact TOps.fin (Nrm.draw x (fun _ _ _ => rfl) rfl (by first | exact Le.refl _ | assumption | exact (by repeat (first | exact Le.refl _ | assumption | apply Le.drop))))
      · refine ⟨fun x S c he hw hd hc hcu hm _ => ?_, trivial⟩
        obtain ⟨h0, h1, -⟩ := hd
        refine TOps.indexAddr (off' := k) h0 h1 Try.underlying36 ti3 (by omega) (by omega) (by simp) rfl ?_
        exact TOps.fin (Nrm.draw x (fun _ _ _ => rfl) rfl (by first | exact Le.refl _ | assumption | exact (by repeat (first | exact Le.refl _ | assumption | apply Le.drop))))
      · refine ⟨fun x S c he hw hd hc hcu hm _ => ?_, trivial⟩
        obtain ⟨h2, -⟩ := hd
        refine TOps.load1 h2 ti3 hl rfl ?_
        exact TOps.fin (Nrm.draw x (fun _ _ _ => rfl) rfl (by first | exact Le.refl _ | assumption | exact (by repeat (first | exact Le.refl _ | assumption | apply Le.drop))))
      · refine ⟨fun x S c he hw hd hc hcu hm _ => ?_, trivial⟩
        obtain ⟨h3, -⟩ := hd
        refine TOps.lssr (r := false) h3 rfl (decide_eq_false (by omega)) rfl ?_
        exact TOps.fin (Nrm.draw x (fun _ _ _ => rfl) rfl (by first | exact Le.refl _ | assumption | exact (by repeat (first | exact Le.refl _ | assumption | apply Le.drop))))
      · refine ⟨fun x S c he hw hd hc hcu hm _ => ?_, trivial⟩
        obtain ⟨h4, -⟩ := hd
        refine TOps.move h4 rfl ?_
        exact TOps.fin (Nrm.draw x (fun _ _ _ => rfl) rfl (by first | exact Le.refl _ | assumption | exact (by repeat (first | exact Le.refl _ | assumption | apply Le.drop))))
      · refine ⟨fun x S c he hw hd hc hcu hm hgd => ?_, ⟨_, rfl⟩, .inl ⟨rfl, fun x => .inl rfl⟩⟩
        obtain ⟨h5, -⟩ := hd
        refine TOps.move (he _ _ rfl) rfl ?_
        exact TOps.fin (Nrm.draw x (fun _ _ _ => rfl) rfl (by first | exact Le.refl _ | assumption | exact (by repeat (first | exact Le.refl _ | assumption | apply Le.drop))))
      · refine ⟨fun x S c he hw hd hc hcu hm hgd => ?_, ⟨_, rfl⟩, .inl ⟨rfl, fun x => .inl rfl⟩⟩
        obtain ⟨h5, -⟩ := hd
        refine TOps.move (he _ _ rfl) rfl ?_
        exact TOps.fin (Nrm.draw x (fun _ _ _ => rfl) rfl (by first | exact Le.refl _ | assumption | exact (by repeat (first | exact Le.refl _ | assumption | apply Le.drop))))
      · refine ⟨fun x S c he hw hd hc hcu hm hgd => ?_, ⟨_, rfl⟩, .inl ⟨rfl, fun x => .inl rfl⟩⟩
        obtain ⟨h6, h7, h5, -⟩ := hd
        refine TOps.indexAddr (off' := k) h6 h7 Try.underlying36 ti3 (by omega) (by omega) (by simp) rfl ?_
        exact TOps.fin (Nrm.draw x (fun _ _ _ => rfl) rfl (by first | exact Le.refl _ | assumption | exact (by repeat (first | exact Le.refl _ | assumption | apply Le.drop))))
      · refine ⟨fun x S c he hw hd hc hcu hm hgd => ?_, ⟨_, rfl⟩, .inl ⟨rfl, fun x => .inl rfl⟩⟩
        obtain ⟨h8, h5, -⟩ := hd
        refine TOps.load1 h8 ti3 hlm rfl ?_
        exact TOps.fin (Nrm.draw x (fun _ _ _ => rfl) rfl (by first | exact Le.refl _ | assumption | exact (by repeat (first | exact Le.refl _ | assumption | apply Le.drop))))
      · refine ⟨fun x S c he hw hd hc hcu hm hgd => ?_, ⟨_, rfl⟩, .inl ⟨rfl, fun x => .inl rfl⟩⟩
        obtain ⟨h9, h5, -⟩ := hd
        refine TOps.lssr (r := false) h9 rfl (decide_eq_false (by omega)) rfl ?_
        exact TOps.fin (Nrm.draw x (fun _ _ _ => rfl) rfl (by first | exact Le.refl _ | assumption | exact (by repeat (first | exact Le.refl _ | assumption | apply Le.drop))))
      · refine ⟨fun x S c he hw hd hc hcu hm _ => ?_, trivial⟩
        obtain ⟨h5, h10, -⟩ := hd
        refine TOps.pick h5 rfl h10 rfl ?_
        exact TOps.fin (Nrm.draw x (fun _ _ _ => rfl) rfl (by first | exact Le.refl _ | assumption | exact (by repeat (first | exact Le.refl _ | assumption | apply Le.drop))))
      · refine ⟨fun x S c he hw hd hc hcu hm _ => ?_, trivial⟩
        obtain ⟨h11, h5, -⟩ := hd
        refine TOps.move h11 rfl ?_
        exact TOps.fin (Nrm.draw x (fun _ _ _ => rfl) rfl (by first | exact Le.refl _ | assumption | exact (by repeat (first | exact Le.refl _ | assumption | apply Le.drop))))
      · refine ⟨fun x S c he hw hd hc hcu hm hgd => ?_, ⟨_, rfl⟩, .inl ⟨rfl, fun x => .inl rfl⟩⟩
        obtain ⟨h12, -⟩ := hd
        refine TOps.move (he _ _ rfl) rfl ?_
        exact TOps.fin (Nrm.draw x (fun _ _ _ => rfl) rfl (by first | exact Le.refl _ | assumption | exact (by repeat (first | exact Le.refl _ | assumption | apply Le.drop))))
      · refine ⟨fun x S c he hw hd hc hcu hm hgd => ?_, ⟨_, rfl⟩, .inl ⟨rfl, fun x => .inl rfl⟩⟩
        obtain ⟨h12, -⟩ := hd
        refine TOps.move (he _ _ rfl) rfl ?_
        exact TOps.fin (Nrm.draw x (fun _ _ _ => rfl) rfl (by first | exact Le.refl _ | assumption | exact (by repeat (first | exact Le.refl _ | assumption | apply Le.drop))))
      · refine ⟨fun x S c he hw hd hc hcu hm hgd => ?_, ⟨_, rfl⟩, .inl ⟨rfl, fun x => .inl rfl⟩⟩
        obtain ⟨h13, h14, h12, -⟩ := hd
        refine TOps.indexAddr (off' := k) h13 h14 Try.underlying36 ti3 (by omega) (by omega) (by simp) rfl ?_
        exact TOps.fin (Nrm.draw x (fun _ _ _ => rfl) rfl (by first | exact Le.refl _ | assumption | exact (by repeat (first | exact Le.refl _ | assumption | apply Le.drop))))
      · refine ⟨fun x S c he hw hd hc hcu hm hgd => ?_, ⟨_, rfl⟩, .inl ⟨rfl, fun x => .inl rfl⟩⟩
        obtain ⟨h15, h12, -⟩ := hd
        refine TOps.load1 h15 ti3 hl rfl ?_
        exact TOps.fin (Nrm.draw x (fun _ _ _ => rfl) rfl (by first | exact Le.refl _ | assumption | exact (by repeat (first | exact Le.refl _ | assumption | apply Le.drop))))
      · refine ⟨fun x S c he hw hd hc hcu hm hgd => ?_, ⟨_, rfl⟩, .inl ⟨rfl, fun x => .inl rfl⟩⟩
        obtain ⟨h12, -⟩ := hd
        refine TOps.move (he _ _ rfl) rfl ?_
        exact TOps.fin (Nrm.draw x (fun _ _ _ => rfl) rfl (by first | exact Le.refl _ | assumption | exact (by repeat (first | exact Le.refl _ | assumption | apply Le.drop))))
      · refine ⟨fun x S c he hw hd hc hcu hm hgd => ?_, ⟨_, rfl⟩, .inl ⟨rfl, fun x => .inl rfl⟩⟩
        obtain ⟨h12, -⟩ := hd
        refine TOps.move (he _ _ rfl) rfl ?_
        exact TOps.fin (Nrm.draw x (fun _ _ _ => rfl) rfl (by first | exact Le.refl _ | assumption | exact (by repeat (first | exact Le.refl _ | assumption | apply Le.drop))))
      · refine ⟨fun x S c he hw hd hc hcu hm hgd => ?_, ⟨_, rfl⟩, .inl ⟨rfl, fun x => .inl rfl⟩⟩
        obtain ⟨h17, h18, h12, -⟩ := hd
        refine TOps.indexAddr (off' := k) h17 h18 Try.underlying36 ti3 (by omega) (by omega) (by simp) rfl ?_
        exact TOps.fin (Nrm.draw x (fun _ _ _ => rfl) rfl (by first | exact Le.refl _ | assumption | exact (by repeat (first | exact Le.refl _ | assumption | apply Le.drop))))
      · refine ⟨fun x S c he hw hd hc hcu hm hgd => ?_, ⟨_, rfl⟩, .inl ⟨rfl, fun x => .inl rfl⟩⟩
        obtain ⟨h19, h12, -⟩ := hd
        refine TOps.load1 h19 ti3 hlm rfl ?_
        exact TOps.fin (Nrm.draw x (fun _ _ _ => rfl) rfl (by first | exact Le.refl _ | assumption | exact (by repeat (first | exact Le.refl _ | assumption | apply Le.drop))))
      · refine ⟨fun x S c he hw hd hc hcu hm hgd => ?_, ⟨_, rfl⟩, .inl ⟨rfl, fun x => .inl rfl⟩⟩
        obtain ⟨h16, h20, h12, -⟩ := hd
        refine TOps.add (r := ((wk + nk : Nat) : Int)) h16 h20 (by rw [wrapI (by omega) (by omega)]; omega) rfl ?_
        exact TOps.fin (Nrm.draw x (fun _ _ _ => rfl) rfl (by first | exact Le.refl _ | assumption | exact (by repeat (first | exact Le.refl _ | assumption | apply Le.drop))))
      · refine ⟨fun x S c he hw hd hc hcu hm hgd => ?_, ⟨_, rfl⟩, .inl ⟨rfl, fun x => .inl rfl⟩⟩
        obtain ⟨h12, -⟩ := hd
        refine TOps.move (he _ _ rfl) rfl ?_
        exact TOps.fin (Nrm.draw x (fun _ _ _ => rfl) rfl (by first | exact Le.refl _ | assumption | exact (by repeat (first | exact Le.refl _ | assumption | apply Le.drop))))
      · refine ⟨fun x S c he hw hd hc hcu hm hgd => ?_, ⟨_, rfl⟩, .inl ⟨rfl, fun x => .inl rfl⟩⟩
        obtain ⟨h21, h22, h12, -⟩ := hd
        refine TOps.neqIr (r := false) h21 h22 (decide_eq_false (by omega)) rfl ?_
        exact TOps.fin (Nrm.draw x (fun _ _ _ => rfl) rfl (by first | exact Le.refl _ | assumption | exact (by repeat (first | exact Le.refl _ | assumption | apply Le.drop))))
      · refine ⟨fun x S c he hw hd hc hcu hm _ => ?_, trivial⟩
        obtain ⟨h12, h23, -⟩ := hd
        refine TOps.pick h12 rfl h23 rfl ?_
        exact TOps.fin (Nrm.draw x (fun _ _ _ => rfl) rfl (by first | exact Le.refl _ | assumption | exact (by repeat (first | exact Le.refl _ | assumption | apply Le.drop))))
      ) ?_
    refine Nrm.next ?_
    refine Tri.cond rfl (fun hc4 => ?_) (fun hc4 => ?_)
    · try simp only [decide_eq_true_eq, decide_eq_false_iff_not, Bool.and_eq_true, Bool.or_eq_true, Bool.not_eq_true', Bool.and_eq_false_iff, Bool.or_eq_false_iff, Bool.not_eq_false', Int.not_lt, Int.not_le, ne_eq, Decidable.not_not, Option.isSome_iff_ne_none, Option.isNone_iff_eq_none] at hc4
      have hfalse : False := by simp at hc4
      refine Tri.seq (Tri.region ?_)
      refine TOps.assign rfl rfl ?_
      refine TOps.next ?_
      exact hfalse.elim
    try simp only [decide_eq_true_eq, decide_eq_false_iff_not, Bool.and_eq_true, Bool.or_eq_true, Bool.not_eq_true', Bool.and_eq_false_iff, Bool.or_eq_false_iff, Bool.not_eq_false', Int.not_lt, Int.not_le, ne_eq, Decidable.not_not, Option.isSome_iff_ne_none, Option.isNone_iff_eq_none] at hc4
    refine Tri.fin ?_
    refine Nrm.next ?_
    refine Tri.seq (Tri.region ?_)
    refine TOps.move rfl rfl ?_
    refine TOps.move rfl rfl ?_
    refine TOps.move rfl rfl ?_
    refine TOps.indexAddr (off' := k) rfl rfl Try.underlying36 ti3 (by omega) (by omega) (by simp) rfl ?_
    refine TOps.load1 rfl ti3 hl rfl ?_
    refine TOps.add (r := (((FW.take (k + 1)).sum : Nat) : Int)) rfl rfl (by rw [wrapI (by omega) (by omega)]; omega) rfl ?_
    refine TOps.assign rfl rfl ?_
    refine TOps.next ?_
    refine Tri.region ?_
    refine TOps.move rfl rfl ?_
    refine TOps.field0 rfl Try.underlying24 rfl rfl ti3 rfl rfl rfl ?_
    refine TOps.load1 rfl ti3 (by first | exact Rd.lit (by repeat (first | exact List.Mem.head _ | apply List.Mem.tail)) rfl | (repeat (first | assumption | exact Rd.fld (by assumption) 0 rfl | apply Rd.up))) rfl ?_
    refine TOps.move rfl rfl ?_
    refine TOps.sub (r := ((v - k : Nat) : Int)) rfl rfl (by rw [wrapI (by omega) (by omega)]; omega) rfl ?_
    refine TOps.mul (r := ((bin v k * (v - k) : Nat) : Int)) rfl rfl (by rw [hmi]; exact wrapI (by omega) (by omega)) rfl ?_
    refine TOps.move rfl rfl ?_
    refine TOps.add (r := ((k + 1 : Nat) : Int)) rfl rfl (by rw [wrapI (by omega) (by omega)]; omega) rfl ?_
    refine TOps.quo (r := ((bin v (k + 1) : Nat) : Int)) rfl rfl (by omega) (by rw [hq]; exact wrapI (by omega) (by omega)) rfl ?_
    refine TOps.assign rfl rfl ?_
    refine TOps.fin ?_
    refine Nrm.body () trivial ⟨rfl, rfl, rfl, rfl, rfl, rfl, rfl, rfl, rfl, trivial⟩ (by repeat (first | exact Le.refl _ | assumption | apply Le.drop))
  rw [List.take_length, hcs] at hS
  refine Nrm.of hS hM ?_
  refine Nrm.next ?_
  refine Tri.seq (Tri.region ?_)
  refine TOps.move rfl rfl ?_
  refine TOps.move rfl rfl ?_
  refine TOps.eqlIr (r := true) rfl rfl (by simp) rfl ?_
  refine TOps.assign rfl rfl ?_
  refine TOps.next ?_
  refine Tri.ret1 (H' := H) Try.results4 (fun _ _ h => h) (.tmp rfl) l6 ⟨rfl, rfl⟩
end Go.Proofs
