import Derived.Test.YtlgjmebebhpolaaA10
namespace Go.Proofs
open Go.GL
set_option linter.unusedVariables false
set_option linter.unusedSimpArgs false
theorem exF10_ok : exF10.ok := exF10_good.ok
theorem awake10_g {H : List Ent} : Gives Try.prog 9 [] H (R1 (.bool true) H) := by
  refine Gives.enter Try.func9 rfl (by exact Try.ntmps9) rfl ?_
  refine Tri.seq (Tri.region ?_)
  refine TOps.assign rfl rfl ?_
  refine TOps.next ?_
  refine Tri.seq (Tri.region ?_)
  refine TOps.buildSlice (vs := [_, _, _]) (xs := [_, _, _]) Try.underlying36 ti3 ⟨rfl, rfl, rfl, rfl, rfl, rfl, trivial⟩ rfl rfl rfl rfl rfl rfl (by decide) rfl (fun b6 => ?_)
  refine TOps.buildStruct (vs := [(0, _), (1, _), (2, _)]) (xs := [_, _, _]) [(0, 1), (1, 1), (2, 1)] Try.underlying43 ti43 (fun w => by simp) ⟨rfl, rfl, rfl, rfl, rfl, rfl, trivial⟩ rfl rfl ?_
  refine TOps.buildSlice (vs := [_]) (xs := [_, _, _]) Try.underlying22 ti43 ⟨rfl, rfl, trivial⟩ rfl rfl rfl rfl rfl rfl (by decide) rfl (fun b8 => ?_)
  refine TOps.buildStruct (vs := [(0, _), (1, _), (2, _)]) (xs := [_, _, _]) [(0, 1), (1, 1), (2, 1)] Try.underlying24 ti24 (fun w => by simp) ⟨rfl, rfl, rfl, rfl, rfl, rfl, trivial⟩ rfl rfl ?_
  refine TOps.alloc ti24 rfl (fun b1 => ?_)
  refine TOps.storeN rfl rfl ti24 rfl rfl (by repeat (first | exact Upd.here | apply Upd.there)) (by first | decide | (simp; done) | (simp; omega)) ?_
  have hF : RF (row (some b8) 43 3 1 [.int .i64 4, .int .i64 2, slV (some b6) 0 3 3] :: row (some b6) 3 1 3 [.int .i64 0, .int .i64 1, .int .i64 2] :: H) (.agg (List.toArray [.int .i64 3, slV (some b8) 0 1 1, .int .i64 3])) exF10 := by
    refine ⟨some b8, 0, 1, none, rfl, RNodes.ofRow (E := 43) (sz := 3) (cap := 1) (qs := [(some b6, 0, 3, none)]) (by exact List.Mem.head _) rfl ?_⟩
    intro i d q hd hq
    rcases i with _ | i
    · simp [exF10] at hd hq; subst hd hq; exact RInts.ofRow (xs := [0, 1, 2]) (.tail _ (.head _))
    · simp [exF10] at hd
  refine TOps.le (H' := row (some b1) 24 3 1 [.int .i64 3, slV (some b8) 0 1 1, .int .i64 3] :: row (some b8) 43 3 1 [.int .i64 4, .int .i64 2, slV (some b6) 0 3 3] :: row (some b6) 3 1 3 [.int .i64 0, .int .i64 1, .int .i64 2] :: H) (by first | exact Le.refl _ | exact Le.rowEq rfl) ?_
  have l0 : Le (row (some b8) 43 3 1 [.int .i64 4, .int .i64 2, slV (some b6) 0 3 3] :: row (some b6) 3 1 3 [.int .i64 0, .int .i64 1, .int .i64 2] :: H) H := Le.drop (Le.drop (Le.refl _))
  generalize row (some b8) 43 3 1 [.int .i64 4, .int .i64 2, slV (some b6) 0 3 3] :: row (some b6) 3 1 3 [.int .i64 0, .int .i64 1, .int .i64 2] :: H = H0 at *
  refine TOps.hide (fun H1 l1 s1 r1 => ?_)
  replace hF := hF.le l1; replace l1 := l1.trans l0
  refine TOps.next ?_
  refine Tri.seq (Tri.region ?_)
  refine TOps.loadN rfl ti24 (by first | exact Rd.all (by repeat (first | exact List.Mem.head _ | apply List.Mem.tail)) | (repeat (first | assumption | apply Rd.up))) rfl rfl ?_
  refine TOps.call (vs := [_]) Try.call11 ⟨rfl, trivial⟩ (table_g hF exF10_ok) rfl ?_
  rintro _ _ ⟨xs, la, lcap, hxs, rfl, hla, rfl⟩
  obtain rfl : xs = exF10.table := by rw [hxs, exF10_terr]; rfl
  rw [exF10_terr]
  have hlr : RdS (row la 4 1 lcap (bools exF10.table) :: H1) la 0 (bools exF10.table) := RdS.ofRowA (List.Mem.head _) hla
  replace hF := hF.le (Le.drop (e := row la 4 1 lcap (bools exF10.table)) (Le.refl _)); replace r1 := r1.up (e := row la 4 1 lcap (bools exF10.table))
  have l2 : Le (row la 4 1 lcap (bools exF10.table) :: H1) H := Le.drop l1
  generalize row la 4 1 lcap (bools exF10.table) :: H1 = H2 at *
  refine TOps.move rfl rfl ?_
  refine TOps.extract rfl rfl rfl ?_
  refine TOps.extract rfl rfl rfl ?_
  refine TOps.assign rfl rfl ?_
  refine TOps.assign rfl rfl ?_
  refine TOps.next ?_
  refine Tri.seq (Tri.region ?_)
  refine TOps.loadN rfl ti24 (by first | exact Rd.all (by repeat (first | exact List.Mem.head _ | apply List.Mem.tail)) | (repeat (first | assumption | apply Rd.up))) rfl rfl ?_
  refine TOps.call (vs := [_]) Try.call14 ⟨rfl, trivial⟩ (weights_g hF exF10_ok) rfl ?_
  rintro _ _ ⟨ys, ma, mcap, hys, rfl, hma, rfl⟩
  obtain rfl : ys = exF10.weights := by rw [hys, exF10_terr]; rfl
  rw [exF10_terr]
  have hmr : RdS (row ma 3 1 mcap (nats exF10.weights) :: H2) ma 0 (nats exF10.weights) := RdS.ofRowA (List.Mem.head _) hma
  replace hlr := RdS.up (e := row ma 3 1 mcap (nats exF10.weights)) hlr
  have l3 : Le (row ma 3 1 mcap (nats exF10.weights) :: H2) H := Le.drop l2
  generalize row ma 3 1 mcap (nats exF10.weights) :: H2 = H3 at *
  rw [exF10_table] at hlr ⊢
  rw [exF10_weights] at hmr ⊢
  refine TOps.move rfl rfl ?_
  refine TOps.extract rfl rfl rfl ?_
  refine TOps.extract rfl rfl rfl ?_
  refine TOps.assign rfl rfl ?_
  refine TOps.assign rfl rfl ?_
  refine TOps.next ?_
  refine Tri.seq (Tri.region ?_)
  refine TOps.move rfl rfl ?_
  refine TOps.eqlNil (T := 48) (o := none) rfl Try.underlying29 rfl ?_
  refine TOps.move rfl rfl ?_
  refine' TOps.andB 2 rfl rfl rfl rfl (fun hg4_2 => ?_) ?_; rotate_left
  · have hg4_2' := hg4_2
    try simp only [decide_eq_true_eq, decide_eq_false_iff_not, Bool.and_eq_true, Bool.or_eq_true, Bool.not_eq_true', Bool.and_eq_false_iff, Bool.or_eq_false_iff, Bool.not_eq_false', Int.not_lt, Int.not_le, ne_eq, Decidable.not_not] at hg4_2'
    refine TOps.strip 2 true rfl rfl hg4_2 rfl ?_
    refine TOps.move rfl rfl ?_
    refine TOps.eqlNil (T := 48) (o := none) rfl Try.underlying29 rfl ?_
    refine TOps.blk rfl (by repeat (first | exact Ext.refl _ | refine Ext.cons rfl ?_)) (by repeat (first | exact Le.refl _ | apply Le.drop))
  refine TOps.move rfl rfl ?_
  refine' TOps.andB 3 rfl rfl rfl rfl (fun hg4_6 => ?_) ?_; rotate_left
  · have hg4_6' := hg4_6
    try simp only [decide_eq_true_eq, decide_eq_false_iff_not, Bool.and_eq_true, Bool.or_eq_true, Bool.not_eq_true', Bool.and_eq_false_iff, Bool.or_eq_false_iff, Bool.not_eq_false', Int.not_lt, Int.not_le, ne_eq, Decidable.not_not] at hg4_6'
    refine TOps.strip 6 true rfl rfl hg4_6 rfl ?_
    refine TOps.move rfl rfl ?_
    refine TOps.buildSlice (vs := [_, _, _, _, _, _, _, _]) (xs := [_, _, _, _, _, _, _, _]) Try.underlying27 ti4 ⟨rfl, rfl, rfl, rfl, rfl, rfl, rfl, rfl, rfl, rfl, rfl, rfl, rfl, rfl, rfl, rfl, trivial⟩ rfl rfl rfl rfl rfl rfl (by decide) rfl (fun b28 => ?_)
    refine TOps.call (vs := [_, _]) Try.call25 ⟨rfl, rfl, trivial⟩ (bools_g (xs := [false, false, false, true, false, true, true, true]) (ys := [false, false, false, true, false, true, true, true]) (RdS.up hlr) (RdS.ofRowS (xs := bools [false, false, false, true, false, true, true, true]) (List.Mem.head _)) (by decide) (by decide)) rfl ?_
    rintro _ _ ⟨rfl, rfl⟩
    rw [show decide ([false, false, false, true, false, true, true, true] = [false, false, false, true, false, true, true, true]) = true from by decide]
    refine TOps.blk rfl (by repeat (first | exact Ext.refl _ | refine Ext.cons rfl ?_)) (by repeat (first | exact Le.refl _ | apply Le.drop))
  refine TOps.move rfl rfl ?_
  refine' TOps.andB 3 rfl rfl rfl rfl (fun hg4_11 => ?_) ?_; rotate_left
  · have hg4_11' := hg4_11
    try simp only [decide_eq_true_eq, decide_eq_false_iff_not, Bool.and_eq_true, Bool.or_eq_true, Bool.not_eq_true', Bool.and_eq_false_iff, Bool.or_eq_false_iff, Bool.not_eq_false', Int.not_lt, Int.not_le, ne_eq, Decidable.not_not] at hg4_11'
    refine TOps.strip 11 true rfl rfl hg4_11 rfl ?_
    refine TOps.move rfl rfl ?_
    refine TOps.buildSlice (vs := [_, _, _, _]) (xs := [_, _, _, _]) Try.underlying36 ti3 ⟨rfl, rfl, rfl, rfl, rfl, rfl, rfl, rfl, trivial⟩ rfl rfl rfl rfl rfl rfl (by decide) rfl (fun b33 => ?_)
    refine TOps.call (vs := [_, _]) Try.call28 ⟨rfl, rfl, trivial⟩ (intsN_g (xs := [0, 0, 3, 1]) (ys := [0, 0, 3, 1]) (RdS.up hmr) (RdS.ofRowS (xs := nats [0, 0, 3, 1]) (List.Mem.head _)) rfl rfl (by decide)) rfl ?_
    rintro _ _ ⟨rfl, rfl⟩
    rw [show decide (([0, 0, 3, 1] : List Nat) = [0, 0, 3, 1]) = true from by decide]
    refine TOps.blk rfl (by repeat (first | exact Ext.refl _ | refine Ext.cons rfl ?_)) (by repeat (first | exact Le.refl _ | apply Le.drop))
  refine TOps.assign rfl rfl ?_
  refine TOps.next ?_
  refine Tri.ret1 (H' := H) Try.results9 (fun _ _ h => h) (.tmp rfl) l3 ⟨rfl, rfl⟩
theorem truthValues_g {H : List Ent} {fv : Value} {F : Fm} (hF : RF H fv F) (hk : F.ok) (set : Int) :
    Gives Try.prog 3 [fv, .int .i64 set] H (R1 (.bool true) H) := by
  have hF0 := hF
  obtain ⟨na, off, cap, nsp, rfl, hN⟩ := hF
  refine Gives.enter Try.func3 rfl (by exact Try.ntmps3) rfl ?_
  refine Tri.seq (Tri.region ?_)
  refine TOps.boxN rfl ti24 rfl rfl (fun b2 => ?_)
  refine TOps.hide (fun H1 l1 s1 r1 => ?_)
  replace hF0 := hF0.le l1
  refine TOps.assign rfl rfl ?_
  refine TOps.next ?_
  refine Tri.seq ?_
  refine Tri.seq (Tri.region ?_)
  refine TOps.call (vs := []) Try.call9 trivial (awake10_g) rfl ?_
  rintro _ _ ⟨rfl, rfl⟩
  refine TOps.not rfl rfl ?_
  refine TOps.move rfl rfl ?_
  refine' TOps.orB 3 rfl rfl rfl rfl (fun hg1_2 => ?_) ?_; rotate_left
  · have hg1_2' := hg1_2
    try simp only [decide_eq_true_eq, decide_eq_false_iff_not, Bool.and_eq_true, Bool.or_eq_true, Bool.not_eq_true', Bool.and_eq_false_iff, Bool.or_eq_false_iff, Bool.not_eq_false', Int.not_lt, Int.not_le, ne_eq, Decidable.not_not] at hg1_2'
    refine TOps.strip 2 false rfl rfl hg1_2 rfl ?_
    refine TOps.loadN rfl ti24 (by first | exact Rd.all (by repeat (first | exact List.Mem.head _ | apply List.Mem.tail)) | (repeat (first | assumption | apply Rd.up))) rfl rfl ?_
    refine TOps.call (vs := [_]) Try.call10 ⟨rfl, trivial⟩ (light_g hF0 hk) rfl ?_
    rintro _ _ ⟨rfl, rfl⟩
    refine TOps.not rfl rfl ?_
    refine TOps.blk rfl (by repeat (first | exact Ext.refl _ | refine Ext.cons rfl ?_)) (by repeat (first | exact Le.refl _ | apply Le.drop))
  refine TOps.next ?_
  refine Tri.cond rfl (fun hc1 => ?_) (fun hc1 => ?_)
  · try simp only [decide_eq_true_eq, decide_eq_false_iff_not, Bool.and_eq_true, Bool.or_eq_true, Bool.not_eq_true', Bool.and_eq_false_iff, Bool.or_eq_false_iff, Bool.not_eq_false', Int.not_lt, Int.not_le, ne_eq, Decidable.not_not, Option.isSome_iff_ne_none, Option.isNone_iff_eq_none] at hc1
    refine Tri.seq (Tri.region ?_)
    refine TOps.call (vs := []) Try.call9 trivial (awake10_g) rfl ?_
    rintro _ _ ⟨rfl, rfl⟩
    refine TOps.assign rfl rfl ?_
    refine TOps.next ?_
    refine Tri.ret1 (H' := H) Try.results3 (fun _ _ h => h) (.tmp rfl) l1 ⟨rfl, rfl⟩
  try simp only [decide_eq_true_eq, decide_eq_false_iff_not, Bool.and_eq_true, Bool.or_eq_true, Bool.not_eq_true', Bool.and_eq_false_iff, Bool.or_eq_false_iff, Bool.not_eq_false', Int.not_lt, Int.not_le, ne_eq, Decidable.not_not, Option.isSome_iff_ne_none, Option.isNone_iff_eq_none] at hc1
  refine Tri.fin ?_
  refine Nrm.next ?_
  refine Tri.seq (Tri.region ?_)
  refine TOps.loadN rfl ti24 (by first | exact Rd.all (by repeat (first | exact List.Mem.head _ | apply List.Mem.tail)) | (repeat (first | assumption | apply Rd.up))) rfl rfl ?_
  refine TOps.call (vs := [_]) Try.call11 ⟨rfl, trivial⟩ (table_g hF0 hk) rfl ?_
  rintro _ _ ⟨xs, la, lcap, hxs, rfl, hla, rfl⟩
  have hlr : RdS (row la 4 1 lcap (bools xs) :: H1) la 0 (bools xs) := RdS.ofRowA (List.Mem.head _) hla
  replace hF0 := hF0.le (Le.drop (e := row la 4 1 lcap (bools xs)) (Le.refl _)); replace r1 := r1.up (e := row la 4 1 lcap (bools xs))
  have l2 : Le (row la 4 1 lcap (bools xs) :: H1) H := Le.drop l1
  generalize row la 4 1 lcap (bools xs) :: H1 = H2 at *
  refine TOps.move rfl rfl ?_
  refine TOps.extract rfl rfl rfl ?_
  refine TOps.extract rfl rfl rfl ?_
  refine TOps.assign rfl rfl ?_
  refine TOps.assign rfl rfl ?_
  refine TOps.next ?_
  refine Tri.seq ?_
  refine Tri.seq (Tri.region ?_)
  refine TOps.move rfl rfl ?_
  refine TOps.neqNil rfl Try.underlying29 rfl ?_
  refine TOps.next ?_
  refine Tri.cond rfl (fun hc2 => ?_) (fun hc2 => ?_)
  · try simp only [decide_eq_true_eq, decide_eq_false_iff_not, Bool.and_eq_true, Bool.or_eq_true, Bool.not_eq_true', Bool.and_eq_false_iff, Bool.or_eq_false_iff, Bool.not_eq_false', Int.not_lt, Int.not_le, ne_eq, Decidable.not_not, Option.isSome_iff_ne_none, Option.isNone_iff_eq_none] at hc2
    obtain ⟨e, he⟩ := Option.ne_none_iff_exists'.1 hc2
    obtain rfl : xs = [] := by rw [hxs, he]; rfl
    refine Tri.seq (Tri.region ?_)
    refine TOps.move rfl rfl ?_
    refine TOps.len rfl Try.underlying27 rfl ?_
    refine TOps.eqlI rfl rfl rfl ?_
    refine TOps.assign rfl rfl ?_
    refine TOps.next ?_
    refine Tri.ret1 (H' := H) Try.results3 (fun _ _ h => h) (.tmp rfl) l2 ⟨rfl, rfl⟩
  try simp only [decide_eq_true_eq, decide_eq_false_iff_not, Bool.and_eq_true, Bool.or_eq_true, Bool.not_eq_true', Bool.and_eq_false_iff, Bool.or_eq_false_iff, Bool.not_eq_false', Int.not_lt, Int.not_le, ne_eq, Decidable.not_not, Option.isSome_iff_ne_none, Option.isNone_iff_eq_none] at hc2
  have he : F.terr = none := by simpa using hc2
  obtain ⟨hg, h12⟩ := Fm.terr_none he
  have g0 := hg.v0
  obtain rfl : xs = F.table := by rw [hxs, he]; rfl
  have hcl : clipI F.vars 0 12 = F.vars := by unfold clipI; (repeat' split) <;> omega
  have h4096 := pow12 (v := F.vars.toNat) (by omega)
  have hpos := Nat.two_pow_pos F.vars.toNat
  have htl := F.table_length
  have hS := lowBits_lt set F.vars.toNat
  have hse := Fm.setErr_of hg hS
  have hsh : ishl 1 F.vars.toNat = ((2 ^ F.vars.toNat : Nat) : Int) := ishl_one (by omega)
  have hma : iand set ((2 ^ F.vars.toNat - 1 : Nat) : Int) = (lowBits set F.vars.toNat : Int) := iand_mask (by omega)
  obtain ⟨lb, rfl, -, hl⟩ := RdS.at hlr (i := lowBits set F.vars.toNat) (by simp; omega)
  have htk : ∀ (s : Nat) (hs : s < F.table.length), F.table[s] = F.value (s : Nat) := fun s hs => F.table_get hs
  rw [List.getElem_map, htk _ (by omega), Nat.zero_add] at hl
  generalize lowBits set F.vars.toNat = S at *
  refine Tri.fin ?_
  refine Nrm.next ?_
  refine Tri.seq (Tri.region ?_)
  refine TOps.field0 rfl Try.underlying24 rfl rfl ti3 rfl rfl rfl ?_
  refine TOps.load1 rfl ti3 (by first | exact Rd.lit (by repeat (first | exact List.Mem.head _ | apply List.Mem.tail)) rfl | (repeat (first | assumption | exact Rd.fld (by assumption) 0 rfl | apply Rd.up))) rfl ?_
  refine TOps.call (vs := [_, _, _]) Try.call12 ⟨rfl, rfl, rfl, trivial⟩ (clip_g F.vars 0 12) rfl ?_
  rintro _ _ ⟨rfl, rfl⟩
  rw [hcl]
  refine TOps.assign rfl rfl ?_
  refine TOps.next ?_
  refine Tri.seq ?_
  refine Tri.seq (Tri.region ?_)
  refine TOps.move rfl rfl ?_
  refine TOps.len rfl Try.underlying27 rfl ?_
  refine TOps.move rfl rfl ?_
  refine TOps.shl (r := ((2 ^ F.vars.toNat : Nat) : Int)) rfl rfl (by omega) hsh rfl ?_
  refine TOps.neqIr (r := false) rfl rfl (decide_eq_false (by omega)) rfl ?_
  refine TOps.next ?_
  refine Tri.cond rfl (fun hc3 => ?_) (fun hc3 => ?_)
  · try simp only [decide_eq_true_eq, decide_eq_false_iff_not, Bool.and_eq_true, Bool.or_eq_true, Bool.not_eq_true', Bool.and_eq_false_iff, Bool.or_eq_false_iff, Bool.not_eq_false', Int.not_lt, Int.not_le, ne_eq, Decidable.not_not, Option.isSome_iff_ne_none, Option.isNone_iff_eq_none] at hc3
    have hfalse : False := by simp at hc3
    refine Tri.seq (Tri.region ?_)
    refine TOps.assign rfl rfl ?_
    refine TOps.next ?_
    exact hfalse.elim
  try simp only [decide_eq_true_eq, decide_eq_false_iff_not, Bool.and_eq_true, Bool.or_eq_true, Bool.not_eq_true', Bool.and_eq_false_iff, Bool.or_eq_false_iff, Bool.not_eq_false', Int.not_lt, Int.not_le, ne_eq, Decidable.not_not, Option.isSome_iff_ne_none, Option.isNone_iff_eq_none] at hc3
  refine Tri.fin ?_
  refine Nrm.next ?_
  refine Tri.seq (Tri.region ?_)
  refine TOps.move rfl rfl ?_
  refine TOps.move rfl rfl ?_
  refine TOps.shl (r := ((2 ^ F.vars.toNat : Nat) : Int)) rfl rfl (by omega) hsh rfl ?_
  refine TOps.sub (r := ((2 ^ F.vars.toNat - 1 : Nat) : Int)) rfl rfl (by rw [wrapI (by omega) (by omega)]; omega) rfl ?_
  refine TOps.and (r := (S : Int)) rfl rfl hma rfl ?_
  refine TOps.assign rfl rfl ?_
  refine TOps.next ?_
  refine Tri.seq (Tri.region ?_)
  refine TOps.loadN rfl ti24 (by first | exact Rd.all (by repeat (first | exact List.Mem.head _ | apply List.Mem.tail)) | (repeat (first | assumption | apply Rd.up))) rfl rfl ?_
  refine TOps.move rfl rfl ?_
  refine TOps.call (vs := [_, _]) Try.call13 ⟨rfl, rfl, trivial⟩ (value_g hF0 hk (S : Int)) rfl ?_
  rintro _ _ ⟨rfl, rfl⟩
  rw [hse, show ((none : Option Int).isNone && F.value (S : Nat)) = F.value (S : Nat) from rfl]
  refine TOps.move rfl rfl ?_
  refine TOps.extract rfl rfl rfl ?_
  refine TOps.extract rfl rfl rfl ?_
  refine TOps.assign rfl rfl ?_
  refine TOps.assign rfl rfl ?_
  refine TOps.next ?_
  refine Tri.seq (Tri.region ?_)
  refine TOps.move rfl rfl ?_
  refine TOps.eqlNil (T := 48) (o := none) rfl Try.underlying29 rfl ?_
  refine TOps.move rfl rfl ?_
  refine' TOps.andB 6 rfl rfl rfl rfl (fun hg11_2 => ?_) ?_; rotate_left
  · have hg11_2' := hg11_2
    try simp only [decide_eq_true_eq, decide_eq_false_iff_not, Bool.and_eq_true, Bool.or_eq_true, Bool.not_eq_true', Bool.and_eq_false_iff, Bool.or_eq_false_iff, Bool.not_eq_false', Int.not_lt, Int.not_le, ne_eq, Decidable.not_not] at hg11_2'
    refine TOps.strip 2 true rfl rfl hg11_2 rfl ?_
    refine TOps.move rfl rfl ?_
    refine TOps.move rfl rfl ?_
    refine TOps.move rfl rfl ?_
    refine TOps.indexAddr (off' := S) rfl rfl Try.underlying27 ti4 (by omega) (by omega) (by simp) rfl ?_
    refine TOps.load1 rfl ti4 hl rfl ?_
    refine TOps.eqlBr (r := true) rfl rfl (by simp) Try.underlying4 rfl ?_
    refine TOps.blk rfl (by repeat (first | exact Ext.refl _ | refine Ext.cons rfl ?_)) (by repeat (first | exact Le.refl _ | apply Le.drop))
  refine TOps.assign rfl rfl ?_
  refine TOps.next ?_
  refine Tri.ret1 (H' := H) Try.results3 (fun _ _ h => h) (.tmp rfl) l2 ⟨rfl, rfl⟩
end Go.Proofs
