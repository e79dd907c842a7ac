import Derived.Test.YtbpjjepiblomaaaT30
import Derived.Test.YtbpjjepiblomaaaGL62
namespace Go.Proofs
open Go.GL
set_option linter.unusedVariables false
set_option linter.unusedSimpArgs false
theorem small_g {H : List Ent} {fv : Value} {F : Fm} (hF : RF H fv F) (hk : F.ok) : Gives Try.prog 25 [fv] H (R1 (.bool F.small12) H) := by
  have hF0 := hF
  obtain ⟨na, off, cap, nsp, rfl, hN⟩ := hF
  refine Gives.enter Try.func25 rfl (by exact Try.ntmps25) rfl ?_
  refine Tri.seq (Tri.region ?_)
  refine TOps.boxN rfl ti24 rfl rfl (fun b1 => ?_)
  refine TOps.hide (fun H1 l1 s1 r1 => ?_)
  replace hF0 := hF0.le l1
  refine TOps.assign rfl rfl ?_
  refine TOps.next ?_
  refine Tri.seq (Tri.region ?_)
  refine TOps.loadN rfl ti24 (by first | exact Rd.all (by repeat (first | exact List.Mem.head _ | apply List.Mem.tail)) | (repeat (first | assumption | apply Rd.up))) rfl rfl ?_
  refine TOps.call (vs := [_]) Try.call22 ⟨rfl, trivial⟩ (check_g hF0 hk) rfl ?_
  rintro _ _ ⟨rfl, rfl⟩
  refine TOps.eqlNil (T := 45) (o := F.err) rfl Try.underlying28 rfl ?_
  refine TOps.move rfl rfl ?_
  refine' TOps.andB 3 rfl rfl rfl rfl (fun hg1_3 => ?_) ?_; rotate_left
  · have hg1_3' := hg1_3
    try simp only [decide_eq_true_eq, decide_eq_false_iff_not, Bool.and_eq_true, Bool.or_eq_true, Bool.not_eq_true', Bool.and_eq_false_iff, Bool.or_eq_false_iff, Bool.not_eq_false', Int.not_lt, Int.not_le, ne_eq, Decidable.not_not] at hg1_3'
    refine TOps.strip 3 true rfl rfl hg1_3 rfl ?_
    refine TOps.field0 rfl Try.underlying24 rfl rfl ti3 rfl rfl rfl ?_
    refine TOps.load1 rfl ti3 (by first | exact Rd.lit (by repeat (first | exact List.Mem.head _ | apply List.Mem.tail)) rfl | (repeat (first | assumption | exact Rd.fld (by assumption) 0 rfl | apply Rd.up))) rfl ?_
    refine TOps.geq rfl rfl rfl ?_
    refine TOps.blk rfl (by repeat (first | exact Ext.refl _ | refine Ext.cons rfl ?_)) (by repeat (first | exact Le.refl _ | apply Le.drop))
  refine TOps.move rfl rfl ?_
  refine' TOps.andB 3 rfl rfl rfl rfl (fun hg1_8 => ?_) ?_; rotate_left
  · have hg1_8' := hg1_8
    try simp only [decide_eq_true_eq, decide_eq_false_iff_not, Bool.and_eq_true, Bool.or_eq_true, Bool.not_eq_true', Bool.and_eq_false_iff, Bool.or_eq_false_iff, Bool.not_eq_false', Int.not_lt, Int.not_le, ne_eq, Decidable.not_not] at hg1_8'
    refine TOps.strip 8 true rfl rfl hg1_8 rfl ?_
    refine TOps.field0 rfl Try.underlying24 rfl rfl ti3 rfl rfl rfl ?_
    refine TOps.load1 rfl ti3 (by first | exact Rd.lit (by repeat (first | exact List.Mem.head _ | apply List.Mem.tail)) rfl | (repeat (first | assumption | exact Rd.fld (by assumption) 0 rfl | apply Rd.up))) rfl ?_
    refine TOps.leq rfl rfl rfl ?_
    refine TOps.blk rfl (by repeat (first | exact Ext.refl _ | refine Ext.cons rfl ?_)) (by repeat (first | exact Le.refl _ | apply Le.drop))
  refine TOps.assign rfl rfl ?_
  refine TOps.next ?_
  refine Tri.ret1 (H' := H) Try.results25 (fun _ _ h => h) (.tmp rfl) l1 ⟨by unfold Fm.small12; first | rfl | simp, rfl⟩
set_option maxHeartbeats 4000000 in
theorem replaceBack_g {H : List Ent} {fv : Value} {F : Fm} (hF : RF H fv F) (hk : F.ok) (p s : Int) (bp : 0 ≤ p ∧ p ≤ 255) (bs : 0 ≤ s ∧ s ≤ 65535) :
    Gives Try.prog 9 [fv, .int .u8 p, .int .u16 s] H (R1 (.bool true) H) := by
  have hF0 := hF
  obtain ⟨na, off, ncap, nsp, rfl, hN⟩ := hF
  obtain ⟨PP, rfl⟩ := Int.eq_ofNat_of_zero_le bp.1
  obtain ⟨SS, rfl⟩ := Int.eq_ofNat_of_zero_le bs.1
  refine Gives.enter Try.func9 rfl (by exact Try.ntmps9) rfl ?_
  refine Tri.seq (Tri.region ?_)
  refine TOps.boxN rfl ti24 rfl rfl (fun b3 => ?_)
  refine TOps.hide (fun H1 l1 s1 r1 => ?_)
  replace hF0 := hF0.le l1
  refine TOps.assign rfl rfl ?_
  refine TOps.next ?_
  refine Tri.seq ?_
  refine Tri.seq (Tri.region ?_)
  refine TOps.call (vs := []) Try.call10 trivial (awake30_g) rfl ?_
  rintro _ _ ⟨rfl, rfl⟩
  refine TOps.not rfl rfl ?_
  refine TOps.move rfl rfl ?_
  refine' TOps.orB 2 rfl rfl rfl rfl (fun hg1_2 => ?_) ?_; rotate_left
  · have hg1_2' := hg1_2
    try simp only [decide_eq_true_eq, decide_eq_false_iff_not, Bool.and_eq_true, Bool.or_eq_true, Bool.not_eq_true', Bool.and_eq_false_iff, Bool.or_eq_false_iff, Bool.not_eq_false', Int.not_lt, Int.not_le, ne_eq, Decidable.not_not] at hg1_2'
    refine TOps.strip 2 false rfl rfl hg1_2 rfl ?_
    refine TOps.loadN rfl ti24 (by first | exact Rd.all (by repeat (first | exact List.Mem.head _ | apply List.Mem.tail)) | (repeat (first | assumption | apply Rd.up))) rfl rfl ?_
    refine TOps.call (vs := [_]) Try.call11 ⟨rfl, trivial⟩ (heavy_g hF0 hk) rfl ?_
    rintro _ _ ⟨rfl, rfl⟩
    refine TOps.blk rfl (by repeat (first | exact Ext.refl _ | refine Ext.cons rfl ?_)) (by repeat (first | exact Le.refl _ | apply Le.drop))
  refine TOps.move rfl rfl ?_
  refine' TOps.orB 3 rfl rfl rfl rfl (fun hg1_6 => ?_) ?_; rotate_left
  · have hg1_6' := hg1_6
    try simp only [decide_eq_true_eq, decide_eq_false_iff_not, Bool.and_eq_true, Bool.or_eq_true, Bool.not_eq_true', Bool.and_eq_false_iff, Bool.or_eq_false_iff, Bool.not_eq_false', Int.not_lt, Int.not_le, ne_eq, Decidable.not_not] at hg1_6'
    refine TOps.strip 6 false rfl rfl hg1_6 rfl ?_
    refine TOps.loadN rfl ti24 (by first | exact Rd.all (by repeat (first | exact List.Mem.head _ | apply List.Mem.tail)) | (repeat (first | assumption | apply Rd.up))) rfl rfl ?_
    refine TOps.call (vs := [_]) Try.call25 ⟨rfl, trivial⟩ (small_g hF0 hk) rfl ?_
    rintro _ _ ⟨rfl, rfl⟩
    refine TOps.not rfl rfl ?_
    refine TOps.blk rfl (by repeat (first | exact Ext.refl _ | refine Ext.cons rfl ?_)) (by repeat (first | exact Le.refl _ | apply Le.drop))
  refine TOps.next ?_
  refine Tri.cond rfl (fun hc1 => ?_) (fun hc1 => ?_)
  · try simp only [decide_eq_true_eq, decide_eq_false_iff_not, Bool.and_eq_true, Bool.or_eq_true, Bool.not_eq_true', Bool.and_eq_false_iff, Bool.or_eq_false_iff, Bool.not_eq_false', Int.not_lt, Int.not_le, ne_eq, Decidable.not_not, Option.isSome_iff_ne_none, Option.isNone_iff_eq_none] at hc1
    refine Tri.seq (Tri.region ?_)
    refine TOps.call (vs := []) Try.call10 trivial (awake30_g) rfl ?_
    rintro _ _ ⟨rfl, rfl⟩
    refine TOps.assign rfl rfl ?_
    refine TOps.next ?_
    refine Tri.ret1 (H' := H) Try.results9 (fun _ _ h => h) (.tmp rfl) l1 ⟨rfl, rfl⟩
  try simp only [decide_eq_true_eq, decide_eq_false_iff_not, Bool.and_eq_true, Bool.or_eq_true, Bool.not_eq_true', Bool.and_eq_false_iff, Bool.or_eq_false_iff, Bool.not_eq_false', Int.not_lt, Int.not_le, ne_eq, Decidable.not_not, Option.isSome_iff_ne_none, Option.isNone_iff_eq_none] at hc1
  obtain ⟨hg, hv12⟩ := Fm.small12_iff.1 hc1.2
  have he := (Fm.good_iff F).2 hg
  have g0 := hg.v0; have g1 := hg.v1; have g2 := hg.n1; have gt := hg.topLt
  have hfl := F.find_len
  have hv24 : F.vars.toNat ≤ 24 := by omega
  have h24 := pow24 hv24
  have hpos := Nat.two_pow_pos F.vars.toNat
  obtain ⟨X, hX⟩ : ∃ X, X = SS % 2 ^ F.vars.toNat := ⟨_, rfl⟩
  have hXlt : X < 2 ^ F.vars.toNat := by rw [hX]; exact Nat.mod_lt _ hpos
  have hsx : F.setErr (X : Int) = none := Fm.setErr_of hg hXlt
  refine Tri.fin ?_
  refine Nrm.next ?_
  refine Tri.seq (Tri.region ?_)
  refine TOps.move rfl rfl ?_
  refine TOps.convI (r := (SS : Int)) rfl Try.underlying53 Try.underlying3 (wrapI (by omega) (by omega)) rfl ?_
  refine TOps.field0 rfl Try.underlying24 rfl rfl ti3 rfl rfl rfl ?_
  refine TOps.load1 rfl ti3 (by first | exact Rd.lit (by repeat (first | exact List.Mem.head _ | apply List.Mem.tail)) rfl | (repeat (first | assumption | exact Rd.fld (by assumption) 0 rfl | apply Rd.up))) rfl ?_
  refine TOps.shl (r := ((2 ^ F.vars.toNat : Nat) : Int)) rfl rfl (by omega) (ishl_one (by omega)) rfl ?_
  refine TOps.rem (r := (X : Int)) rfl rfl (by omega) (by rw [hX]; exact tmod_nat SS (2 ^ F.vars.toNat)) rfl ?_
  refine TOps.assign rfl rfl ?_
  refine TOps.next ?_
  refine Tri.seq (Tri.region ?_)
  refine TOps.loadN rfl ti24 (by first | exact Rd.all (by repeat (first | exact List.Mem.head _ | apply List.Mem.tail)) | (repeat (first | assumption | apply Rd.up))) rfl rfl ?_
  refine TOps.move rfl rfl ?_
  refine TOps.call (vs := [_, _]) Try.call27 ⟨rfl, rfl, trivial⟩ (value_g hF0 hk (X : Int)) rfl ?_
  rintro _ _ ⟨rfl, rfl⟩
  rw [hsx, show ((none : Option Int).isNone && F.value (X : Int)) = F.value (X : Int) from rfl]
  refine TOps.move rfl rfl ?_
  refine TOps.extract rfl rfl rfl ?_
  refine TOps.extract rfl rfl rfl ?_
  refine TOps.assign rfl rfl ?_
  refine TOps.assign rfl rfl ?_
  refine TOps.next ?_
  refine Tri.seq (Tri.region ?_)
  refine TOps.loadN rfl ti24 (by first | exact Rd.all (by repeat (first | exact List.Mem.head _ | apply List.Mem.tail)) | (repeat (first | assumption | apply Rd.up))) rfl rfl ?_
  refine TOps.call (vs := [_]) Try.call26 ⟨rfl, trivial⟩ (find_g hF0 hk) rfl ?_
  rintro _ _ ⟨xs, la, lcap, hxs, rfl, hla, rfl⟩
  obtain rfl : xs = F.find := by rw [hxs, he]; rfl
  rw [he]
  have hlr : RdS (row la 3 1 lcap (nats F.find) :: H1) la 0 (nats F.find) := RdS.ofRowA (List.Mem.head _) hla
  have hF1 := hF0; have r0 := r1
  replace hF0 := hF0.le (Le.drop (e := row la 3 1 lcap (nats F.find)) (Le.refl _)); replace r1 := r1.up (e := row la 3 1 lcap (nats F.find))
  have l4 : Le (row la 3 1 lcap (nats F.find) :: H1) H1 := Le.drop (Le.refl _)
  obtain ⟨H3, hH3⟩ : ∃ H3, H3 = row la 3 1 lcap (nats F.find) :: H1 := ⟨_, rfl⟩
  rw [← hH3] at hlr hF0 r1 l4 ⊢
  refine TOps.move rfl rfl ?_
  refine TOps.extract rfl rfl rfl ?_
  refine TOps.extract rfl rfl rfl ?_
  refine TOps.assign rfl rfl ?_
  refine TOps.assign rfl rfl ?_
  refine TOps.next ?_
  refine Tri.seq ?_
  refine Tri.seq (Tri.region ?_)
  refine TOps.move rfl rfl ?_
  refine TOps.neqNil (T := 45) (o := none) rfl Try.underlying28 rfl ?_
  refine TOps.move rfl rfl ?_
  refine' TOps.orB 2 rfl rfl rfl rfl (fun hg6_2 => ?_) ?_; rotate_left
  · have hg6_2' := hg6_2
    try simp only [decide_eq_true_eq, decide_eq_false_iff_not, Bool.and_eq_true, Bool.or_eq_true, Bool.not_eq_true', Bool.and_eq_false_iff, Bool.or_eq_false_iff, Bool.not_eq_false', Int.not_lt, Int.not_le, ne_eq, Decidable.not_not] at hg6_2'
    refine TOps.strip 2 false rfl rfl hg6_2 rfl ?_
    refine TOps.move rfl rfl ?_
    refine TOps.neqNil (T := 45) (o := none) rfl Try.underlying28 rfl ?_
    refine TOps.blk rfl (by repeat (first | exact Ext.refl _ | refine Ext.cons rfl ?_)) (by repeat (first | exact Le.refl _ | apply Le.drop))
  refine TOps.next ?_
  refine Tri.cond rfl (fun hc2 => ?_) (fun hc2 => ?_)
  · exact absurd hc2 (by first | decide | simp)
  try simp only [decide_eq_true_eq, decide_eq_false_iff_not, Bool.and_eq_true, Bool.or_eq_true, Bool.not_eq_true', Bool.and_eq_false_iff, Bool.or_eq_false_iff, Bool.not_eq_false', Int.not_lt, Int.not_le, ne_eq, Decidable.not_not, Option.isSome_iff_ne_none, Option.isNone_iff_eq_none] at hc2
  refine Tri.fin ?_
  refine Nrm.next ?_
  refine Tri.seqMid (X := Unit) (fun y => [(3, .pointer (some ⟨b3, 0, none⟩)), (7, .int .i64 X), (8, .bool (F.value (X : Int)))]) (fun y => H1) (fun y => True) ?_ (fun y hmid => ?_)
  · skip
    refine Tri.seq (Tri.region ?_)
    refine TOps.move rfl rfl ?_
    refine TOps.len rfl Try.underlying50 rfl ?_
    refine TOps.gtr rfl rfl rfl ?_
    refine TOps.next ?_
    refine Tri.cond rfl (fun hc3 => ?_) (fun hc3 => ?_)
    · try simp only [decide_eq_true_eq, decide_eq_false_iff_not, Bool.and_eq_true, Bool.or_eq_true, Bool.not_eq_true', Bool.and_eq_false_iff, Bool.or_eq_false_iff, Bool.not_eq_false', Int.not_lt, Int.not_le, ne_eq, Decidable.not_not, Option.isSome_iff_ne_none, Option.isNone_iff_eq_none] at hc3
      have hlen : 0 < F.find.length := by omega
      obtain ⟨J, hJ⟩ : ∃ J, J = PP % F.find.length := ⟨_, rfl⟩
      have hJl : J < F.find.length := by rw [hJ]; exact Nat.mod_lt _ hlen
      obtain ⟨lb, rfl, -, hl⟩ := nats_at hlr hJl
      obtain ⟨q, hq, bq, mq, hqe⟩ := Fm.mem_find.1 (List.getElem_mem hJl)
      rw [hqe, Nat.zero_add] at hl
      refine Tri.seq (Tri.region ?_)
      refine TOps.move rfl rfl ?_
      refine TOps.move rfl rfl ?_
      refine TOps.convI (r := (PP : Int)) rfl Try.underlying5 Try.underlying3 (wrapI (by omega) (by omega)) rfl ?_
      refine TOps.move rfl rfl ?_
      refine TOps.len rfl Try.underlying50 rfl ?_
      refine TOps.rem (r := (J : Int)) rfl rfl (by omega) (by rw [hJ]; exact tmod_nat PP F.find.length) rfl ?_
      refine TOps.indexAddr (off' := J) rfl rfl Try.underlying50 ti3 (by omega) (by omega) (by simp) rfl ?_
      refine TOps.load1 rfl ti3 hl rfl ?_
      refine TOps.assign rfl rfl ?_
      refine TOps.next ?_
      refine Tri.seq (Tri.region ?_)
      refine TOps.move rfl rfl ?_
      first | refine TOps.fieldB 2 rfl Try.underlying24 rfl rfl ti3 rfl rfl rfl ?_ | refine TOps.fieldN 2 rfl Try.underlying24 rfl rfl ti3 rfl rfl rfl ?_
      refine TOps.load1 rfl ti3 (by first | exact Rd.lit (by repeat (first | exact List.Mem.head _ | apply List.Mem.tail)) rfl | (repeat (first | assumption | exact Rd.fld (by assumption) 2 rfl | apply Rd.up))) rfl ?_
      refine TOps.neqI rfl rfl rfl ?_
      refine TOps.next ?_
      refine Tri.cond rfl (fun hc4 => ?_) (fun hc4 => ?_)
      · try simp only [decide_eq_true_eq, decide_eq_false_iff_not, Bool.and_eq_true, Bool.or_eq_true, Bool.not_eq_true', Bool.and_eq_false_iff, Bool.or_eq_false_iff, Bool.not_eq_false', Int.not_lt, Int.not_le, ne_eq, Decidable.not_not, Option.isSome_iff_ne_none, Option.isNone_iff_eq_none] at hc4
        refine Tri.seq (Tri.region ?_)
        refine TOps.loadN rfl ti24 (by first | exact Rd.all (by repeat (first | exact List.Mem.head _ | apply List.Mem.tail)) | (repeat (first | assumption | apply Rd.up))) rfl rfl ?_
        refine TOps.move rfl rfl ?_
        refine TOps.call (vs := [_, _]) Try.call12 ⟨rfl, rfl, trivial⟩ (cut_g hF0 hk ((F.vars.toNat + q : Nat) : Int) ⟨by omega, by omega⟩) rfl ?_
        rintro _ H4 ⟨x, y, rfl, l5, s5, hX, hY⟩
        have hce := cutErr_mod hg (by omega) hq bq mq
        rw [if_neg hc4] at hce
        have hout : F.outF ((F.vars.toNat + q : Nat) : Int) = F.outer (F.vars.toNat + q) := by unfold Fm.outF; rw [hce, Int.toNat_natCast]; rfl
        have hin : F.inF ((F.vars.toNat + q : Nat) : Int) = F.inner (F.vars.toNat + q) := by unfold Fm.inF; rw [hce, Int.toNat_natCast]; rfl
        have hpe := cut_put hg (by omega) hq mq
        have hpv := cut_put_value hg (by omega) hq mq hXlt
        have hgo := outer_good hg (by omega) hq mq
        have hgi := inner_good hg hq
        rw [hout] at hX
        rw [hin] at hY
        have hpg := put_good hpe
        obtain ⟨OO, hOO⟩ : ∃ OO, F.outer (F.vars.toNat + q) = OO := ⟨_, rfl⟩
        obtain ⟨II, hII⟩ : ∃ II, F.inner (F.vars.toNat + q) = II := ⟨_, rfl⟩
        have hiv : (F.inner (F.vars.toNat + q)).vars = F.vars := rfl
        rw [hOO] at hX hgo hpe hpv hpg
        rw [hII] at hY hgi hpe hpv hpg hiv
        have hPF : OO.putF II = OO.put II := by unfold Fm.putF; rw [hpe]; rfl
        have hPv : (OO.put II).vars = F.vars := hiv
        have hPs : (OO.put II).setErr (X : Int) = none := Fm.setErr_of hpg (by rw [hPv]; exact hXlt)
        rw [hce]
        have hX0 := hX
        have hY0 := hY
        obtain ⟨xa, xo, xc, xs, rfl, hXN⟩ := hX
        obtain ⟨ya, yo, yc, ys, rfl, hYN⟩ := hY
        replace hF0 := hF0.le l5; replace r1 := r1.le l5
        refine TOps.move rfl rfl ?_
        refine TOps.extract rfl rfl rfl ?_
        refine TOps.extract rfl rfl rfl ?_
        refine TOps.extract rfl rfl rfl ?_
        refine TOps.alloc ti24 rfl (fun b13 => ?_)
        refine TOps.alloc ti24 rfl (fun b14 => ?_)
        refine TOps.storeN rfl rfl ti24 rfl rfl (by repeat (first | exact Upd.here | apply Upd.there)) (by first | decide | (simp; done) | (simp; omega)) ?_
        refine TOps.storeN rfl rfl ti24 rfl rfl (by repeat (first | exact Upd.here | apply Upd.there)) (by first | decide | (simp; done) | (simp; omega)) ?_
        refine TOps.hide (fun H5 l6 s6 r14 => ?_)
        replace r14 : Rd H5 b14 0 [.int .i64 II.vars, slV ya yo II.nodes.length yc ys, .int .i64 II.top] := r14
        have r13 : Rd H5 b13 0 [.int .i64 OO.vars, slV xa xo OO.nodes.length xc xs, .int .i64 OO.top] := Rd.le (Rd.all (by repeat (first | exact List.Mem.head _ | apply List.Mem.tail))) l6
        replace l6 := l6.trans (Le.drop (Le.refl H4))
        replace hF0 := hF0.le l6; replace r1 := r1.le l6; replace hX0 := hX0.le l6; replace hY0 := hY0.le l6
        have l7 := l6.trans (l5.trans l4)
        refine TOps.assign rfl rfl ?_
        refine TOps.next ?_
        refine Tri.seq (Tri.region ?_)
        refine TOps.loadN rfl ti24 (by first | exact Rd.all (by repeat (first | exact List.Mem.head _ | apply List.Mem.tail)) | (repeat (first | assumption | apply Rd.up))) rfl rfl ?_
        refine TOps.loadN rfl ti24 (by first | exact Rd.all (by repeat (first | exact List.Mem.head _ | apply List.Mem.tail)) | (repeat (first | assumption | apply Rd.up))) rfl rfl ?_
        refine TOps.call (vs := [_, _]) Try.call18 ⟨rfl, rfl, trivial⟩ (put_g hX0 hY0 hgo.ok hgi.ok) rfl ?_
        rintro _ H6 ⟨tv, rfl, l8, s8, hP⟩
        rw [hpe]
        rw [hPF] at hP
        obtain ⟨PF, hPFe⟩ : ∃ PF, OO.put II = PF := ⟨_, rfl⟩
        rw [hPFe] at hP hpv hpg hPv hPs
        have hP0 := hP
        obtain ⟨pa, po, pc, ps, rfl, hPN⟩ := hP
        replace r1 := r1.le l8
        refine TOps.move rfl rfl ?_
        refine TOps.extract rfl rfl rfl ?_
        refine TOps.extract rfl rfl rfl ?_
        refine TOps.alloc ti24 rfl (fun b16 => ?_)
        refine TOps.storeN rfl rfl ti24 rfl rfl (by repeat (first | exact Upd.here | apply Upd.there)) (by first | decide | (simp; done) | (simp; omega)) ?_
        refine TOps.hide (fun H7 l9 s9 r16 => ?_)
        replace r16 : Rd H7 b16 0 [.int .i64 PF.vars, slV pa po PF.nodes.length pc ps, .int .i64 PF.top] := r16
        replace r1 := r1.le l9; replace hP0 := hP0.le l9
        have l10 := l9.trans (l8.trans l7)
        refine TOps.assign rfl rfl ?_
        refine TOps.next ?_
        refine Tri.seq (Tri.region ?_)
        refine TOps.loadN rfl ti24 (by first | exact Rd.all (by repeat (first | exact List.Mem.head _ | apply List.Mem.tail)) | (repeat (first | assumption | apply Rd.up))) rfl rfl ?_
        refine TOps.move rfl rfl ?_
        refine TOps.call (vs := [_, _]) Try.call27 ⟨rfl, rfl, trivial⟩ (value_g hP0 hpg.ok (X : Int)) rfl ?_
        rintro _ _ ⟨rfl, rfl⟩
        rw [hPs, hpv, show ((none : Option Int).isNone && F.value (X : Int)) = F.value (X : Int) from rfl]
        refine TOps.move rfl rfl ?_
        refine TOps.extract rfl rfl rfl ?_
        refine TOps.extract rfl rfl rfl ?_
        refine TOps.assign rfl rfl ?_
        refine TOps.assign rfl rfl ?_
        refine TOps.next ?_
        refine Tri.seq (Tri.region ?_)
        refine TOps.move rfl rfl ?_
        refine TOps.neqNil (T := 45) (o := none) rfl Try.underlying28 rfl ?_
        refine TOps.move rfl rfl ?_
        refine' TOps.orB 2 rfl rfl rfl rfl (fun hg14_2 => ?_) ?_; rotate_left
        · have hg14_2' := hg14_2
          try simp only [decide_eq_true_eq, decide_eq_false_iff_not, Bool.and_eq_true, Bool.or_eq_true, Bool.not_eq_true', Bool.and_eq_false_iff, Bool.or_eq_false_iff, Bool.not_eq_false', Int.not_lt, Int.not_le, ne_eq, Decidable.not_not] at hg14_2'
          refine TOps.strip 2 false rfl rfl hg14_2 rfl ?_
          refine TOps.move rfl rfl ?_
          refine TOps.neqNil (T := 45) (o := none) rfl Try.underlying28 rfl ?_
          refine TOps.blk rfl (by repeat (first | exact Ext.refl _ | refine Ext.cons rfl ?_)) (by repeat (first | exact Le.refl _ | apply Le.drop))
        refine TOps.move rfl rfl ?_
        refine' TOps.orB 2 rfl rfl rfl rfl (fun hg14_6 => ?_) ?_; rotate_left
        · have hg14_6' := hg14_6
          try simp only [decide_eq_true_eq, decide_eq_false_iff_not, Bool.and_eq_true, Bool.or_eq_true, Bool.not_eq_true', Bool.and_eq_false_iff, Bool.or_eq_false_iff, Bool.not_eq_false', Int.not_lt, Int.not_le, ne_eq, Decidable.not_not] at hg14_6'
          refine TOps.strip 6 false rfl rfl hg14_6 rfl ?_
          refine TOps.move rfl rfl ?_
          refine TOps.neqNil (T := 45) (o := none) rfl Try.underlying28 rfl ?_
          refine TOps.blk rfl (by repeat (first | exact Ext.refl _ | refine Ext.cons rfl ?_)) (by repeat (first | exact Le.refl _ | apply Le.drop))
        refine TOps.move rfl rfl ?_
        refine' TOps.orB 3 rfl rfl rfl rfl (fun hg14_10 => ?_) ?_; rotate_left
        · have hg14_10' := hg14_10
          try simp only [decide_eq_true_eq, decide_eq_false_iff_not, Bool.and_eq_true, Bool.or_eq_true, Bool.not_eq_true', Bool.and_eq_false_iff, Bool.or_eq_false_iff, Bool.not_eq_false', Int.not_lt, Int.not_le, ne_eq, Decidable.not_not] at hg14_10'
          refine TOps.strip 10 false rfl rfl hg14_10 rfl ?_
          refine TOps.move rfl rfl ?_
          refine TOps.move rfl rfl ?_
          refine TOps.neqB rfl rfl Try.underlying4 rfl ?_
          refine TOps.blk rfl (by repeat (first | exact Ext.refl _ | refine Ext.cons rfl ?_)) (by repeat (first | exact Le.refl _ | apply Le.drop))
        refine TOps.move rfl rfl ?_
        refine' TOps.orB 5 rfl rfl rfl rfl (fun hg14_15 => ?_) ?_; rotate_left
        · have hg14_15' := hg14_15
          try simp only [decide_eq_true_eq, decide_eq_false_iff_not, Bool.and_eq_true, Bool.or_eq_true, Bool.not_eq_true', Bool.and_eq_false_iff, Bool.or_eq_false_iff, Bool.not_eq_false', Int.not_lt, Int.not_le, ne_eq, Decidable.not_not] at hg14_15'
          refine TOps.strip 15 false rfl rfl hg14_15 rfl ?_
          refine TOps.field0 rfl Try.underlying24 rfl rfl ti3 rfl rfl rfl ?_
          refine TOps.load1 rfl ti3 (by first | exact Rd.lit (by repeat (first | exact List.Mem.head _ | apply List.Mem.tail)) rfl | (repeat (first | assumption | exact Rd.fld (by assumption) 0 rfl | apply Rd.up))) rfl ?_
          refine TOps.field0 rfl Try.underlying24 rfl rfl ti3 rfl rfl rfl ?_
          refine TOps.load1 rfl ti3 (by first | exact Rd.lit (by repeat (first | exact List.Mem.head _ | apply List.Mem.tail)) rfl | (repeat (first | assumption | exact Rd.fld (by assumption) 0 rfl | apply Rd.up))) rfl ?_
          refine TOps.neqI rfl rfl rfl ?_
          refine TOps.blk rfl (by repeat (first | exact Ext.refl _ | refine Ext.cons rfl ?_)) (by repeat (first | exact Le.refl _ | apply Le.drop))
        refine TOps.next ?_
        refine Tri.cond rfl (fun hc5 => ?_) (fun hc5 => ?_)
        · try simp only [decide_eq_true_eq, decide_eq_false_iff_not, Bool.and_eq_true, Bool.or_eq_true, Bool.not_eq_true', Bool.and_eq_false_iff, Bool.or_eq_false_iff, Bool.not_eq_false', Int.not_lt, Int.not_le, ne_eq, Decidable.not_not, Option.isSome_iff_ne_none, Option.isNone_iff_eq_none] at hc5
          have hfalse : False := by rw [hPv] at hc5; simp at hc5
          refine Tri.seq (Tri.region ?_)
          refine TOps.assign rfl rfl ?_
          refine TOps.next ?_
          exact hfalse.elim
        try simp only [decide_eq_true_eq, decide_eq_false_iff_not, Bool.and_eq_true, Bool.or_eq_true, Bool.not_eq_true', Bool.and_eq_false_iff, Bool.or_eq_false_iff, Bool.not_eq_false', Int.not_lt, Int.not_le, ne_eq, Decidable.not_not, Option.isSome_iff_ne_none, Option.isNone_iff_eq_none] at hc5
        refine Tri.fin ?_
        refine Nrm.mid () trivial (by exact ⟨rfl, rfl, rfl, trivial⟩) (by repeat (first | exact Le.refl _ | assumption | apply Le.drop))
      try simp only [decide_eq_true_eq, decide_eq_false_iff_not, Bool.and_eq_true, Bool.or_eq_true, Bool.not_eq_true', Bool.and_eq_false_iff, Bool.or_eq_false_iff, Bool.not_eq_false', Int.not_lt, Int.not_le, ne_eq, Decidable.not_not, Option.isSome_iff_ne_none, Option.isNone_iff_eq_none] at hc4
      refine Tri.fin ?_
      refine Nrm.mid () trivial (by exact ⟨rfl, rfl, rfl, trivial⟩) (by repeat (first | exact Le.refl _ | assumption | apply Le.drop))
    try simp only [decide_eq_true_eq, decide_eq_false_iff_not, Bool.and_eq_true, Bool.or_eq_true, Bool.not_eq_true', Bool.and_eq_false_iff, Bool.or_eq_false_iff, Bool.not_eq_false', Int.not_lt, Int.not_le, ne_eq, Decidable.not_not, Option.isSome_iff_ne_none, Option.isNone_iff_eq_none] at hc3
    refine Tri.fin ?_
    refine Nrm.mid () trivial (by exact ⟨rfl, rfl, rfl, trivial⟩) (by repeat (first | exact Le.refl _ | assumption | apply Le.drop))
  refine Tri.seq (Tri.region ?_)
  obtain ⟨LR, hLR⟩ : ∃ LR, levR F = LR := ⟨_, rfl⟩
  have hLF : levF (25 - F.vars.toNat) F [] = LR := by rw [← hLR]; unfold levR; rw [he]
  have hgd := levF_good (25 - F.vars.toNat) F [] hg (fun x hx => by simp at hx)
  have hlen := levF_len (25 - F.vars.toNat) F []
  have hler := levF_err (25 - F.vars.toNat) F [] hg
  rw [hLF] at hgd hlen hler
  rw [List.length_nil] at hlen
  refine TOps.loadN rfl ti24 (by first | exact Rd.all (by repeat (first | exact List.Mem.head _ | apply List.Mem.tail)) | (repeat (first | assumption | apply Rd.up))) rfl rfl ?_
  refine TOps.call (vs := [_]) Try.call23 ⟨rfl, trivial⟩ (levelsAll_g hF1 hk hLR) rfl ?_
  rintro _ H6 ⟨la, lc, rfl, l6, hL1⟩
  have r2 := r0.le l6
  refine TOps.move rfl rfl ?_
  refine TOps.extract rfl rfl rfl ?_
  refine TOps.extract rfl rfl rfl ?_
  refine TOps.assign rfl rfl ?_
  refine TOps.assign rfl rfl ?_
  refine TOps.next ?_
  refine Tri.seq ?_
  refine Tri.seq (Tri.region ?_)
  refine TOps.move rfl rfl ?_
  refine TOps.neqNil (T := 45) (o := LR.2) rfl Try.underlying28 rfl ?_
  refine TOps.next ?_
  refine Tri.cond rfl (fun hc6 => ?_) (fun hc6 => ?_)
  · try simp only [decide_eq_true_eq, decide_eq_false_iff_not, Bool.and_eq_true, Bool.or_eq_true, Bool.not_eq_true', Bool.and_eq_false_iff, Bool.or_eq_false_iff, Bool.not_eq_false', Int.not_lt, Int.not_le, ne_eq, Decidable.not_not, Option.isSome_iff_ne_none, Option.isNone_iff_eq_none] at hc6
    refine Tri.seq (Tri.region ?_)
    refine TOps.move rfl rfl ?_
    refine TOps.call (vs := [_, _]) Try.call21 ⟨rfl, rfl, trivial⟩ (is_g LR.2 4) rfl ?_
    rintro _ _ ⟨rfl, rfl⟩
    refine TOps.assign rfl rfl ?_
    refine TOps.next ?_
    refine Tri.ret1 (H' := H) Try.results9 (fun _ _ h => h) (.tmp rfl) (l6.trans l1) ⟨by rcases hler with h | h; exact absurd h (by simpa using hc6); rw [h]; rfl, rfl⟩
  try simp only [decide_eq_true_eq, decide_eq_false_iff_not, Bool.and_eq_true, Bool.or_eq_true, Bool.not_eq_true', Bool.and_eq_false_iff, Bool.or_eq_false_iff, Bool.not_eq_false', Int.not_lt, Int.not_le, ne_eq, Decidable.not_not, Option.isSome_iff_ne_none, Option.isNone_iff_eq_none] at hc6
  refine Tri.fin ?_
  refine Nrm.next ?_
  refine Tri.seq (Tri.region ?_)
  refine TOps.move rfl rfl ?_
  refine TOps.call (vs := [_]) Try.call30 ⟨rfl, trivial⟩ (back_g (RES := backR LR.1) hL1 (by omega) (fun i hi => (hgd _ (List.getElem_mem hi)).ok) rfl) rfl ?_
  rintro _ H8 ⟨tv, rfl, l8, s8, hP⟩
  have hL2 : LR.2 = none := by simpa using hc6
  obtain ⟨q1, q2, q3, q4⟩ := backR_lev (L := LR.1) hg (by rw [hLF, ← hL2])
  obtain ⟨BR, hBR⟩ : ∃ BR, backR LR.1 = BR := ⟨_, rfl⟩
  rw [hBR] at q1 q2 q3 q4 hP ⊢
  rw [q1]
  have hBs : BR.1.setErr (X : Int) = none := Fm.setErr_of q2 (by rw [q3]; exact hXlt)
  have hBv := q4 X hXlt
  have hP0 := hP
  obtain ⟨pa, po, pc, ps, rfl, hPN⟩ := hP
  replace r2 := r2.le l8
  refine TOps.move rfl rfl ?_
  refine TOps.extract rfl rfl rfl ?_
  refine TOps.extract rfl rfl rfl ?_
  refine TOps.alloc ti24 rfl (fun b21 => ?_)
  refine TOps.storeN rfl rfl ti24 rfl rfl (by repeat (first | exact Upd.here | apply Upd.there)) (by first | decide | (simp; done) | (simp; omega)) ?_
  refine TOps.hide (fun H7 l9 s9 r21 => ?_)
  replace r21 : Rd H7 b21 0 [.int .i64 BR.1.vars, slV pa po BR.1.nodes.length pc ps, .int .i64 BR.1.top] := r21
  replace r2 := r2.le l9; replace hP0 := hP0.le l9
  have l10 := l9.trans (l8.trans (l6.trans l1))
  refine TOps.assign rfl rfl ?_
  refine TOps.next ?_
  refine Tri.seq (Tri.region ?_)
  refine TOps.loadN rfl ti24 (by first | exact Rd.all (by repeat (first | exact List.Mem.head _ | apply List.Mem.tail)) | (repeat (first | assumption | apply Rd.up))) rfl rfl ?_
  refine TOps.move rfl rfl ?_
  refine TOps.call (vs := [_, _]) Try.call27 ⟨rfl, rfl, trivial⟩ (value_g hP0 q2.ok (X : Int)) rfl ?_
  rintro _ _ ⟨rfl, rfl⟩
  rw [hBs, hBv, show ((none : Option Int).isNone && F.value (X : Int)) = F.value (X : Int) from rfl]
  refine TOps.move rfl rfl ?_
  refine TOps.extract rfl rfl rfl ?_
  refine TOps.extract rfl rfl rfl ?_
  refine TOps.assign rfl rfl ?_
  refine TOps.assign rfl rfl ?_
  refine TOps.next ?_
  refine Tri.seq (Tri.region ?_)
  refine TOps.move rfl rfl ?_
  refine TOps.eqlNil (T := 45) (o := none) rfl Try.underlying28 rfl ?_
  refine TOps.move rfl rfl ?_
  refine' TOps.andB 2 rfl rfl rfl rfl (fun hg21_2 => ?_) ?_; rotate_left
  · have hg21_2' := hg21_2
    try simp only [decide_eq_true_eq, decide_eq_false_iff_not, Bool.and_eq_true, Bool.or_eq_true, Bool.not_eq_true', Bool.and_eq_false_iff, Bool.or_eq_false_iff, Bool.not_eq_false', Int.not_lt, Int.not_le, ne_eq, Decidable.not_not] at hg21_2'
    refine TOps.strip 2 true rfl rfl hg21_2 rfl ?_
    refine TOps.move rfl rfl ?_
    refine TOps.eqlNil (T := 45) (o := none) rfl Try.underlying28 rfl ?_
    refine TOps.blk rfl (by repeat (first | exact Ext.refl _ | refine Ext.cons rfl ?_)) (by repeat (first | exact Le.refl _ | apply Le.drop))
  refine TOps.move rfl rfl ?_
  refine' TOps.andB 3 rfl rfl rfl rfl (fun hg21_6 => ?_) ?_; rotate_left
  · have hg21_6' := hg21_6
    try simp only [decide_eq_true_eq, decide_eq_false_iff_not, Bool.and_eq_true, Bool.or_eq_true, Bool.not_eq_true', Bool.and_eq_false_iff, Bool.or_eq_false_iff, Bool.not_eq_false', Int.not_lt, Int.not_le, ne_eq, Decidable.not_not] at hg21_6'
    refine TOps.strip 6 true rfl rfl hg21_6 rfl ?_
    refine TOps.move rfl rfl ?_
    refine TOps.move rfl rfl ?_
    refine TOps.eqlB rfl rfl Try.underlying4 rfl ?_
    refine TOps.blk rfl (by repeat (first | exact Ext.refl _ | refine Ext.cons rfl ?_)) (by repeat (first | exact Le.refl _ | apply Le.drop))
  refine TOps.move rfl rfl ?_
  refine' TOps.andB 5 rfl rfl rfl rfl (fun hg21_11 => ?_) ?_; rotate_left
  · have hg21_11' := hg21_11
    try simp only [decide_eq_true_eq, decide_eq_false_iff_not, Bool.and_eq_true, Bool.or_eq_true, Bool.not_eq_true', Bool.and_eq_false_iff, Bool.or_eq_false_iff, Bool.not_eq_false', Int.not_lt, Int.not_le, ne_eq, Decidable.not_not] at hg21_11'
    refine TOps.strip 11 true rfl rfl hg21_11 rfl ?_
    refine TOps.field0 rfl Try.underlying24 rfl rfl ti3 rfl rfl rfl ?_
    refine TOps.load1 rfl ti3 (by first | exact Rd.lit (by repeat (first | exact List.Mem.head _ | apply List.Mem.tail)) rfl | (repeat (first | assumption | exact Rd.fld (by assumption) 0 rfl | apply Rd.up))) rfl ?_
    refine TOps.field0 rfl Try.underlying24 rfl rfl ti3 rfl rfl rfl ?_
    refine TOps.load1 rfl ti3 (by first | exact Rd.lit (by repeat (first | exact List.Mem.head _ | apply List.Mem.tail)) rfl | (repeat (first | assumption | exact Rd.fld (by assumption) 0 rfl | apply Rd.up))) rfl ?_
    refine TOps.eqlI rfl rfl rfl ?_
    refine TOps.blk rfl (by repeat (first | exact Ext.refl _ | refine Ext.cons rfl ?_)) (by repeat (first | exact Le.refl _ | apply Le.drop))
  refine TOps.assign rfl rfl ?_
  refine TOps.next ?_
  refine Tri.ret1 (H' := H) Try.results9 (fun _ _ h => h) (.tmp rfl) l10 ⟨by rw [q3]; simp, rfl⟩
end Go.Proofs
