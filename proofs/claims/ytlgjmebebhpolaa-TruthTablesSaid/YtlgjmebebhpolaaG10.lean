import Derived.Test.YtlgjmebebhpolaaD10
import Derived.Test.YtlgjmebebhpolaaGL38
import Derived.Test.YtlgjmebebhpolaaNU
namespace Go.Proofs
open Go.GL
set_option linter.unusedVariables false
set_option linter.unusedSimpArgs false
theorem rtable_g {H : List Ent} {fv : Value} {F : Fm} (hF : RF H fv F) (hk : F.ok) (hg : F.Good) (h12 : F.vars ≤ 12) :
    Gives Try.prog 26 [fv] H (fun u H' => ∃ b cap, u = slV (some b) 0 F.table.length cap ∧ row (some b) 4 1 cap (bools F.table) :: H = H') := by
  have hF0 := hF
  obtain ⟨na, off, ncap, nsp, rfl, hN⟩ := hF
  have g0 := hg.v0
  obtain ⟨v, hv⟩ := Int.eq_ofNat_of_zero_le g0
  have hvn : F.vars.toNat = v := by omega
  have h4096 := pow12 (v := v) (by omega)
  have hpos := Nat.two_pow_pos v
  have htl := F.table_length
  rw [hvn] at htl
  have hall : (List.range (2 ^ v)).map (fun (s : Nat) => F.value s) = F.table := by unfold Fm.table; rw [hvn]
  have hsh : ishl 1 v = ((2 ^ v : Nat) : Int) := ishl_one (by omega)
  rw [hv] at hF0 ⊢
  generalize 2 ^ v = N at *
  refine Gives.enter Try.func26 rfl (by exact Try.ntmps26) rfl ?_
  refine Tri.seq (Tri.region ?_)
  refine TOps.boxN rfl ti24 rfl rfl (fun b1 => ?_)
  refine TOps.hide (fun H1 l1 s1 r1 => ?_)
  replace hF0 := hF0.le l1
  refine TOps.assign rfl rfl ?_
  refine TOps.next ?_
  refine Tri.seq (Tri.region ?_)
  refine TOps.assign rfl rfl ?_
  refine TOps.next ?_
  refine Tri.seq ?_
  refine Tri.seq (Tri.region ?_)
  refine TOps.field0 rfl Try.underlying24 rfl rfl ti3 rfl rfl rfl ?_
  refine TOps.load1 rfl ti3 (by first | exact Rd.lit (by repeat (first | exact List.Mem.head _ | apply List.Mem.tail)) rfl | (repeat (first | assumption | exact Rd.fld (by assumption) 0 rfl | apply Rd.up))) rfl ?_
  refine TOps.shl (r := (N : Int)) rfl rfl (by omega) hsh rfl ?_
  refine TOps.move rfl rfl ?_
  refine TOps.next ?_
  refine Tri.range (X := Option Nat × Nat) (fun z k => [(1, .pointer (some ⟨b1, 0, none⟩)), (3, slV z.1 0 k z.2)]) (fun z k => row z.1 4 1 z.2 (bools ((List.range k).map (fun (s : Nat) => F.value s))) :: H1) (fun z k => 0 < k → ∃ b, z.1 = some b) (by omega) rfl rfl rfl (fun _ _ => ⟨rfl, rfl, rfl, rfl⟩) (none, 0) (fun h => absurd h (Nat.lt_irrefl _)) ⟨rfl, rfl, trivial⟩ Le.addNil (fun k z hlt hp => ?_) (fun z ac wc hp hS hM => ?_)
  · skip
    refine Tri.seq (Tri.region ?_)
    refine TOps.move rfl rfl ?_
    refine TOps.assign rfl rfl ?_
    refine TOps.next ?_
    refine Tri.region ?_
    refine TOps.move rfl rfl ?_
    refine TOps.loadN rfl ti24 (by first | exact Rd.all (by repeat (first | exact List.Mem.head _ | apply List.Mem.tail)) | (repeat (first | assumption | apply Rd.up))) rfl rfl ?_
    refine TOps.move rfl rfl ?_
    refine TOps.call (vs := [_, _]) Try.call40 ⟨rfl, rfl, trivial⟩ (rvalue_g (hF0.le (Le.drop (Le.refl _))) hk hg (k : Int)) rfl ?_
    rintro _ _ ⟨rfl, rfl⟩
    refine TOps.buildSlice (vs := [_]) (xs := [_]) Try.underlying27 ti4 ⟨rfl, rfl, trivial⟩ rfl rfl rfl rfl rfl rfl (by decide) rfl (fun b15 => ?_)
    refine TOps.appendLit rfl rfl Try.underlying27 ti4 rfl (fun _ _ => Upd.here) rfl (by simp) rfl (by omega) (by omega) (by simp) rfl (fun b16 cap16 => ?_)
    refine TOps.assign rfl rfl ?_
    refine TOps.fin ?_
    refine Nrm.body (some b16, cap16) (fun _ => ⟨_, rfl⟩) ⟨rfl, rfl, rfl, rfl, trivial⟩ (Le.rowEq (by rw [List.range_succ]; simp [bools]))
  obtain ⟨zb, hzb⟩ := hp hpos
  obtain ⟨za, zc⟩ := z
  dsimp only at hzb hS hM ⊢
  subst hzb
  rw [hall] at hM
  refine Nrm.of hS hM ?_
  refine Nrm.next ?_
  refine Tri.seq (Tri.region ?_)
  refine TOps.move rfl rfl ?_
  refine TOps.assign rfl rfl ?_
  refine TOps.next ?_
  refine Tri.ret1 (H' := _) Try.results26 (fun _ _ h => h) (.tmp rfl) (Le.consOf s1) ⟨zb, zc, by rw [htl], rfl⟩
theorem rdiffer_g {H : List Ent} {fv gv : Value} {F G : Fm} (hF : RF H fv F) (hk : F.ok) (hG : RF H gv G) (hkG : G.ok) (het : F.terr = none) (hgt : G.terr = none) (h3 : F.vars = G.vars) :
    Gives Try.prog 21 [fv, gv] H (fun u H' => ∃ z, DifAt F G z ∧ u = .int .i64 z ∧ H = H') := by
  have hF0 := hF; have hG0 := hG
  obtain ⟨na, off, cap, nsp, rfl, hN⟩ := hF
  obtain ⟨ga, goff, gcap, gsp, rfl, hNG⟩ := hG
  obtain ⟨hg, h12⟩ := Fm.terr_none het
  obtain ⟨hgG, h12G⟩ := Fm.terr_none hgt
  have htl := F.table_length
  have hgl := G.table_length
  rw [← h3] at hgl
  have h4096 := pow12 (v := F.vars.toNat) (by omega)
  refine Gives.enter Try.func21 rfl (by exact Try.ntmps21) rfl ?_
  refine Tri.seq (Tri.region ?_)
  refine TOps.boxN rfl ti24 rfl rfl (fun b2 => ?_)
  refine TOps.hide (fun H1 l1 s1 r1 => ?_)
  replace hF0 := hF0.le l1; replace hG0 := hG0.le l1
  refine TOps.boxN rfl ti24 rfl rfl (fun b3 => ?_)
  refine TOps.hide (fun H2 l2 s2 r2 => ?_)
  replace hF0 := hF0.le l2; replace hG0 := hG0.le l2; replace r1 := r1.le l2; have l3 := l2.trans l1
  refine TOps.assign rfl rfl ?_
  refine TOps.next ?_
  refine Tri.seq ?_
  have hll : ∀ (x : Nat × Nat × Nat × Nat) (c : Nat), Le (match c with | 0 => H2 | 1 => row (some x.1) 4 1 x.2.1 (bools F.table) :: H2 | _ + 2 => row (some x.2.2.1) 4 1 x.2.2.2 (bools G.table) :: row (some x.1) 4 1 x.2.1 (bools F.table) :: H2) H2 := by
    intro x c
    match c with
    | 0 => exact Le.refl _
    | 1 => exact Le.drop (Le.refl _)
    | _ + 2 => exact Le.drop (Le.drop (Le.refl _))
  refine Tri.drawX (X := Nat × Nat × Nat × Nat) rfl [(2, .pointer (some ⟨b2, 0, none⟩)), (3, .pointer (some ⟨b3, 0, none⟩))] [] (fun x => [_, slV (some x.1) 0 F.table.length x.2.1, _, slV (some x.2.2.1) 0 G.table.length x.2.2.2, slV (some x.1) 0 F.table.length x.2.1, slV (some x.2.2.1) 0 G.table.length x.2.2.2]) (fun x c => match c with | 0 => H2 | 1 => row (some x.1) 4 1 x.2.1 (bools F.table) :: H2 | _ + 2 => row (some x.2.2.1) 4 1 x.2.2.2 (bools G.table) :: row (some x.1) 4 1 x.2.1 (bools F.table) :: H2) [1, 3] (0, 0, 0, 0) [4, 5] rfl rfl ⟨rfl, rfl, trivial⟩ trivial (by repeat (first | exact Le.refl _ | assumption | apply Le.drop)) (by
    refine ⟨?_, ?_, ?_, ?_, ?_, ?_, trivial⟩
    · refine ⟨fun x S c he hw hd hc hcu hm _ => ?_, trivial⟩
      refine TOps.loadN (he _ _ rfl) ti24 (Rd.le (by first | exact Rd.all (by repeat (first | exact List.Mem.head _ | apply List.Mem.tail)) | (repeat (first | assumption | apply Rd.up))) (hll x c)) rfl rfl ?_
      exact TOps.fin (Nrm.draw x (fun _ _ _ => rfl) rfl (by first | exact Le.refl _ | assumption | exact (by repeat (first | exact Le.refl _ | assumption | apply Le.drop))))
    · refine ⟨fun x S c he hw hd hc hcu hm _ => ?_, trivial⟩
      obtain ⟨h0, -⟩ := hd
      obtain rfl : c = 0 := hm rfl
      refine TOps.call (vs := [_]) Try.call26 ⟨h0, trivial⟩ (rtable_g hF0 hk hg h12) rfl ?_
      rintro _ _ ⟨b, cp, rfl, rfl⟩
      refine TOps.fin (Nrm.draw (b, cp, x.2.2) ?_ rfl (Le.refl _))
      intro j hj hcj; rcases j with _|_|_|_|_|_|j <;> first | rfl | exact absurd rfl hj | exact absurd hcj (by decide)
    · refine ⟨fun x S c he hw hd hc hcu hm _ => ?_, trivial⟩
      refine TOps.loadN (he _ _ rfl) ti24 (Rd.le (by first | exact Rd.all (by repeat (first | exact List.Mem.head _ | apply List.Mem.tail)) | (repeat (first | assumption | apply Rd.up))) (hll x c)) rfl rfl ?_
      exact TOps.fin (Nrm.draw x (fun _ _ _ => rfl) rfl (by first | exact Le.refl _ | assumption | exact (by repeat (first | exact Le.refl _ | assumption | apply Le.drop))))
    · refine ⟨fun x S c he hw hd hc hcu hm _ => ?_, trivial⟩
      obtain ⟨h2, h1, -⟩ := hd
      obtain rfl : c = 1 := hm rfl
      refine TOps.call (vs := [_]) Try.call26 ⟨h2, trivial⟩ (rtable_g (hG0.le (hll x 1)) hkG hgG h12G) rfl ?_
      rintro _ _ ⟨b, cp, rfl, rfl⟩
      refine TOps.fin (Nrm.draw (x.1, x.2.1, b, cp) ?_ rfl (Le.refl _))
      intro j hj hcj; rcases j with _|_|_|_|_|_|j <;> first | rfl | exact absurd rfl hj | exact absurd hcj (by decide)
    · refine ⟨fun x S c he hw hd hc hcu hm _ => ?_, trivial⟩
      obtain ⟨h1, h3, h0, _, -⟩ := hd
      refine TOps.assign h1 rfl ?_
      exact TOps.fin (Nrm.draw x (fun _ _ _ => rfl) rfl (by first | exact Le.refl _ | assumption | exact (by repeat (first | exact Le.refl _ | assumption | apply Le.drop))))
    · refine ⟨fun x S c he hw hd hc hcu hm _ => ?_, trivial⟩
      obtain ⟨h3, h4, h0, h1, h2, _, _, -⟩ := hd
      refine TOps.assign h3 rfl ?_
      exact TOps.fin (Nrm.draw x (fun _ _ _ => rfl) rfl (by first | exact Le.refl _ | assumption | exact (by repeat (first | exact Le.refl _ | assumption | apply Le.drop))))
    ) (fun w => ?_)
  obtain ⟨wb, wc, ub, uc⟩ := w
  refine Nrm.le (H' := row (some ub) 4 1 uc (bools G.table) :: row (some wb) 4 1 wc (bools F.table) :: H2) (Le.refl _) ?_
  have hlr : RdS (row (some ub) 4 1 uc (bools G.table) :: row (some wb) 4 1 wc (bools F.table) :: H2) (some wb) 0 (bools F.table) := RdS.ofRowS (by repeat (first | exact List.Mem.head _ | apply List.Mem.tail))
  have hmr : RdS (row (some ub) 4 1 uc (bools G.table) :: row (some wb) 4 1 wc (bools F.table) :: H2) (some ub) 0 (bools G.table) := RdS.ofRowS (by repeat (first | exact List.Mem.head _ | apply List.Mem.tail))
  have l5 : Le (row (some ub) 4 1 uc (bools G.table) :: row (some wb) 4 1 wc (bools F.table) :: H2) H := Le.drop (Le.drop l3)
  generalize row (some ub) 4 1 uc (bools G.table) :: row (some wb) 4 1 wc (bools F.table) :: H2 = H4 at *
  refine Nrm.next ?_
  refine Tri.seq ?_
  refine Tri.seq (Tri.region ?_)
  refine TOps.move rfl rfl ?_
  refine TOps.len rfl Try.underlying27 rfl ?_
  refine TOps.move rfl rfl ?_
  refine TOps.next ?_
  refine Tri.range (X := Unit) (fun x k => [(5, slV (some wb) 0 F.table.length wc), (6, slV (some ub) 0 G.table.length uc), (12, slV (some wb) 0 F.table.length wc)]) (fun x k => H4) (fun x k => ∀ i, i < k → F.value (i : Nat) = G.value (i : Nat)) (by omega) rfl rfl rfl (fun _ _ => ⟨rfl, rfl, rfl, rfl⟩) () (fun i h => absurd h (Nat.not_lt_zero _)) ⟨rfl, rfl, rfl, trivial⟩ (by repeat (first | exact Le.refl _ | assumption | apply Le.drop)) (fun k x hlt hp => ?_) (fun x ac wc hp hS hM => ?_)
  · skip
    obtain ⟨lb, hlb, -, hl⟩ := RdS.at hlr (i := k) (by simpa using hlt)
    cases hlb
    obtain ⟨mb, hmb, -, hgm⟩ := RdS.at hmr (i := k) (by simp; omega)
    cases hmb
    rw [List.getElem_map, F.table_get hlt, Nat.zero_add] at hl
    rw [List.getElem_map, G.table_get (by omega), Nat.zero_add] at hgm
    refine Tri.seq (Tri.region ?_)
    refine TOps.move rfl rfl ?_
    refine TOps.assign rfl rfl ?_
    refine TOps.next ?_
    refine Tri.seq ?_
    refine Tri.drawC rfl [(5, slV (some wb) 0 F.table.length wc), (6, slV (some ub) 0 G.table.length uc), (7, .int .i64 k), (12, slV (some wb) 0 F.table.length wc), (13, .int .i64 F.table.length), (14, .int .i64 k)] [] [_, _, _, _, _, _, _, _, _] (H4) [8] rfl ⟨rfl, rfl, rfl, rfl, rfl, rfl, trivial⟩ trivial (by repeat (first | exact Le.refl _ | assumption | apply Le.drop)) (by
      refine ⟨?_, ?_, ?_, ?_, ?_, ?_, ?_, ?_, ?_, trivial⟩
      · refine ⟨fun x S c he hw hd hc hcu hm _ => ?_, trivial⟩
        refine TOps.move (he _ _ rfl) rfl ?_
        exact TOps.fin (Nrm.draw x (fun _ _ _ => rfl) rfl (by first | exact Le.refl _ | assumption | exact (by repeat (first | exact Le.refl _ | assumption | apply Le.drop))))
      · refine ⟨fun x S c he hw hd hc hcu hm _ => ?_, trivial⟩
        refine TOps.move (he _ _ rfl) rfl ?_
        exact TOps.fin (Nrm.draw x (fun _ _ _ => rfl) rfl (by first | exact Le.refl _ | assumption | exact (by repeat (first | exact Le.refl _ | assumption | apply Le.drop))))
      · refine ⟨fun x S c he hw hd hc hcu hm _ => ?_, trivial⟩
        obtain ⟨h0, h1, -⟩ := hd
        refine TOps.indexAddr (off' := k) h0 h1 Try.underlying27 ti4 (by omega) (by omega) (by simp) rfl ?_
        exact TOps.fin (Nrm.draw x (fun _ _ _ => rfl) rfl (by first | exact Le.refl _ | assumption | exact (by repeat (first | exact Le.refl _ | assumption | apply Le.drop))))
      · refine ⟨fun x S c he hw hd hc hcu hm _ => ?_, trivial⟩
        obtain ⟨h2, -⟩ := hd
        refine TOps.load1 h2 ti4 hl rfl ?_
        exact TOps.fin (Nrm.draw x (fun _ _ _ => rfl) rfl (by first | exact Le.refl _ | assumption | exact (by repeat (first | exact Le.refl _ | assumption | apply Le.drop))))
      · refine ⟨fun x S c he hw hd hc hcu hm _ => ?_, trivial⟩
        refine TOps.move (he _ _ rfl) rfl ?_
        exact TOps.fin (Nrm.draw x (fun _ _ _ => rfl) rfl (by first | exact Le.refl _ | assumption | exact (by repeat (first | exact Le.refl _ | assumption | apply Le.drop))))
      · refine ⟨fun x S c he hw hd hc hcu hm _ => ?_, trivial⟩
        refine TOps.move (he _ _ rfl) rfl ?_
        exact TOps.fin (Nrm.draw x (fun _ _ _ => rfl) rfl (by first | exact Le.refl _ | assumption | exact (by repeat (first | exact Le.refl _ | assumption | apply Le.drop))))
      · refine ⟨fun x S c he hw hd hc hcu hm _ => ?_, trivial⟩
        obtain ⟨h4, h5, -⟩ := hd
        refine TOps.indexAddr (off' := k) h4 h5 Try.underlying27 ti4 (by omega) (by omega) (by simp) rfl ?_
        exact TOps.fin (Nrm.draw x (fun _ _ _ => rfl) rfl (by first | exact Le.refl _ | assumption | exact (by repeat (first | exact Le.refl _ | assumption | apply Le.drop))))
      · refine ⟨fun x S c he hw hd hc hcu hm _ => ?_, trivial⟩
        obtain ⟨h6, -⟩ := hd
        refine TOps.load1 h6 ti4 hgm rfl ?_
        exact TOps.fin (Nrm.draw x (fun _ _ _ => rfl) rfl (by first | exact Le.refl _ | assumption | exact (by repeat (first | exact Le.refl _ | assumption | apply Le.drop))))
      · refine ⟨fun x S c he hw hd hc hcu hm _ => ?_, trivial⟩
        obtain ⟨h3, h7, -⟩ := hd
        refine TOps.neqB h3 h7 Try.underlying4 rfl ?_
        exact TOps.fin (Nrm.draw x (fun _ _ _ => rfl) rfl (by first | exact Le.refl _ | assumption | exact (by repeat (first | exact Le.refl _ | assumption | apply Le.drop))))
      ) ?_
    refine Nrm.next ?_
    refine Tri.cond rfl (fun hc1 => ?_) (fun hc1 => ?_)
    · try simp only [decide_eq_true_eq, decide_eq_false_iff_not, Bool.and_eq_true, Bool.or_eq_true, Bool.not_eq_true', Bool.and_eq_false_iff, Bool.or_eq_false_iff, Bool.not_eq_false', Int.not_lt, Int.not_le, ne_eq, Decidable.not_not, Option.isSome_iff_ne_none, Option.isNone_iff_eq_none] at hc1
      refine Tri.seq (Tri.region ?_)
      refine TOps.move rfl rfl ?_
      refine TOps.assign rfl rfl ?_
      refine TOps.next ?_
      refine Tri.ret1 (H' := H) Try.results21 (fun _ _ h => h) (.tmp rfl) l5 ⟨k, .inr ⟨k, rfl, by omega, by simpa using hc1, hp⟩, rfl, rfl⟩
    try simp only [decide_eq_true_eq, decide_eq_false_iff_not, Bool.and_eq_true, Bool.or_eq_true, Bool.not_eq_true', Bool.and_eq_false_iff, Bool.or_eq_false_iff, Bool.not_eq_false', Int.not_lt, Int.not_le, ne_eq, Decidable.not_not, Option.isSome_iff_ne_none, Option.isNone_iff_eq_none] at hc1
    refine Tri.fin ?_
    refine Nrm.body () (by intro i hi; rcases Nat.lt_succ_iff_lt_or_eq.1 hi with h | rfl; exact hp i h; simpa using hc1) ⟨rfl, rfl, rfl, rfl, rfl, trivial⟩ (by repeat (first | exact Le.refl _ | assumption | apply Le.drop))
  refine Nrm.of hS hM ?_
  refine Nrm.next ?_
  refine Tri.seq (Tri.region ?_)
  refine TOps.assign rfl rfl ?_
  refine TOps.next ?_
  refine Tri.ret1 (H' := H) Try.results21 (fun _ _ h => h) (.tmp rfl) l5 ⟨-1, .inl ⟨rfl, fun s hs => hp s (by omega)⟩, rfl, rfl⟩
theorem truthEqual_g {H : List Ent} {fv gv : Value} {F G : Fm} (hF : RF H fv F) (hk : F.ok) (hG : RF H gv G) (hkG : G.ok) :
    Gives Try.prog 5 [fv, gv] H (R1 (.bool true) H) := by
  have hF0 := hF; have hG0 := hG
  obtain ⟨na, off, cap, nsp, rfl, hN⟩ := hF
  obtain ⟨ga, goff, gcap, gsp, rfl, hNG⟩ := hG
  refine Gives.enter Try.func5 rfl (by exact Try.ntmps5) rfl ?_
  refine Tri.seq (Tri.region ?_)
  refine TOps.boxN rfl ti24 rfl rfl (fun b2 => ?_)
  refine TOps.hide (fun H1 l1 s1 r1 => ?_)
  replace hF0 := hF0.le l1; replace hG0 := hG0.le l1
  refine TOps.boxN rfl ti24 rfl rfl (fun b3 => ?_)
  refine TOps.hide (fun H2 l2 s2 r2 => ?_)
  replace hF0 := hF0.le l2; replace hG0 := hG0.le l2; replace r1 := r1.le l2; have l3 := l2.trans l1
  refine TOps.assign rfl rfl ?_
  refine TOps.next ?_
  refine Tri.seq ?_
  refine Tri.seq (Tri.region ?_)
  refine TOps.call (vs := []) Try.call9 trivial (awake10_g) rfl ?_
  rintro _ _ ⟨rfl, rfl⟩
  refine TOps.not rfl rfl ?_
  refine TOps.move rfl rfl ?_
  refine' TOps.orB 3 rfl rfl rfl rfl (fun hg1_2 => ?_) ?_; rotate_left
  · have hg1_2' := hg1_2
    try simp only [decide_eq_true_eq, decide_eq_false_iff_not, Bool.and_eq_true, Bool.or_eq_true, Bool.not_eq_true', Bool.and_eq_false_iff, Bool.or_eq_false_iff, Bool.not_eq_false', Int.not_lt, Int.not_le, ne_eq, Decidable.not_not] at hg1_2'
    refine TOps.strip 2 false rfl rfl hg1_2 rfl ?_
    refine TOps.loadN rfl ti24 (by first | exact Rd.all (by repeat (first | exact List.Mem.head _ | apply List.Mem.tail)) | (repeat (first | assumption | apply Rd.up))) rfl rfl ?_
    refine TOps.call (vs := [_]) Try.call10 ⟨rfl, trivial⟩ (light_g hF0 hk) rfl ?_
    rintro _ _ ⟨rfl, rfl⟩
    refine TOps.not rfl rfl ?_
    refine TOps.blk rfl (by repeat (first | exact Ext.refl _ | refine Ext.cons rfl ?_)) (by repeat (first | exact Le.refl _ | apply Le.drop))
  refine TOps.move rfl rfl ?_
  refine' TOps.orB 3 rfl rfl rfl rfl (fun hg1_7 => ?_) ?_; rotate_left
  · have hg1_7' := hg1_7
    try simp only [decide_eq_true_eq, decide_eq_false_iff_not, Bool.and_eq_true, Bool.or_eq_true, Bool.not_eq_true', Bool.and_eq_false_iff, Bool.or_eq_false_iff, Bool.not_eq_false', Int.not_lt, Int.not_le, ne_eq, Decidable.not_not] at hg1_7'
    refine TOps.strip 7 false rfl rfl hg1_7 rfl ?_
    refine TOps.loadN rfl ti24 (by first | exact Rd.all (by repeat (first | exact List.Mem.head _ | apply List.Mem.tail)) | (repeat (first | assumption | apply Rd.up))) rfl rfl ?_
    refine TOps.call (vs := [_]) Try.call10 ⟨rfl, trivial⟩ (light_g hG0 hkG) rfl ?_
    rintro _ _ ⟨rfl, rfl⟩
    refine TOps.not rfl rfl ?_
    refine TOps.blk rfl (by repeat (first | exact Ext.refl _ | refine Ext.cons rfl ?_)) (by repeat (first | exact Le.refl _ | apply Le.drop))
  refine TOps.next ?_
  refine Tri.cond rfl (fun hc1 => ?_) (fun hc1 => ?_)
  · try simp only [decide_eq_true_eq, decide_eq_false_iff_not, Bool.and_eq_true, Bool.or_eq_true, Bool.not_eq_true', Bool.and_eq_false_iff, Bool.or_eq_false_iff, Bool.not_eq_false', Int.not_lt, Int.not_le, ne_eq, Decidable.not_not, Option.isSome_iff_ne_none, Option.isNone_iff_eq_none] at hc1
    refine Tri.seq (Tri.region ?_)
    refine TOps.call (vs := []) Try.call9 trivial (awake10_g) rfl ?_
    rintro _ _ ⟨rfl, rfl⟩
    refine TOps.assign rfl rfl ?_
    refine TOps.next ?_
    refine Tri.ret1 (H' := H) Try.results5 (fun _ _ h => h) (.tmp rfl) l3 ⟨rfl, rfl⟩
  try simp only [decide_eq_true_eq, decide_eq_false_iff_not, Bool.and_eq_true, Bool.or_eq_true, Bool.not_eq_true', Bool.and_eq_false_iff, Bool.or_eq_false_iff, Bool.not_eq_false', Int.not_lt, Int.not_le, ne_eq, Decidable.not_not, Option.isSome_iff_ne_none, Option.isNone_iff_eq_none] at hc1
  refine Tri.fin ?_
  refine Nrm.next ?_
  refine Tri.seq (Tri.region ?_)
  refine TOps.loadN rfl ti24 (by first | exact Rd.all (by repeat (first | exact List.Mem.head _ | apply List.Mem.tail)) | (repeat (first | assumption | apply Rd.up))) rfl rfl ?_
  refine TOps.loadN rfl ti24 (by first | exact Rd.all (by repeat (first | exact List.Mem.head _ | apply List.Mem.tail)) | (repeat (first | assumption | apply Rd.up))) rfl rfl ?_
  refine TOps.call (vs := [_, _]) Try.call17 ⟨rfl, rfl, trivial⟩ (equal_g hF0 hk hG0 hkG) rfl ?_
  rintro _ _ ⟨z, hz, rfl, rfl⟩
  refine TOps.move rfl rfl ?_
  refine TOps.extract rfl rfl rfl ?_
  refine TOps.extract rfl rfl rfl ?_
  refine TOps.extract rfl rfl rfl ?_
  refine TOps.assign rfl rfl ?_
  refine TOps.assign rfl rfl ?_
  refine TOps.assign rfl rfl ?_
  refine TOps.next ?_
  refine Tri.seq ?_
  refine Tri.drawC rfl [(2, .pointer (some ⟨b2, 0, none⟩)), (3, .pointer (some ⟨b3, 0, none⟩)), (5, .bool ((F.eqErr G).isNone && decide (z < 0))), (6, .int .i64 (bif (F.eqErr G).isNone then z else 0)), (7, errV 48 (F.eqErr G))] [] [_, _, _, _, _, _] (H2) [4, 5] rfl ⟨rfl, rfl, rfl, rfl, rfl, trivial⟩ trivial (by repeat (first | exact Le.refl _ | assumption | apply Le.drop)) (by
    refine ⟨?_, ?_, ?_, ?_, ?_, ?_, trivial⟩
    · refine ⟨fun x S c he hw hd hc hcu hm _ => ?_, trivial⟩
      refine TOps.loadN (he _ _ rfl) ti24 (by first | exact Rd.all (by repeat (first | exact List.Mem.head _ | apply List.Mem.tail)) | (repeat (first | assumption | apply Rd.up))) rfl rfl ?_
      exact TOps.fin (Nrm.draw x (fun _ _ _ => rfl) rfl (by first | exact Le.refl _ | assumption | exact (by repeat (first | exact Le.refl _ | assumption | apply Le.drop))))
    · refine ⟨fun x S c he hw hd hc hcu hm _ => ?_, trivial⟩
      obtain ⟨h0, -⟩ := hd
      refine TOps.call (vs := [_]) Try.call18 ⟨h0, trivial⟩ (check_g hF0 hk) rfl ?_
      rintro _ _ ⟨rfl, rfl⟩
      exact TOps.fin (Nrm.draw x (fun _ _ _ => rfl) rfl (by first | exact Le.refl _ | assumption | exact (by repeat (first | exact Le.refl _ | assumption | apply Le.drop))))
    · refine ⟨fun x S c he hw hd hc hcu hm _ => ?_, trivial⟩
      refine TOps.loadN (he _ _ rfl) ti24 (by first | exact Rd.all (by repeat (first | exact List.Mem.head _ | apply List.Mem.tail)) | (repeat (first | assumption | apply Rd.up))) rfl rfl ?_
      exact TOps.fin (Nrm.draw x (fun _ _ _ => rfl) rfl (by first | exact Le.refl _ | assumption | exact (by repeat (first | exact Le.refl _ | assumption | apply Le.drop))))
    · refine ⟨fun x S c he hw hd hc hcu hm _ => ?_, trivial⟩
      obtain ⟨h2, h1, -⟩ := hd
      refine TOps.call (vs := [_]) Try.call18 ⟨h2, trivial⟩ (check_g hG0 hkG) rfl ?_
      rintro _ _ ⟨rfl, rfl⟩
      exact TOps.fin (Nrm.draw x (fun _ _ _ => rfl) rfl (by first | exact Le.refl _ | assumption | exact (by repeat (first | exact Le.refl _ | assumption | apply Le.drop))))
    · refine ⟨fun x S c he hw hd hc hcu hm _ => ?_, trivial⟩
      obtain ⟨h1, h3, h0, _, -⟩ := hd
      refine TOps.assign h1 rfl ?_
      exact TOps.fin (Nrm.draw x (fun _ _ _ => rfl) rfl (by first | exact Le.refl _ | assumption | exact (by repeat (first | exact Le.refl _ | assumption | apply Le.drop))))
    · refine ⟨fun x S c he hw hd hc hcu hm _ => ?_, trivial⟩
      obtain ⟨h3, h4, h0, h1, h2, _, _, -⟩ := hd
      refine TOps.assign h3 rfl ?_
      exact TOps.fin (Nrm.draw x (fun _ _ _ => rfl) rfl (by first | exact Le.refl _ | assumption | exact (by repeat (first | exact Le.refl _ | assumption | apply Le.drop))))
    ) ?_
  refine Nrm.next ?_
  refine Tri.seq ?_
  refine Tri.seq (Tri.region ?_)
  refine TOps.move rfl rfl ?_
  refine TOps.neqNil rfl Try.underlying29 rfl ?_
  refine TOps.move rfl rfl ?_
  refine' TOps.orB 2 rfl rfl rfl rfl (fun hg5_2 => ?_) ?_; rotate_left
  · have hg5_2' := hg5_2
    try simp only [decide_eq_true_eq, decide_eq_false_iff_not, Bool.and_eq_true, Bool.or_eq_true, Bool.not_eq_true', Bool.and_eq_false_iff, Bool.or_eq_false_iff, Bool.not_eq_false', Int.not_lt, Int.not_le, ne_eq, Decidable.not_not] at hg5_2'
    refine TOps.strip 2 false rfl rfl hg5_2 rfl ?_
    refine TOps.move rfl rfl ?_
    refine TOps.neqNil rfl Try.underlying29 rfl ?_
    refine TOps.blk rfl (by repeat (first | exact Ext.refl _ | refine Ext.cons rfl ?_)) (by repeat (first | exact Le.refl _ | apply Le.drop))
  refine TOps.next ?_
  refine Tri.cond rfl (fun hc2 => ?_) (fun hc2 => ?_)
  · try simp only [decide_eq_true_eq, decide_eq_false_iff_not, Bool.and_eq_true, Bool.or_eq_true, Bool.not_eq_true', Bool.and_eq_false_iff, Bool.or_eq_false_iff, Bool.not_eq_false', Int.not_lt, Int.not_le, ne_eq, Decidable.not_not, Option.isSome_iff_ne_none, Option.isNone_iff_eq_none] at hc2
    refine Tri.seq (Tri.region ?_)
    refine TOps.move rfl rfl ?_
    refine TOps.assign rfl rfl ?_
    refine TOps.next ?_
    refine Tri.seq ?_
    refine Tri.seq (Tri.region ?_)
    refine TOps.move rfl rfl ?_
    refine TOps.eqlNil rfl Try.underlying29 rfl ?_
    refine TOps.next ?_
    refine Tri.cond rfl (fun hc3 => ?_) (fun hc3 => ?_)
    · try simp only [decide_eq_true_eq, decide_eq_false_iff_not, Bool.and_eq_true, Bool.or_eq_true, Bool.not_eq_true', Bool.and_eq_false_iff, Bool.or_eq_false_iff, Bool.not_eq_false', Int.not_lt, Int.not_le, ne_eq, Decidable.not_not, Option.isSome_iff_ne_none, Option.isNone_iff_eq_none] at hc3
      obtain ⟨e, hge, hes⟩ : ∃ e, G.err = some e ∧ F.eqErr G = some e := by
        have he : F.err = none := by simpa using hc3
        cases h : G.err with
        | none => rw [he, h] at hc2; simp at hc2
        | some e => exact ⟨e, rfl, Fm.eqErr_2 he h⟩
      rw [hes, hge]
      refine Tri.region ?_
      refine TOps.move rfl rfl ?_
      refine TOps.assign rfl rfl ?_
      refine TOps.fin ?_
      refine Nrm.next ?_
      refine Tri.seq (Tri.region ?_)
      refine TOps.move rfl rfl ?_
      refine TOps.not rfl rfl ?_
      refine TOps.move rfl rfl ?_
      refine' TOps.andB 2 rfl rfl rfl rfl (fun hg9_2 => ?_) ?_; rotate_left
      · have hg9_2' := hg9_2
        try simp only [decide_eq_true_eq, decide_eq_false_iff_not, Bool.and_eq_true, Bool.or_eq_true, Bool.not_eq_true', Bool.and_eq_false_iff, Bool.or_eq_false_iff, Bool.not_eq_false', Int.not_lt, Int.not_le, ne_eq, Decidable.not_not] at hg9_2'
        refine TOps.strip 2 true rfl rfl hg9_2 rfl ?_
        refine TOps.move rfl rfl ?_
        refine TOps.eqlIr (r := true) rfl rfl rfl rfl ?_
        refine TOps.blk rfl (by repeat (first | exact Ext.refl _ | refine Ext.cons rfl ?_)) (by repeat (first | exact Le.refl _ | apply Le.drop))
      refine TOps.move rfl rfl ?_
      refine' TOps.andB 5 rfl rfl rfl rfl (fun hg9_6 => ?_) ?_; rotate_left
      · have hg9_6' := hg9_6
        try simp only [decide_eq_true_eq, decide_eq_false_iff_not, Bool.and_eq_true, Bool.or_eq_true, Bool.not_eq_true', Bool.and_eq_false_iff, Bool.or_eq_false_iff, Bool.not_eq_false', Int.not_lt, Int.not_le, ne_eq, Decidable.not_not] at hg9_6'
        refine TOps.strip 6 true rfl rfl hg9_6 rfl ?_
        refine TOps.move rfl rfl ?_
        refine TOps.call (vs := [_]) Try.call16 ⟨rfl, trivial⟩ (num_g (some e)) rfl ?_
        rintro _ _ ⟨rfl, rfl⟩
        refine TOps.move rfl rfl ?_
        refine TOps.call (vs := [_]) Try.call16 ⟨rfl, trivial⟩ (num_g (some e)) rfl ?_
        rintro _ _ ⟨rfl, rfl⟩
        refine TOps.eqlIr (r := true) rfl rfl (by simp) rfl ?_
        refine TOps.blk rfl (by repeat (first | exact Ext.refl _ | refine Ext.cons rfl ?_)) (by repeat (first | exact Le.refl _ | apply Le.drop))
      refine TOps.assign rfl rfl ?_
      refine TOps.next ?_
      refine Tri.ret1 (H' := H) Try.results5 (fun _ _ h => h) (.tmp rfl) l3 ⟨rfl, rfl⟩
    try simp only [decide_eq_true_eq, decide_eq_false_iff_not, Bool.and_eq_true, Bool.or_eq_true, Bool.not_eq_true', Bool.and_eq_false_iff, Bool.or_eq_false_iff, Bool.not_eq_false', Int.not_lt, Int.not_le, ne_eq, Decidable.not_not, Option.isSome_iff_ne_none, Option.isNone_iff_eq_none] at hc3
    obtain ⟨e, hge, hes⟩ : ∃ e, F.err = some e ∧ F.eqErr G = some e := by
      cases h : F.err with
      | none => rw [h] at hc3; simp at hc3
      | some e => exact ⟨e, rfl, Fm.eqErr_1 h⟩
    rw [hes, hge]
    refine Tri.fin ?_
    refine Nrm.next ?_
    refine Tri.seq (Tri.region ?_)
    refine TOps.move rfl rfl ?_
    refine TOps.not rfl rfl ?_
    refine TOps.move rfl rfl ?_
    refine' TOps.andB 2 rfl rfl rfl rfl (fun hg9_2 => ?_) ?_; rotate_left
    · have hg9_2' := hg9_2
      try simp only [decide_eq_true_eq, decide_eq_false_iff_not, Bool.and_eq_true, Bool.or_eq_true, Bool.not_eq_true', Bool.and_eq_false_iff, Bool.or_eq_false_iff, Bool.not_eq_false', Int.not_lt, Int.not_le, ne_eq, Decidable.not_not] at hg9_2'
      refine TOps.strip 2 true rfl rfl hg9_2 rfl ?_
      refine TOps.move rfl rfl ?_
      refine TOps.eqlIr (r := true) rfl rfl rfl rfl ?_
      refine TOps.blk rfl (by repeat (first | exact Ext.refl _ | refine Ext.cons rfl ?_)) (by repeat (first | exact Le.refl _ | apply Le.drop))
    refine TOps.move rfl rfl ?_
    refine' TOps.andB 5 rfl rfl rfl rfl (fun hg9_6 => ?_) ?_; rotate_left
    · have hg9_6' := hg9_6
      try simp only [decide_eq_true_eq, decide_eq_false_iff_not, Bool.and_eq_true, Bool.or_eq_true, Bool.not_eq_true', Bool.and_eq_false_iff, Bool.or_eq_false_iff, Bool.not_eq_false', Int.not_lt, Int.not_le, ne_eq, Decidable.not_not] at hg9_6'
      refine TOps.strip 6 true rfl rfl hg9_6 rfl ?_
      refine TOps.move rfl rfl ?_
      refine TOps.call (vs := [_]) Try.call16 ⟨rfl, trivial⟩ (num_g (some e)) rfl ?_
      rintro _ _ ⟨rfl, rfl⟩
      refine TOps.move rfl rfl ?_
      refine TOps.call (vs := [_]) Try.call16 ⟨rfl, trivial⟩ (num_g (some e)) rfl ?_
      rintro _ _ ⟨rfl, rfl⟩
      refine TOps.eqlIr (r := true) rfl rfl (by simp) rfl ?_
      refine TOps.blk rfl (by repeat (first | exact Ext.refl _ | refine Ext.cons rfl ?_)) (by repeat (first | exact Le.refl _ | apply Le.drop))
    refine TOps.assign rfl rfl ?_
    refine TOps.next ?_
    refine Tri.ret1 (H' := H) Try.results5 (fun _ _ h => h) (.tmp rfl) l3 ⟨rfl, rfl⟩
  try simp only [decide_eq_true_eq, decide_eq_false_iff_not, Bool.and_eq_true, Bool.or_eq_true, Bool.not_eq_true', Bool.and_eq_false_iff, Bool.or_eq_false_iff, Bool.not_eq_false', Int.not_lt, Int.not_le, ne_eq, Decidable.not_not, Option.isSome_iff_ne_none, Option.isNone_iff_eq_none] at hc2
  have he : F.err = none := by simpa using hc2.1
  have hge : G.err = none := by simpa using hc2.2
  refine Tri.fin ?_
  refine Nrm.next ?_
  refine Tri.seq ?_
  refine Tri.seq (Tri.region ?_)
  refine TOps.field0 rfl Try.underlying24 rfl rfl ti3 rfl rfl rfl ?_
  refine TOps.load1 rfl ti3 (by first | exact Rd.lit (by repeat (first | exact List.Mem.head _ | apply List.Mem.tail)) rfl | (repeat (first | assumption | exact Rd.fld (by assumption) 0 rfl | apply Rd.up))) rfl ?_
  refine TOps.field0 rfl Try.underlying24 rfl rfl ti3 rfl rfl rfl ?_
  refine TOps.load1 rfl ti3 (by first | exact Rd.lit (by repeat (first | exact List.Mem.head _ | apply List.Mem.tail)) rfl | (repeat (first | assumption | exact Rd.fld (by assumption) 0 rfl | apply Rd.up))) rfl ?_
  refine TOps.neqI rfl rfl rfl ?_
  refine TOps.next ?_
  refine Tri.cond rfl (fun hc4 => ?_) (fun hc4 => ?_)
  · try simp only [decide_eq_true_eq, decide_eq_false_iff_not, Bool.and_eq_true, Bool.or_eq_true, Bool.not_eq_true', Bool.and_eq_false_iff, Bool.or_eq_false_iff, Bool.not_eq_false', Int.not_lt, Int.not_le, ne_eq, Decidable.not_not, Option.isSome_iff_ne_none, Option.isNone_iff_eq_none] at hc4
    have hes : F.eqErr G = some 11 := Fm.eqErr_3 he hge hc4
    rw [hes]
    refine Tri.seq (Tri.region ?_)
    refine TOps.move rfl rfl ?_
    refine TOps.not rfl rfl ?_
    refine TOps.move rfl rfl ?_
    refine' TOps.andB 2 rfl rfl rfl rfl (fun hg11_2 => ?_) ?_; rotate_left
    · have hg11_2' := hg11_2
      try simp only [decide_eq_true_eq, decide_eq_false_iff_not, Bool.and_eq_true, Bool.or_eq_true, Bool.not_eq_true', Bool.and_eq_false_iff, Bool.or_eq_false_iff, Bool.not_eq_false', Int.not_lt, Int.not_le, ne_eq, Decidable.not_not] at hg11_2'
      refine TOps.strip 2 true rfl rfl hg11_2 rfl ?_
      refine TOps.move rfl rfl ?_
      refine TOps.eqlIr (r := true) rfl rfl rfl rfl ?_
      refine TOps.blk rfl (by repeat (first | exact Ext.refl _ | refine Ext.cons rfl ?_)) (by repeat (first | exact Le.refl _ | apply Le.drop))
    refine TOps.move rfl rfl ?_
    refine' TOps.andB 2 rfl rfl rfl rfl (fun hg11_6 => ?_) ?_; rotate_left
    · have hg11_6' := hg11_6
      try simp only [decide_eq_true_eq, decide_eq_false_iff_not, Bool.and_eq_true, Bool.or_eq_true, Bool.not_eq_true', Bool.and_eq_false_iff, Bool.or_eq_false_iff, Bool.not_eq_false', Int.not_lt, Int.not_le, ne_eq, Decidable.not_not] at hg11_6'
      refine TOps.strip 6 true rfl rfl hg11_6 rfl ?_
      refine TOps.move rfl rfl ?_
      refine TOps.call (vs := [_, _]) Try.call19 ⟨rfl, rfl, trivial⟩ (is_g (some 11) 11) rfl ?_
      rintro _ _ ⟨rfl, rfl⟩
      refine TOps.blk rfl (by repeat (first | exact Ext.refl _ | refine Ext.cons rfl ?_)) (by repeat (first | exact Le.refl _ | apply Le.drop))
    refine TOps.assign rfl rfl ?_
    refine TOps.next ?_
    refine Tri.ret1 (H' := H) Try.results5 (fun _ _ h => h) (.tmp rfl) l3 ⟨rfl, rfl⟩
  try simp only [decide_eq_true_eq, decide_eq_false_iff_not, Bool.and_eq_true, Bool.or_eq_true, Bool.not_eq_true', Bool.and_eq_false_iff, Bool.or_eq_false_iff, Bool.not_eq_false', Int.not_lt, Int.not_le, ne_eq, Decidable.not_not, Option.isSome_iff_ne_none, Option.isNone_iff_eq_none] at hc4
  have h3 : F.vars = G.vars := hc4
  have heq := Fm.eqErr_4 he hge h3
  refine Tri.fin ?_
  refine Nrm.next ?_
  refine Tri.seq ?_
  refine Tri.seq (Tri.region ?_)
  refine TOps.loadN rfl ti24 (by first | exact Rd.all (by repeat (first | exact List.Mem.head _ | apply List.Mem.tail)) | (repeat (first | assumption | apply Rd.up))) rfl rfl ?_
  refine TOps.call (vs := [_]) Try.call20 ⟨rfl, trivial⟩ (rcheck10_g hF0 hk) rfl ?_
  rintro _ _ ⟨rfl, rfl⟩
  refine TOps.assign rfl rfl ?_
  refine TOps.next ?_
  refine Tri.seq (Tri.region ?_)
  refine TOps.move rfl rfl ?_
  refine TOps.neqI rfl rfl rfl ?_
  refine TOps.next ?_
  refine Tri.cond rfl (fun hc5 => ?_) (fun hc5 => ?_)
  · try simp only [decide_eq_true_eq, decide_eq_false_iff_not, Bool.and_eq_true, Bool.or_eq_true, Bool.not_eq_true', Bool.and_eq_false_iff, Bool.or_eq_false_iff, Bool.not_eq_false', Int.not_lt, Int.not_le, ne_eq, Decidable.not_not, Option.isSome_iff_ne_none, Option.isNone_iff_eq_none] at hc5
    obtain ⟨e, het⟩ : ∃ e, F.terr = some e := by
      cases h : F.terr with
      | none => rw [h] at hc5; exact absurd rfl hc5
      | some e => exact ⟨e, rfl⟩
    rw [heq, het]
    refine Tri.seq (Tri.region ?_)
    refine TOps.move rfl rfl ?_
    refine TOps.not rfl rfl ?_
    refine TOps.move rfl rfl ?_
    refine' TOps.andB 2 rfl rfl rfl rfl (fun hg14_2 => ?_) ?_; rotate_left
    · have hg14_2' := hg14_2
      try simp only [decide_eq_true_eq, decide_eq_false_iff_not, Bool.and_eq_true, Bool.or_eq_true, Bool.not_eq_true', Bool.and_eq_false_iff, Bool.or_eq_false_iff, Bool.not_eq_false', Int.not_lt, Int.not_le, ne_eq, Decidable.not_not] at hg14_2'
      refine TOps.strip 2 true rfl rfl hg14_2 rfl ?_
      refine TOps.move rfl rfl ?_
      refine TOps.eqlIr (r := true) rfl rfl rfl rfl ?_
      refine TOps.blk rfl (by repeat (first | exact Ext.refl _ | refine Ext.cons rfl ?_)) (by repeat (first | exact Le.refl _ | apply Le.drop))
    refine TOps.move rfl rfl ?_
    refine' TOps.andB 4 rfl rfl rfl rfl (fun hg14_6 => ?_) ?_; rotate_left
    · have hg14_6' := hg14_6
      try simp only [decide_eq_true_eq, decide_eq_false_iff_not, Bool.and_eq_true, Bool.or_eq_true, Bool.not_eq_true', Bool.and_eq_false_iff, Bool.or_eq_false_iff, Bool.not_eq_false', Int.not_lt, Int.not_le, ne_eq, Decidable.not_not] at hg14_6'
      refine TOps.strip 6 true rfl rfl hg14_6 rfl ?_
      refine TOps.move rfl rfl ?_
      refine TOps.call (vs := [_]) Try.call16 ⟨rfl, trivial⟩ (num_g (some e)) rfl ?_
      rintro _ _ ⟨rfl, rfl⟩
      refine TOps.move rfl rfl ?_
      refine TOps.eqlIr (r := true) rfl rfl (by simp) rfl ?_
      refine TOps.blk rfl (by repeat (first | exact Ext.refl _ | refine Ext.cons rfl ?_)) (by repeat (first | exact Le.refl _ | apply Le.drop))
    refine TOps.assign rfl rfl ?_
    refine TOps.next ?_
    refine Tri.ret1 (H' := H) Try.results5 (fun _ _ h => h) (.tmp rfl) l3 ⟨rfl, rfl⟩
  try simp only [decide_eq_true_eq, decide_eq_false_iff_not, Bool.and_eq_true, Bool.or_eq_true, Bool.not_eq_true', Bool.and_eq_false_iff, Bool.or_eq_false_iff, Bool.not_eq_false', Int.not_lt, Int.not_le, ne_eq, Decidable.not_not, Option.isSome_iff_ne_none, Option.isNone_iff_eq_none] at hc5
  have het : F.terr = none := Fm.terr_of hc5
  have hgt : G.terr = none := by rw [← Fm.terr_same he hge h3]; exact het
  rw [het] at heq
  rw [heq, show ((none : Option Int).isNone && decide (z < 0)) = decide (z < 0) from rfl, show (bif (none : Option Int).isNone then z else 0) = z from rfl]
  refine Tri.fin ?_
  refine Nrm.next ?_
  refine Tri.seq ?_
  refine Tri.seq (Tri.region ?_)
  refine TOps.loadN rfl ti24 (by first | exact Rd.all (by repeat (first | exact List.Mem.head _ | apply List.Mem.tail)) | (repeat (first | assumption | apply Rd.up))) rfl rfl ?_
  refine TOps.call (vs := [_]) Try.call20 ⟨rfl, trivial⟩ (rcheck10_g hG0 hkG) rfl ?_
  rintro _ _ ⟨rfl, rfl⟩
  rw [hgt]
  refine TOps.neqI rfl rfl rfl ?_
  refine TOps.next ?_
  refine Tri.cond rfl (fun hc6 => ?_) (fun hc6 => ?_)
  · try simp only [decide_eq_true_eq, decide_eq_false_iff_not, Bool.and_eq_true, Bool.or_eq_true, Bool.not_eq_true', Bool.and_eq_false_iff, Bool.or_eq_false_iff, Bool.not_eq_false', Int.not_lt, Int.not_le, ne_eq, Decidable.not_not, Option.isSome_iff_ne_none, Option.isNone_iff_eq_none] at hc6
    have hfalse : False := hc6 rfl
    refine Tri.seq (Tri.region ?_)
    refine TOps.assign rfl rfl ?_
    refine TOps.next ?_
    exact hfalse.elim
  try simp only [decide_eq_true_eq, decide_eq_false_iff_not, Bool.and_eq_true, Bool.or_eq_true, Bool.not_eq_true', Bool.and_eq_false_iff, Bool.or_eq_false_iff, Bool.not_eq_false', Int.not_lt, Int.not_le, ne_eq, Decidable.not_not, Option.isSome_iff_ne_none, Option.isNone_iff_eq_none] at hc6
  refine Tri.fin ?_
  refine Nrm.next ?_
  refine Tri.seq (Tri.region ?_)
  refine TOps.loadN rfl ti24 (by first | exact Rd.all (by repeat (first | exact List.Mem.head _ | apply List.Mem.tail)) | (repeat (first | assumption | apply Rd.up))) rfl rfl ?_
  refine TOps.loadN rfl ti24 (by first | exact Rd.all (by repeat (first | exact List.Mem.head _ | apply List.Mem.tail)) | (repeat (first | assumption | apply Rd.up))) rfl rfl ?_
  refine TOps.call (vs := [_, _]) Try.call21 ⟨rfl, rfl, trivial⟩ (rdiffer_g hF0 hk hG0 hkG het hgt h3) rfl ?_
  rintro _ _ ⟨z2, hz2, rfl, rfl⟩
  obtain rfl : z = z2 := (hz heq).uniq hz2
  refine TOps.assign rfl rfl ?_
  refine TOps.next ?_
  refine Tri.seq (Tri.region ?_)
  refine TOps.move rfl rfl ?_
  refine TOps.eqlNil (T := 48) (o := none) rfl Try.underlying29 rfl ?_
  refine TOps.move rfl rfl ?_
  refine' TOps.andB 3 rfl rfl rfl rfl (fun hg18_2 => ?_) ?_; rotate_left
  · have hg18_2' := hg18_2
    try simp only [decide_eq_true_eq, decide_eq_false_iff_not, Bool.and_eq_true, Bool.or_eq_true, Bool.not_eq_true', Bool.and_eq_false_iff, Bool.or_eq_false_iff, Bool.not_eq_false', Int.not_lt, Int.not_le, ne_eq, Decidable.not_not] at hg18_2'
    refine TOps.strip 2 true rfl rfl hg18_2 rfl ?_
    refine TOps.move rfl rfl ?_
    refine TOps.move rfl rfl ?_
    refine TOps.eqlIr (r := true) rfl rfl (by simp) rfl ?_
    refine TOps.blk rfl (by repeat (first | exact Ext.refl _ | refine Ext.cons rfl ?_)) (by repeat (first | exact Le.refl _ | apply Le.drop))
  refine TOps.move rfl rfl ?_
  refine' TOps.andB 4 rfl rfl rfl rfl (fun hg18_7 => ?_) ?_; rotate_left
  · have hg18_7' := hg18_7
    try simp only [decide_eq_true_eq, decide_eq_false_iff_not, Bool.and_eq_true, Bool.or_eq_true, Bool.not_eq_true', Bool.and_eq_false_iff, Bool.or_eq_false_iff, Bool.not_eq_false', Int.not_lt, Int.not_le, ne_eq, Decidable.not_not] at hg18_7'
    refine TOps.strip 7 true rfl rfl hg18_7 rfl ?_
    refine TOps.move rfl rfl ?_
    refine TOps.move rfl rfl ?_
    refine TOps.lss rfl rfl rfl ?_
    refine TOps.eqlBr (r := true) rfl rfl (by simp) Try.underlying4 rfl ?_
    refine TOps.blk rfl (by repeat (first | exact Ext.refl _ | refine Ext.cons rfl ?_)) (by repeat (first | exact Le.refl _ | apply Le.drop))
  refine TOps.assign rfl rfl ?_
  refine TOps.next ?_
  refine Tri.ret1 (H' := H) Try.results5 (fun _ _ h => h) (.tmp rfl) l3 ⟨rfl, rfl⟩
end Go.Proofs
