import Derived.Test.YtffghipagnjggaaB27
import Derived.Test.YtffghipagnjggaaGL81
namespace Go.Proofs
open Go.GL
set_option linter.unusedVariables false
set_option linter.unusedSimpArgs false
theorem laid27 : laidOutB Try.prog = true := by kernel_rfl
theorem key27 : Key2 Try.prog 74 := Key2.mk' laid27 Try.underlying74 Try.underlying3 (by kernel_rfl) (of_decide_eq_true (by kernel_rfl)) (of_decide_eq_true (by kernel_rfl)) (by kernel_rfl) (by kernel_rfl)
set_option maxHeartbeats 4000000 in
theorem least_g {bb vb mb N cap : Nat} {ab : Nat} {v : Int} {args : List Int} (hv : 0 ≤ v ∧ v ≤ 24) (hN : args.length = N) (hN2 : N ≤ 1000) (hcap : N ≤ cap) (hcap2 : cap ≤ 9223372036854775807) (hsm : ∀ a ∈ args, Small a) :
    ∀ (n : Nat), n ≤ N → 1 ≤ n → ∀ (i : Nat), i + n = N → ∀ (ii : Int), ii = (i : Int) → ∀ (k : Int), 1 ≤ k → k ≤ n → ∀ (HB : List Ent), RInts HB (some ab) 0 args none → ∀ (m : Made) (ms : MS) (s : BS), s.ok ms.ns → ms.Ok → MadeOk m → MadeU m →
    Gives Try.prog 32 [.pointer (some ⟨vb, 0, none⟩), .int .i64 k, .int .i64 ii] (mkE 66 43 bb v ms s (row (some vb) 56 3 1 [.pointer (some ⟨bb, 0, none⟩), slV (some ab) 0 N cap, .map (some mb)] :: madeEnt mb m :: HB)) (LeastR 66 43 bb v mb (row (some vb) 56 3 1 [.pointer (some ⟨bb, 0, none⟩), slV (some ab) 0 N cap, .map (some mb)]) (leastM v args n k m ms) HB) := by
  intro n
  induction n
  case zero => intro _ h; omega
  rename_i n ih
  intro hnN _ i hiN ii hii k hk1 hk2 HB ha m ms s hs ho hmo hmu
  subst hii
  have hi : args.length - (n + 1) = i := by omega
  have hiN' : i < args.length := by omega
  have hI : I64 (i : Int) := by unfold I64; omega
  have hK : I64 k := by unfold I64; omega
  have hz : ∀ w : World, (zeroValue 3).run Try.prog w = .ok (.int .i64 0) w := zeroInt (by kernel_rfl)
  refine Gives.enter Try.func32 rfl (by exact Try.ntmps32) rfl ?_
  refine Tri.seq (Tri.region ?_)
  refine TOps.assign rfl rfl ?_
  refine TOps.next ?_
  refine Tri.seq (Tri.region ?_)
  refine TOps.move rfl rfl ?_
  refine TOps.move rfl rfl ?_
  refine TOps.buildArr (vs := [_, _]) (xs := [_, _]) Try.underlying74 ti74 ti3 ⟨rfl, rfl, rfl, rfl, trivial⟩ rfl rfl rfl rfl ?_
  refine TOps.alloc ti74 rfl (fun b7 => ?_)
  refine TOps.storeN rfl rfl ti74 rfl rfl (by repeat (first | exact Upd.here | apply Upd.there)) (by first | decide | (simp; done) | (simp; omega)) ?_
  refine TOps.le (H' := mkE 66 43 bb v ms s (row (some vb) 56 3 1 [.pointer (some ⟨bb, 0, none⟩), slV (some ab) 0 N cap, .map (some mb)] :: madeEnt mb m :: row (some b7) 74 2 1 (pairV k i).cells.toList :: HB)) (Le.trans mkE_in (mkE_permB ((List.Perm.swap _ _ _).trans (List.Perm.cons _ (List.Perm.swap _ _ _))))) ?_
  obtain ⟨HK, hHK⟩ : ∃ HK, row (some b7) 74 2 1 (pairV k i).cells.toList :: HB = HK := ⟨_, rfl⟩
  rw [hHK]
  have rV : ∀ m, Rd (row (some vb) 56 3 1 [.pointer (some ⟨bb, 0, none⟩), slV (some ab) 0 N cap, .map (some mb)] :: madeEnt mb m :: HK) vb 0 [.pointer (some ⟨bb, 0, none⟩), slV (some ab) 0 N cap, .map (some mb)] := fun m => Rd.all (by repeat (first | exact List.Mem.head _ | apply List.Mem.tail))
  have rK : Rd HK b7 0 [.int .i64 k, .int .i64 i] := by rw [← hHK]; exact Rd.all (by repeat (first | exact List.Mem.head _ | apply List.Mem.tail))
  have rA : RInts HK (some ab) 0 args none := by rw [← hHK]; exact RdS.up ha
  have up2 : ∀ m, Le (row (some vb) 56 3 1 [.pointer (some ⟨bb, 0, none⟩), slV (some ab) 0 N cap, .map (some mb)] :: madeEnt mb m :: HK) HK := fun m => Le.drop (Le.drop (Le.refl _))
  have hfinL : ∀ m, List.Sublist (row (some vb) 56 3 1 [.pointer (some ⟨bb, 0, none⟩), slV (some ab) 0 N cap, .map (some mb)] :: madeEnt mb m :: HB) (row (some vb) 56 3 1 [.pointer (some ⟨bb, 0, none⟩), slV (some ab) 0 N cap, .map (some mb)] :: madeEnt mb m :: HK) := fun m => by rw [← hHK]; exact List.Sublist.cons_cons _ (List.Sublist.cons_cons _ (List.sublist_cons_self _ _))
  refine TOps.next ?_
  refine Tri.seq ?_
  refine Tri.seq ?_
  refine Tri.drawC rfl [(0, .pointer (some ⟨vb, 0, none⟩)), (1, .int .i64 k), (2, .int .i64 i), (7, .pointer (some ⟨b7, 0, none⟩))] [] [_, _, _, _, _, _, _, _, _, _, _] (mkE 66 43 bb v ms s (row (some vb) 56 3 1 [.pointer (some ⟨bb, 0, none⟩), slV (some ab) 0 N cap, .map (some mb)] :: madeEnt mb m :: HK)) [9, 10] rfl ⟨rfl, rfl, rfl, rfl, trivial⟩ trivial (by repeat (first | exact Le.refl _ | assumption | apply Le.drop)) (by
    refine ⟨?_, ?_, ?_, ?_, ?_, ?_, ?_, ?_, ?_, ?_, ?_, trivial⟩
    · refine ⟨fun x S c he hw hd hc hcu hm _ => ?_, trivial⟩
      refine TOps.move (he _ _ rfl) rfl ?_
      exact TOps.fin (Nrm.draw x (fun _ _ _ => rfl) rfl (by first | exact Le.refl _ | assumption | exact (by repeat (first | exact Le.refl _ | assumption | apply Le.drop))))
    · refine ⟨fun x S c he hw hd hc hcu hm _ => ?_, trivial⟩
      obtain ⟨h0, -⟩ := hd
      refine TOps.nilCheck h0 rfl ?_
      exact TOps.fin (Nrm.draw x (fun _ _ _ => rfl) rfl (by first | exact Le.refl _ | assumption | exact (by repeat (first | exact Le.refl _ | assumption | apply Le.drop))))
    · refine ⟨fun x S c he hw hd hc hcu hm _ => ?_, trivial⟩
      obtain ⟨h1, -⟩ := hd
      first | refine TOps.fieldB 2 h1 Try.underlying56 rfl rfl ti54 rfl rfl rfl ?_ | refine TOps.fieldN 2 h1 Try.underlying56 rfl rfl ti54 rfl rfl rfl ?_
      exact TOps.fin (Nrm.draw x (fun _ _ _ => rfl) rfl (by first | exact Le.refl _ | assumption | exact (by repeat (first | exact Le.refl _ | assumption | apply Le.drop))))
    · refine ⟨fun x S c he hw hd hc hcu hm _ => ?_, trivial⟩
      obtain ⟨h2, -⟩ := hd
      refine TOps.load1 h2 ti54 (Rd.fld ((rV _).le mkE_le) 2 rfl) rfl ?_
      exact TOps.fin (Nrm.draw x (fun _ _ _ => rfl) rfl (by first | exact Le.refl _ | assumption | exact (by repeat (first | exact Le.refl _ | assumption | apply Le.drop))))
    · refine ⟨fun x S c he hw hd hc hcu hm _ => ?_, trivial⟩
      refine TOps.loadN (vs := [.int .i64 k, .int .i64 i]) (he _ _ rfl) ti74 (rK.le (mkE_le.trans (up2 _))) rfl rfl ?_
      exact TOps.fin (Nrm.draw x (fun _ _ _ => rfl) rfl (by first | exact Le.refl _ | assumption | exact (by repeat (first | exact Le.refl _ | assumption | apply Le.drop))))
    · refine ⟨fun x S c he hw hd hc hcu hm _ => ?_, trivial⟩
      obtain ⟨h3, h4, -⟩ := hd
      refine TOps.lookMade key27 h3 h4 Try.underlying54 hz (mem_mkE (List.Mem.tail _ (List.Mem.head _))) hmo hmu hK hI rfl ?_
      exact TOps.fin (Nrm.draw x (fun _ _ _ => rfl) rfl (by first | exact Le.refl _ | assumption | exact (by repeat (first | exact Le.refl _ | assumption | apply Le.drop))))
    · refine ⟨fun x S c he hw hd hc hcu hm _ => ?_, trivial⟩
      obtain ⟨h5, -⟩ := hd
      refine TOps.move h5 rfl ?_
      exact TOps.fin (Nrm.draw x (fun _ _ _ => rfl) rfl (by first | exact Le.refl _ | assumption | exact (by repeat (first | exact Le.refl _ | assumption | apply Le.drop))))
    · refine ⟨fun x S c he hw hd hc hcu hm _ => ?_, trivial⟩
      obtain ⟨h6, -⟩ := hd
      refine TOps.extract h6 rfl rfl ?_
      exact TOps.fin (Nrm.draw x (fun _ _ _ => rfl) rfl (by first | exact Le.refl _ | assumption | exact (by repeat (first | exact Le.refl _ | assumption | apply Le.drop))))
    · refine ⟨fun x S c he hw hd hc hcu hm _ => ?_, trivial⟩
      obtain ⟨h6, -⟩ := hd
      refine TOps.extract h6 rfl rfl ?_
      exact TOps.fin (Nrm.draw x (fun _ _ _ => rfl) rfl (by first | exact Le.refl _ | assumption | exact (by repeat (first | exact Le.refl _ | assumption | apply Le.drop))))
    · refine ⟨fun x S c he hw hd hc hcu hm _ => ?_, trivial⟩
      obtain ⟨h7, h0, h1, h2, h3, h4, h5, h6, _, -⟩ := hd
      refine TOps.assign h7 rfl ?_
      exact TOps.fin (Nrm.draw x (fun _ _ _ => rfl) rfl (by first | exact Le.refl _ | assumption | exact (by repeat (first | exact Le.refl _ | assumption | apply Le.drop))))
    · refine ⟨fun x S c he hw hd hc hcu hm _ => ?_, trivial⟩
      obtain ⟨h8, h9, h0, h1, h2, h3, h4, h5, h6, h7, _, _, -⟩ := hd
      refine TOps.assign h8 rfl ?_
      exact TOps.fin (Nrm.draw x (fun _ _ _ => rfl) rfl (by first | exact Le.refl _ | assumption | exact (by repeat (first | exact Le.refl _ | assumption | apply Le.drop))))
    ) ?_
  refine Nrm.next ?_
  refine Tri.seq (Tri.region ?_)
  refine TOps.move rfl rfl ?_
  refine TOps.move rfl rfl ?_
  refine' TOps.orB 7 rfl rfl rfl rfl (fun hg3_1 => ?_) ?_; rotate_left
  · have hg3_1' := hg3_1
    try simp only [decide_eq_true_eq, decide_eq_false_iff_not, Bool.and_eq_true, Bool.or_eq_true, Bool.not_eq_true', Bool.and_eq_false_iff, Bool.or_eq_false_iff, Bool.not_eq_false', Int.not_lt, Int.not_le, ne_eq, Decidable.not_not] at hg3_1'
    refine TOps.strip 1 false rfl rfl hg3_1 rfl ?_
    refine TOps.move rfl rfl ?_
    refine TOps.nilCheck rfl rfl ?_
    refine TOps.field0 rfl Try.underlying56 rfl rfl ti52 rfl rfl rfl ?_
    refine TOps.load1 rfl ti52 (Rd.fld ((rV _).le mkE_le) 0 rfl) rfl ?_
    refine TOps.nilCheck rfl rfl ?_
    first | refine TOps.fieldB 2 rfl Try.underlying66 rfl rfl ti4 rfl rfl rfl ?_ | refine TOps.fieldN 2 rfl Try.underlying66 rfl rfl ti4 rfl rfl rfl ?_
    refine TOps.load1 rfl ti4 (Rd.fld mkE_rd 2 rfl) rfl ?_
    refine TOps.blk rfl (by repeat (first | exact Ext.refl _ | refine Ext.cons rfl ?_)) (by repeat (first | exact Le.refl _ | apply Le.drop))
  refine TOps.next ?_
  refine Tri.cond rfl (fun hc1 => ?_) (fun hc1 => ?_)
  · try simp only [decide_eq_true_eq, decide_eq_false_iff_not, Bool.and_eq_true, Bool.or_eq_true, Bool.not_eq_true', Bool.and_eq_false_iff, Bool.or_eq_false_iff, Bool.not_eq_false', Int.not_lt, Int.not_le, ne_eq, Decidable.not_not, Option.isSome_iff_ne_none, Option.isNone_iff_eq_none] at hc1
    have hR := leastM_early (v := v) hi hc1
    refine Tri.seq (Tri.region ?_)
    refine TOps.move rfl rfl ?_
    refine TOps.assign rfl rfl ?_
    refine TOps.next ?_
    refine Tri.ret1 (H' := mkE 66 43 bb v ms s (row (some vb) 56 3 1 [.pointer (some ⟨bb, 0, none⟩), slV (some ab) 0 N cap, .map (some mb)] :: madeEnt mb m :: HB)) Try.results32 (fun _ _ h => h) (.tmp rfl) (mkE_mono (hfinL _)) ⟨s, by rw [hR]; rfl, by rw [hR]; exact hs, by rw [hR]⟩
  try simp only [decide_eq_true_eq, decide_eq_false_iff_not, Bool.and_eq_true, Bool.or_eq_true, Bool.not_eq_true', Bool.and_eq_false_iff, Bool.or_eq_false_iff, Bool.not_eq_false', Int.not_lt, Int.not_le, ne_eq, Decidable.not_not, Option.isSome_iff_ne_none, Option.isNone_iff_eq_none] at hc1
  obtain ⟨hfn, hfu⟩ : findM k (i : Int) m = none ∧ ms.full = false := by simpa using hc1
  refine Tri.fin ?_
  refine Nrm.next ?_
  refine Tri.seq (Tri.region ?_)
  refine TOps.assign rfl rfl ?_
  refine TOps.next ?_
  refine Tri.seqMid (X := BS × Int × Made × MS) (fun y => [(0, .pointer (some ⟨vb, 0, none⟩)), (1, .int .i64 k), (2, .int .i64 i), (7, .pointer (some ⟨b7, 0, none⟩)), (10, .int .i64 y.2.1)]) (fun y => mkE 66 43 bb v y.2.2.2 y.1 (row (some vb) 56 3 1 [.pointer (some ⟨bb, 0, none⟩), slV (some ab) 0 N cap, .map (some mb)] :: madeEnt mb y.2.2.1 :: HK)) (fun y => LeastMid v args n k i m ms y) ?_ (fun y hmid => ?_)
  · skip
    refine Tri.seq (Tri.region ?_)
    refine TOps.move rfl rfl ?_
    refine TOps.nilCheck rfl rfl ?_
    first | refine TOps.fieldB 1 rfl Try.underlying56 rfl rfl ti41 rfl rfl rfl ?_ | refine TOps.fieldN 1 rfl Try.underlying56 rfl rfl ti41 rfl rfl rfl ?_
    refine TOps.load1 rfl ti41 (Rd.fld ((rV _).le mkE_le) 1 rfl) rfl ?_
    refine TOps.move rfl rfl ?_
    refine TOps.sliceLo (l := i) rfl rfl Try.underlying41 ti3 (by omega) rfl ?_
    rw [show (bif cap == i then 0 else 0 + i * 1) = i from by rw [show (cap == i) = false from beq_eq_false_iff_ne.2 (by omega)]; simp]
    have hdl : (args.drop i).length = N - i := by rw [List.length_drop]; omega
    have hdr : ∀ m, RInts ([] ++ (row (some vb) 56 3 1 [.pointer (some ⟨bb, 0, none⟩), slV (some ab) 0 N cap, .map (some mb)] :: madeEnt mb m :: HK)) (some ab) i (args.drop i) none := fun m => by
      have := RdS.drop (RdS.le rA (up2 m)) i
      rw [Nat.zero_add] at this
      unfold RInts ints
      rw [List.map_drop]
      exact this
    refine TOps.assign rfl rfl ?_
    refine TOps.next ?_
    refine Tri.block ?_
    refine Tri.seq (Tri.region ?_)
    refine TOps.move rfl rfl ?_
    refine TOps.eqlI rfl rfl rfl ?_
    refine TOps.assign rfl rfl ?_
    refine TOps.next ?_
    refine Tri.cond rfl (fun hc2 => ?_) (fun hc2 => ?_)
    · try simp only [decide_eq_true_eq, decide_eq_false_iff_not, Bool.and_eq_true, Bool.or_eq_true, Bool.not_eq_true', Bool.and_eq_false_iff, Bool.or_eq_false_iff, Bool.not_eq_false', Int.not_lt, Int.not_le, ne_eq, Decidable.not_not, Option.isSome_iff_ne_none, Option.isNone_iff_eq_none] at hc2
      refine Tri.region ?_
      refine TOps.move rfl rfl ?_
      refine TOps.nilCheck rfl rfl ?_
      refine TOps.field0 rfl Try.underlying56 rfl rfl ti52 rfl rfl rfl ?_
      refine TOps.load1 rfl ti52 (Rd.fld ((rV _).le mkE_le) 0 rfl) rfl ?_
      refine TOps.move rfl rfl ?_
      refine TOps.call (vs := [_, _, _]) Try.call46 ⟨rfl, rfl, rfl, trivial⟩ (pgate_g (A := []) (args := args.drop i) hs hv ho hdl (by omega) (hdr _) 3) rfl ?_
      rintro _ _ ⟨s', rfl, hs', rfl⟩
      have hpX : LeastMid v args n k i m ms (s', (gateM v 3 (args.drop i) ms).1, m, (gateM v 3 (args.drop i) ms).2) := ⟨hs', hfn, hmo, leastM_or hi hfn hfu hc2⟩
      refine TOps.assign rfl rfl ?_
      refine TOps.fin ?_
      refine Nrm.unB ?_
      refine Nrm.mid _ hpX (by exact ⟨rfl, rfl, rfl, rfl, rfl, trivial⟩) (by repeat (first | exact Le.refl _ | assumption | apply Le.drop))
    try simp only [decide_eq_true_eq, decide_eq_false_iff_not, Bool.and_eq_true, Bool.or_eq_true, Bool.not_eq_true', Bool.and_eq_false_iff, Bool.or_eq_false_iff, Bool.not_eq_false', Int.not_lt, Int.not_le, ne_eq, Decidable.not_not, Option.isSome_iff_ne_none, Option.isNone_iff_eq_none] at hc2
    refine Tri.seq (Tri.region ?_)
    refine TOps.move rfl rfl ?_
    refine TOps.move rfl rfl ?_
    refine TOps.len rfl Try.underlying41 rfl ?_
    refine TOps.eqlI rfl rfl rfl ?_
    refine TOps.assign rfl rfl ?_
    refine TOps.next ?_
    refine Tri.cond rfl (fun hc3 => ?_) (fun hc3 => ?_)
    · try simp only [decide_eq_true_eq, decide_eq_false_iff_not, Bool.and_eq_true, Bool.or_eq_true, Bool.not_eq_true', Bool.and_eq_false_iff, Bool.or_eq_false_iff, Bool.not_eq_false', Int.not_lt, Int.not_le, ne_eq, Decidable.not_not, Option.isSome_iff_ne_none, Option.isNone_iff_eq_none] at hc3
      refine Tri.region ?_
      refine TOps.move rfl rfl ?_
      refine TOps.nilCheck rfl rfl ?_
      refine TOps.field0 rfl Try.underlying56 rfl rfl ti52 rfl rfl rfl ?_
      refine TOps.load1 rfl ti52 (Rd.fld ((rV _).le mkE_le) 0 rfl) rfl ?_
      refine TOps.move rfl rfl ?_
      refine TOps.call (vs := [_, _, _]) Try.call46 ⟨rfl, rfl, rfl, trivial⟩ (pgate_g (A := []) (args := args.drop i) hs hv ho hdl (by omega) (hdr _) 2) rfl ?_
      rintro _ _ ⟨s', rfl, hs', rfl⟩
      have hpX : LeastMid v args n k i m ms (s', (gateM v 2 (args.drop i) ms).1, m, (gateM v 2 (args.drop i) ms).2) := ⟨hs', hfn, hmo, leastM_and hi hfn hfu hc2 (by omega)⟩
      refine TOps.assign rfl rfl ?_
      refine TOps.fin ?_
      refine Nrm.unB ?_
      refine Nrm.mid _ hpX (by exact ⟨rfl, rfl, rfl, rfl, rfl, trivial⟩) (by repeat (first | exact Le.refl _ | assumption | apply Le.drop))
    try simp only [decide_eq_true_eq, decide_eq_false_iff_not, Bool.and_eq_true, Bool.or_eq_true, Bool.not_eq_true', Bool.and_eq_false_iff, Bool.or_eq_false_iff, Bool.not_eq_false', Int.not_lt, Int.not_le, ne_eq, Decidable.not_not, Option.isSome_iff_ne_none, Option.isNone_iff_eq_none] at hc3
    have h1L := leastM_ok (v := v) hv hsm (by omega) n (by omega) (k - 1) m ms (by omega) (by omega) hmo ho
    obtain ⟨u1L, g1L⟩ := leastM_u (v := v) (args := args) n (by omega) (k - 1) m ms hmu (fun _ => trivial)
    obtain ⟨r1, hr1⟩ : ∃ r, leastM v args n (k - 1) m ms = r := ⟨_, rfl⟩
    rw [hr1] at h1L u1L g1L
    have o1 := h1L.gr.ok ho
    have hii1 : args.length - n = i + 1 := by omega
    rw [hii1] at g1L
    refine Tri.seq (Tri.region ?_)
    refine TOps.move rfl rfl ?_
    refine TOps.move rfl rfl ?_
    refine TOps.sub rfl rfl (wrapI (by omega) (by omega)) rfl ?_
    refine TOps.move rfl rfl ?_
    refine TOps.add rfl rfl (wrapI (by omega) (by omega)) rfl ?_
    refine TOps.call (vs := [_, _, _]) Try.call32 ⟨rfl, rfl, rfl, trivial⟩ (ih (by omega) (by omega) (i + 1) (by omega) _ (by omega) (k - 1) (by omega) (by omega) HK rA m ms s hs ho hmo hmu) rfl ?_
    rintro _ _ ⟨s1, rfl, hs1, rfl⟩
    rw [hr1] at hs1 ⊢
    obtain ⟨r2, hr2⟩ : ∃ r, addM v ⟨2, 0, [args.getD i 0, r1.1]⟩ r1.2.2 = r := ⟨_, rfl⟩
    have o2 : r2.2.Ok := by rw [← hr2]; exact (addM_gr _ _ _).ok o1
    have h3L := leastM_ok (v := v) hv hsm (by omega) n (by omega) k r1.2.1 r2.2 (by omega) (by omega) h1L.md o2
    obtain ⟨u3L, g3L⟩ := leastM_u (v := v) (args := args) n (by omega) k r1.2.1 r2.2 u1L (fun _ => trivial)
    obtain ⟨r3, hr3⟩ : ∃ r, leastM v args n k r1.2.1 r2.2 = r := ⟨_, rfl⟩
    rw [hr3] at h3L u3L g3L
    rw [hii1] at g3L
    have o3 := h3L.gr.ok o2
    obtain ⟨r4, hr4⟩ : ∃ r, addM v ⟨3, 0, [r2.1, r3.1]⟩ r3.2.2 = r := ⟨_, rfl⟩
    have hfn1 := MadeGr.none (i := (i : Int)) (k := k) g1L hfn
    have hfn3 := MadeGr.none (i := (i : Int)) (k := k) g3L hfn1
    have hai := RInts.at rA (i := i) hiN'
    obtain ⟨ab', e', _, hxi⟩ := hai
    obtain rfl := Option.some.inj e'
    have hgd : args.getD i 0 = args[i] := by simp [List.getD_eq_getElem?_getD, hiN']
    rw [← hgd] at hxi
    rw [Nat.zero_add] at hxi
    have hR := leastM_two hi hfn hfu hc2 (by omega) hr1 hr2 hr3 hr4
    refine TOps.assign rfl rfl ?_
    refine TOps.next ?_
    refine Tri.seq ?_
    refine Tri.drawX (X := Nat × BS) rfl [(0, .pointer (some ⟨vb, 0, none⟩)), (1, .int .i64 k), (2, .int .i64 i), (7, .pointer (some ⟨b7, 0, none⟩)), (11, slV (some ab) i (N - i) (cap - i)), (12, .int .i64 r1.1)] [] (fun x => [_, _, _, _, _, _, _, _, slV (some x.1) 0 2 2, _, _]) (fun x c => match c with | 0 => mkE 66 43 bb v r1.2.2 s1 (row (some vb) 56 3 1 [.pointer (some ⟨bb, 0, none⟩), slV (some ab) 0 N cap, .map (some mb)] :: madeEnt mb r1.2.1 :: HK) | 1 => row (some x.1) 3 1 2 [.int .i64 (args.getD i 0), .int .i64 r1.1] :: mkE 66 43 bb v r1.2.2 s1 (row (some vb) 56 3 1 [.pointer (some ⟨bb, 0, none⟩), slV (some ab) 0 N cap, .map (some mb)] :: madeEnt mb r1.2.1 :: HK) | _ + 2 => fact (x.2.ok r2.2.ns) :: mkE 66 43 bb v r2.2 x.2 (row (some vb) 56 3 1 [.pointer (some ⟨bb, 0, none⟩), slV (some ab) 0 N cap, .map (some mb)] :: madeEnt mb r1.2.1 :: HK)) [8, 9] (0, BS.new) [10] rfl rfl ⟨rfl, rfl, rfl, rfl, rfl, rfl, trivial⟩ trivial (by repeat (first | exact Le.refl _ | assumption | apply Le.drop)) (by
      refine ⟨?_, ?_, ?_, ?_, ?_, ?_, ?_, ?_, ?_, ?_, ?_, trivial⟩
      · refine ⟨fun x S c he hw hd hc hcu hm _ => ?_, trivial⟩
        refine TOps.move (he _ _ rfl) rfl ?_
        exact TOps.fin (Nrm.draw x (fun _ _ _ => rfl) rfl (by first | exact Le.refl _ | assumption | exact (by repeat (first | exact Le.refl _ | assumption | apply Le.drop))))
      · refine ⟨fun x S c he hw hd hc hcu hm _ => ?_, trivial⟩
        obtain ⟨h0, -⟩ := hd
        refine TOps.nilCheck h0 rfl ?_
        exact TOps.fin (Nrm.draw x (fun _ _ _ => rfl) rfl (by first | exact Le.refl _ | assumption | exact (by repeat (first | exact Le.refl _ | assumption | apply Le.drop))))
      · refine ⟨fun x S c he hw hd hc hcu hm _ => ?_, trivial⟩
        obtain ⟨h1, -⟩ := hd
        refine TOps.field0 h1 Try.underlying56 rfl rfl ti52 rfl rfl rfl ?_
        exact TOps.fin (Nrm.draw x (fun _ _ _ => rfl) rfl (by first | exact Le.refl _ | assumption | exact (by repeat (first | exact Le.refl _ | assumption | apply Le.drop))))
      · refine ⟨fun x S c he hw hd hc hcu hm _ => ?_, trivial⟩
        obtain ⟨h2, -⟩ := hd
        rcases (show c = 0 ∨ c = 1 by have : c ≤ 1 := hcu; omega) with rfl | rfl <;> refine TOps.load1 h2 ti52 (Rd.fld ((rV _).le (by first | exact mkE_le | exact Le.drop mkE_le)) 0 rfl) rfl ?_
        all_goals exact TOps.fin (Nrm.draw x (fun _ _ _ => rfl) rfl (Le.refl _))
      · refine ⟨fun x S c he hw hd hc hcu hm _ => ?_, trivial⟩
        refine TOps.move (he _ _ rfl) rfl ?_
        exact TOps.fin (Nrm.draw x (fun _ _ _ => rfl) rfl (by first | exact Le.refl _ | assumption | exact (by repeat (first | exact Le.refl _ | assumption | apply Le.drop))))
      · refine ⟨fun x S c he hw hd hc hcu hm _ => ?_, trivial⟩
        obtain ⟨h4, -⟩ := hd
        refine TOps.indexAddr (off' := i) h4 rfl Try.underlying41 ti3 (by omega) (by omega) (by simp) rfl ?_
        exact TOps.fin (Nrm.draw x (fun _ _ _ => rfl) rfl (by first | exact Le.refl _ | assumption | exact (by repeat (first | exact Le.refl _ | assumption | apply Le.drop))))
      · refine ⟨fun x S c he hw hd hc hcu hm _ => ?_, trivial⟩
        obtain ⟨h5, -⟩ := hd
        rcases (show c = 0 by have : c ≤ 0 := hcu; omega) with rfl
        refine TOps.load1 h5 ti3 (hxi.le (mkE_le.trans (up2 _))) rfl ?_
        exact TOps.fin (Nrm.draw x (fun _ _ _ => rfl) rfl (by first | exact Le.refl _ | assumption | exact (by repeat (first | exact Le.refl _ | assumption | apply Le.drop))))
      · refine ⟨fun x S c he hw hd hc hcu hm _ => ?_, trivial⟩
        refine TOps.move (he _ _ rfl) rfl ?_
        exact TOps.fin (Nrm.draw x (fun _ _ _ => rfl) rfl (by first | exact Le.refl _ | assumption | exact (by repeat (first | exact Le.refl _ | assumption | apply Le.drop))))
      · refine ⟨fun x S c he hw hd hc hcu hm _ => ?_, trivial⟩
        obtain ⟨h6, h7, -⟩ := hd
        obtain rfl : c = 0 := hm rfl
        refine TOps.buildSlice (vs := [_, _]) (xs := [_, _]) Try.underlying41 ti3 ⟨rfl, h6, rfl, h7, trivial⟩ rfl rfl rfl rfl rfl rfl (by decide) rfl (fun b58 => ?_)
        refine TOps.fin (Nrm.draw (b58, x.2) ?_ rfl (Le.refl _))
        intro j hj hcj; rcases j with _|_|_|_|_|_|_|_|_|_|_|j <;> first | rfl | exact absurd rfl hj | exact absurd hcj (by decide)
      · refine ⟨fun x S c he hw hd hc hcu hm _ => ?_, trivial⟩
        obtain ⟨h3, h8, -⟩ := hd
        obtain rfl : c = 1 := hm rfl
        refine TOps.call (vs := [_, _, _]) Try.call46 ⟨h3, rfl, h8, trivial⟩ (pgate_g (A := [row (some x.1) 3 1 2 [.int .i64 (args.getD i 0), .int .i64 r1.1]]) (args := [args.getD i 0, r1.1]) (m := 2) hs1 hv o1 rfl (by omega) (RdS.ofRowS (List.Mem.head _)) 2) rfl ?_
        rintro _ _ ⟨s', rfl, hs', rfl⟩
        rw [gateM_two, hr2] at hs' ⊢
        refine TOps.fin (Nrm.draw (x.1, s') ?_ rfl (Le.addFact hs'))
        intro j hj hcj; rcases j with _|_|_|_|_|_|_|_|_|_|_|j <;> first | rfl | exact absurd rfl hj | exact absurd hcj (by decide)
      · refine ⟨fun x S c he hw hd hc hcu hm _ => ?_, trivial⟩
        obtain ⟨h9, _, h0, h1, h2, h3, h4, h5, h6, h7, h8, _, -⟩ := hd
        refine TOps.assign h9 rfl ?_
        exact TOps.fin (Nrm.draw x (fun _ _ _ => rfl) rfl (by first | exact Le.refl _ | assumption | exact (by repeat (first | exact Le.refl _ | assumption | apply Le.drop))))
      ) (fun w => ?_)
    refine Nrm.fact (List.Mem.head _) (fun hs2 => ?_)
    refine Nrm.le (Le.drop (Le.refl _)) ?_
    obtain ⟨s2, hs2e⟩ : ∃ s2, w.2 = s2 := ⟨_, rfl⟩
    rw [hs2e] at hs2 ⊢
    refine Nrm.next ?_
    refine Tri.seq (Tri.region ?_)
    refine TOps.move rfl rfl ?_
    refine TOps.move rfl rfl ?_
    refine TOps.move rfl rfl ?_
    refine TOps.add rfl rfl (wrapI (by omega) (by omega)) rfl ?_
    refine TOps.call (vs := [_, _, _]) Try.call32 ⟨rfl, rfl, rfl, trivial⟩ (ih (by omega) (by omega) (i + 1) (by omega) _ (by omega) k (by omega) (by omega) HK rA r1.2.1 r2.2 s2 hs2 o2 h1L.md u1L) rfl ?_
    rintro _ _ ⟨s3, rfl, hs3, rfl⟩
    rw [hr3] at hs3 ⊢
    refine TOps.assign rfl rfl ?_
    refine TOps.next ?_
    refine Tri.region ?_
    refine TOps.move rfl rfl ?_
    refine TOps.nilCheck rfl rfl ?_
    refine TOps.field0 rfl Try.underlying56 rfl rfl ti52 rfl rfl rfl ?_
    refine TOps.load1 rfl ti52 (Rd.fld ((rV _).le mkE_le) 0 rfl) rfl ?_
    refine TOps.move rfl rfl ?_
    refine TOps.move rfl rfl ?_
    refine TOps.buildSlice (vs := [_, _]) (xs := [_, _]) Try.underlying41 ti3 ⟨rfl, rfl, rfl, rfl, trivial⟩ rfl rfl rfl rfl rfl rfl (by decide) rfl (fun b71 => ?_)
    refine TOps.call (vs := [_, _, _]) Try.call46 ⟨rfl, rfl, rfl, trivial⟩ (pgate_g (A := [row (some b71) 3 1 2 [.int .i64 r2.1, .int .i64 r3.1]]) (args := [r2.1, r3.1]) (m := 2) hs3 hv o3 rfl (by omega) (RdS.ofRowS (List.Mem.head _)) 3) rfl ?_
    rintro _ _ ⟨s4, rfl, hs4, rfl⟩
    rw [gateM_two, hr4] at hs4 ⊢
    have hpX : LeastMid v args n k i m ms (s4, r4.1, r3.2.1, r4.2) := ⟨hs4, hfn3, h3L.md, hR⟩
    refine TOps.assign rfl rfl ?_
    refine TOps.fin ?_
    refine Nrm.unB ?_
    refine Nrm.mid _ hpX (by exact ⟨rfl, rfl, rfl, rfl, rfl, trivial⟩) (by repeat (first | exact Le.refl _ | assumption | apply Le.drop))
  refine Tri.seq ?_
  obtain ⟨z, x0, m1, ms1⟩ := y
  obtain ⟨hz1, hfy, hmy, hRy⟩ := hmid
  dsimp only at hz1 hfy hmy hRy ⊢
  refine Tri.drawX (X := Unit) rfl [(0, .pointer (some ⟨vb, 0, none⟩)), (1, .int .i64 k), (2, .int .i64 i), (7, .pointer (some ⟨b7, 0, none⟩)), (10, .int .i64 x0)] [] (fun x => [_, _, _, _, _, _, undef]) (fun x c => match c with | 0 => mkE 66 43 bb v ms1 z (row (some vb) 56 3 1 [.pointer (some ⟨bb, 0, none⟩), slV (some ab) 0 N cap, .map (some mb)] :: madeEnt mb m1 :: HK) | _ + 1 => mkE 66 43 bb v ms1 z (row (some vb) 56 3 1 [.pointer (some ⟨bb, 0, none⟩), slV (some ab) 0 N cap, .map (some mb)] :: madeEnt mb (snocM m1 k i x0) :: HK)) [6] () [] rfl rfl ⟨rfl, rfl, rfl, rfl, rfl, trivial⟩ trivial (by repeat (first | exact Le.refl _ | assumption | apply Le.drop)) (by
    refine ⟨?_, ?_, ?_, ?_, ?_, ?_, ?_, trivial⟩
    · refine ⟨fun x S c he hw hd hc hcu hm _ => ?_, trivial⟩
      refine TOps.move (he _ _ rfl) rfl ?_
      exact TOps.fin (Nrm.draw x (fun _ _ _ => rfl) rfl (by first | exact Le.refl _ | assumption | exact (by repeat (first | exact Le.refl _ | assumption | apply Le.drop))))
    · refine ⟨fun x S c he hw hd hc hcu hm _ => ?_, trivial⟩
      obtain ⟨h0, -⟩ := hd
      refine TOps.nilCheck h0 rfl ?_
      exact TOps.fin (Nrm.draw x (fun _ _ _ => rfl) rfl (by first | exact Le.refl _ | assumption | exact (by repeat (first | exact Le.refl _ | assumption | apply Le.drop))))
    · refine ⟨fun x S c he hw hd hc hcu hm _ => ?_, trivial⟩
      obtain ⟨h1, -⟩ := hd
      first | refine TOps.fieldB 2 h1 Try.underlying56 rfl rfl ti54 rfl rfl rfl ?_ | refine TOps.fieldN 2 h1 Try.underlying56 rfl rfl ti54 rfl rfl rfl ?_
      exact TOps.fin (Nrm.draw x (fun _ _ _ => rfl) rfl (by first | exact Le.refl _ | assumption | exact (by repeat (first | exact Le.refl _ | assumption | apply Le.drop))))
    · refine ⟨fun x S c he hw hd hc hcu hm _ => ?_, trivial⟩
      obtain ⟨h2, -⟩ := hd
      obtain rfl : c = 0 := by have : c ≤ 0 := hcu; omega
      refine TOps.load1 h2 ti54 (Rd.fld ((rV _).le mkE_le) 2 rfl) rfl ?_
      exact TOps.fin (Nrm.draw x (fun _ _ _ => rfl) rfl (by first | exact Le.refl _ | assumption | exact (by repeat (first | exact Le.refl _ | assumption | apply Le.drop))))
    · refine ⟨fun x S c he hw hd hc hcu hm _ => ?_, trivial⟩
      obtain rfl : c = 0 := by have : c ≤ 0 := hcu; omega
      refine TOps.loadN (vs := [.int .i64 k, .int .i64 i]) (he _ _ rfl) ti74 (rK.le (mkE_le.trans (up2 _))) rfl rfl ?_
      exact TOps.fin (Nrm.draw x (fun _ _ _ => rfl) rfl (by first | exact Le.refl _ | assumption | exact (by repeat (first | exact Le.refl _ | assumption | apply Le.drop))))
    · refine ⟨fun x S c he hw hd hc hcu hm _ => ?_, trivial⟩
      refine TOps.move (he _ _ rfl) rfl ?_
      exact TOps.fin (Nrm.draw x (fun _ _ _ => rfl) rfl (by first | exact Le.refl _ | assumption | exact (by repeat (first | exact Le.refl _ | assumption | apply Le.drop))))
    · refine ⟨fun x S c he hw hd hc hcu hm _ => ?_, trivial⟩
      obtain ⟨h3, h4, h5, h0, h1, h2, _, _, _, -⟩ := hd
      obtain rfl : c = 0 := hm rfl
      refine TOps.putMade key27 h3 h4 h5 Try.underlying54 (Upd.mkE (Upd.there Upd.here)) hmy hK hI hfy ?_
      exact TOps.fin (Nrm.draw x (fun _ _ _ => rfl) rfl (by first | exact Le.refl _ | assumption | exact (by repeat (first | exact Le.refl _ | assumption | apply Le.drop))))
    ) (fun u0 => ?_)
  refine Nrm.next ?_
  refine Tri.seq (Tri.region ?_)
  refine TOps.move rfl rfl ?_
  refine TOps.assign rfl rfl ?_
  refine TOps.next ?_
  refine Tri.ret1 (H' := mkE 66 43 bb v ms1 z (row (some vb) 56 3 1 [.pointer (some ⟨bb, 0, none⟩), slV (some ab) 0 N cap, .map (some mb)] :: madeEnt mb (m1 ++ [((k, (i : Int)), x0)]) :: HB)) Try.results32 (fun _ _ h => h) (.tmp rfl) (mkE_mono (hfinL _)) ⟨z, by rw [hRy], by rw [hRy]; exact hz1, by rw [hRy]⟩
end Go.Proofs
