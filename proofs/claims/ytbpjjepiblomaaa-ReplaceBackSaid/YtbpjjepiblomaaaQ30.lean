import Derived.Test.YtbpjjepiblomaaaP30
import Derived.Test.YtbpjjepiblomaaaGL57
namespace Go.Proofs
open Go.GL
set_option linter.unusedVariables false
set_option linter.unusedSimpArgs false
theorem proper2_g {H : List Ent} {fv : Value} {F : Fm} (hF : RF H fv F) (hg : F.Good) :
    Gives Try.prog 24 [fv] H (fun u H' => ∃ a cap, u = .tuple (List.toArray [slV a 0 F.proper.length cap, errV 45 none]) ∧ (nats F.proper ≠ [] → ∃ b, a = some b) ∧ row a 3 1 cap (nats F.proper) :: H = H') := by
  intro w hM
  refine (proper_g hF hg.ok w hM).mono fun e W' h => ?_
  obtain ⟨v, H', ⟨xs, a, cap, h1, h2, h3, h4⟩, h5, h6⟩ := h
  rw [(Fm.good_iff F).2 hg] at h1 h2
  simp only [Option.isNone_none, cond_true] at h1
  subst h1
  exact ⟨v, H', ⟨a, cap, h2, h3, h4⟩, h5, h6⟩
theorem levels_g {H : List Ent} {fv : Value} {F0 : Fm} (hF : RF H fv F0) (hg0 : F0.Good) {RES : List Fm × Option Int} (hR : levF (25 - F0.vars.toNat) F0 [] = RES) :
    Gives Try.prog 23 [fv] H (fun u H' => ∃ a cap, u = .tuple (List.toArray [slV a 0 RES.1.length cap, errV 45 RES.2]) ∧ Le H' H ∧ RFs H' a 0 RES.1) := by
  obtain ⟨na0, off0, cap0, nsp0, rfl, hN0⟩ := hF
  refine Gives.enter Try.func23 rfl (by exact Try.ntmps23) rfl ?_
  refine Tri.seq (Tri.region ?_)
  refine TOps.boxN rfl ti24 rfl rfl (fun b1 => ?_)
  refine TOps.assign rfl rfl ?_
  refine TOps.assign rfl rfl ?_
  refine TOps.next ?_
  refine Tri.seq (Tri.region ?_)
  refine TOps.assign rfl rfl ?_
  refine TOps.next ?_
  refine Tri.seq ?_
  refine Tri.block ?_
  refine Tri.loop (X := Fm × SA × List Fm × List SA × (Option Nat × Nat) × List Ent) (fun x => [(1, .pointer (some ⟨b1, 0, none⟩)), (4, slV x.2.2.2.2.1.1 0 x.2.2.1.length x.2.2.2.2.1.2)]) (fun x => row (some b1) 24 3 1 (fmCells x.1 x.2.1) :: row x.2.2.2.2.1.1 24 3 x.2.2.2.2.1.2 (fsCells x.2.2.1 x.2.2.2.1) :: (x.2.2.2.2.2 ++ H)) (fun x => x.1.Good ∧ RNodes (x.2.2.2.2.2 ++ H) x.2.1.1 x.2.1.2.1 x.1.nodes x.2.1.2.2.2 ∧ FsIn (x.2.2.2.2.2 ++ H) x.2.2.1 x.2.2.2.1 ∧ (x.2.2.1 ≠ [] → ∃ b, x.2.2.2.2.1.1 = some b) ∧ x.2.2.1.length ≤ x.1.vars.toNat ∧ levF (25 - x.1.vars.toNat) x.1 x.2.2.1 = RES) (fun x => 25 - x.1.vars.toNat) (F0, (na0, off0, cap0, nsp0), [], [], (none, 0), []) ⟨hg0, hN0, FsIn.nil, fun h => absurd rfl h, Nat.zero_le _, hR⟩ ⟨rfl, rfl, trivial⟩ (Le.addNil.trans (Sp.le (by repeat (first | exact Sp.refl _ | exact Sp.sub (by assumption) | refine Sp.cons (by repeat (first | exact Pick.here | apply Pick.there)) ?_ | exact Sp.nil | apply Sp.skip)))) (fun x hp => ?_)
  obtain ⟨F, ⟨na, off, cap, nsp⟩, acc, qs, ⟨oa, ocap⟩, N⟩ := x
  obtain ⟨hg, hN, hacc, hoa, hal, hres⟩ := hp
  dsimp only at hg hN hacc hoa hal hres ⊢
  have g0 := hg.v0; have g1 := hg.v1; have g2 := hg.n1
  obtain ⟨fuel, hfu⟩ : ∃ fuel, 25 - F.vars.toNat = fuel + 1 := ⟨24 - F.vars.toNat, by omega⟩
  rw [hfu] at hres
  have hcl := fsCells_length acc qs hacc.1
  have hRF : RF (N ++ H) (.agg (List.toArray [.int .i64 F.vars, slV na off F.nodes.length cap nsp, .int .i64 F.top])) F := ⟨na, off, cap, nsp, rfl, hN⟩
  refine Tri.block ?_
  refine Tri.seq (Tri.region ?_)
  refine TOps.loadN rfl ti24 (by first | exact Rd.all (by repeat (first | exact List.Mem.head _ | apply List.Mem.tail)) | (repeat (first | assumption | apply Rd.up))) rfl rfl ?_
  refine TOps.call (vs := [_]) Try.call24 ⟨rfl, trivial⟩ (proper2_g (hRF.le (Le.drop (Le.drop (Le.refl _)))) hg) rfl ?_
  rintro _ _ ⟨la, lcap, rfl, hla, rfl⟩
  refine TOps.move rfl rfl ?_
  refine TOps.extract rfl rfl rfl ?_
  refine TOps.extract rfl rfl rfl ?_
  refine TOps.assign rfl rfl ?_
  refine TOps.assign rfl rfl ?_
  refine TOps.next ?_
  refine Tri.seq ?_
  refine Tri.seq (Tri.region ?_)
  refine TOps.move rfl rfl ?_
  refine TOps.neqNil (T := 45) (o := none) rfl Try.underlying28 rfl ?_
  refine TOps.next ?_
  refine Tri.cond rfl (fun hc1 => ?_) (fun hc1 => ?_)
  · try simp only [decide_eq_true_eq, decide_eq_false_iff_not, Bool.and_eq_true, Bool.or_eq_true, Bool.not_eq_true', Bool.and_eq_false_iff, Bool.or_eq_false_iff, Bool.not_eq_false', Int.not_lt, Int.not_le, ne_eq, Decidable.not_not, Option.isSome_iff_ne_none, Option.isNone_iff_eq_none] at hc1
    have hfalse : False := by simp at hc1
    refine Tri.seq (Tri.region ?_)
    refine TOps.move rfl rfl ?_
    refine TOps.assign rfl rfl ?_
    refine TOps.assign rfl rfl ?_
    refine TOps.next ?_
    exact hfalse.elim
  try simp only [decide_eq_true_eq, decide_eq_false_iff_not, Bool.and_eq_true, Bool.or_eq_true, Bool.not_eq_true', Bool.and_eq_false_iff, Bool.or_eq_false_iff, Bool.not_eq_false', Int.not_lt, Int.not_le, ne_eq, Decidable.not_not, Option.isSome_iff_ne_none, Option.isNone_iff_eq_none] at hc1
  refine Tri.fin ?_
  refine Nrm.next ?_
  refine Tri.seq ?_
  refine Tri.seq (Tri.region ?_)
  refine TOps.move rfl rfl ?_
  refine TOps.len rfl Try.underlying50 rfl ?_
  refine TOps.eqlI rfl rfl rfl ?_
  refine TOps.next ?_
  refine Tri.cond rfl (fun hc2 => ?_) (fun hc2 => ?_)
  · try simp only [decide_eq_true_eq, decide_eq_false_iff_not, Bool.and_eq_true, Bool.or_eq_true, Bool.not_eq_true', Bool.and_eq_false_iff, Bool.or_eq_false_iff, Bool.not_eq_false', Int.not_lt, Int.not_le, ne_eq, Decidable.not_not, Option.isSome_iff_ne_none, Option.isNone_iff_eq_none] at hc2
    have hpe : F.proper = [] := List.eq_nil_of_length_eq_zero (by omega)
    have hres' : RES = (acc ++ [F], none) := by rw [← hres, levF, hpe]
    obtain ⟨HX, hHX⟩ : ∃ HX, HX = row la 3 1 lcap (nats F.proper) :: row (some b1) 24 3 1 (fmCells F (na, off, cap, nsp)) :: (N ++ H) := ⟨_, rfl⟩
    have lX : Le HX (N ++ H) := by rw [hHX]; exact Le.drop (Le.drop (Le.refl _))
    have hNX := hN.le lX
    have haX := hacc.le lX
    first | refine Tri.exitW ?_ | (refine Tri.exitTo ?_; repeat (with_reducible first | refine ExitTo.blk ?_ | refine ExitTo.blkNe rfl ?_ | refine ExitTo.body ?_ | refine ExitTo.brk rfl ?_ | refine ExitTo.bodyNe rfl rfl ?_ | refine ExitTo.seq ?_ | refine ExitTo.loop ?_))
    refine Nrm.next ?_
    refine Tri.seq (Tri.region ?_)
    refine TOps.field0 rfl Try.underlying24 rfl rfl ti3 rfl rfl rfl ?_
    refine TOps.load1 rfl ti3 (by first | exact Rd.lit (by repeat (first | exact List.Mem.head _ | apply List.Mem.tail)) rfl | (repeat (first | assumption | exact Rd.fld (by assumption) 0 rfl | apply Rd.up))) rfl ?_
    first | refine TOps.fieldB 2 rfl Try.underlying24 rfl rfl ti3 rfl rfl rfl ?_ | refine TOps.fieldN 2 rfl Try.underlying24 rfl rfl ti3 rfl rfl rfl ?_
    refine TOps.load1 rfl ti3 (by first | exact Rd.lit (by repeat (first | exact List.Mem.head _ | apply List.Mem.tail)) rfl | (repeat (first | assumption | exact Rd.fld (by assumption) 2 rfl | apply Rd.up))) rfl ?_
    refine TOps.buildStruct (vs := [(0, _), (2, _)]) (xs := [_, _, _]) [(0, 1), (1, 1), (2, 1)] Try.underlying24 ti24 (fun w => by simp) ⟨rfl, rfl, rfl, rfl, trivial⟩ rfl rfl ?_
    refine TOps.alloc ti24 rfl (fun b9 => ?_)
    refine TOps.storeN rfl rfl ti24 rfl rfl (by repeat (first | exact Upd.here | apply Upd.there)) (by first | decide | (simp; done) | (simp; omega)) ?_
    refine TOps.next ?_
    refine Tri.seq ?_
    refine Tri.seq (Tri.region ?_)
    first | refine TOps.fieldB 1 rfl Try.underlying24 rfl rfl ti22 rfl rfl rfl ?_ | refine TOps.fieldN 1 rfl Try.underlying24 rfl rfl ti22 rfl rfl rfl ?_
    refine TOps.load1 rfl ti22 (by first | exact Rd.lit (by repeat (first | exact List.Mem.head _ | apply List.Mem.tail)) rfl | (repeat (first | assumption | exact Rd.fld (by assumption) 1 rfl | apply Rd.up))) rfl ?_
    refine TOps.len rfl Try.underlying22 rfl ?_
    refine TOps.move rfl rfl ?_
    refine TOps.next ?_
    refine Tri.range (X := (Option Nat × Nat) × List SA × List Ent) (fun z k => [(4, slV oa 0 acc.length ocap), (9, .pointer (some ⟨b9, 0, none⟩)), (46, slV na off F.nodes.length cap nsp)]) (fun z k => row (some b9) 24 3 1 [.int .i64 F.vars, slV z.1.1 0 k z.1.2, .int .i64 F.top] :: row z.1.1 66 3 z.1.2 (nsCells (F.nodes.take k) z.2.1) :: row oa 24 3 ocap (fsCells acc qs) :: (z.2.2 ++ HX)) (fun z k => ArgsIn z.2.2 (F.nodes.take k) z.2.1 ∧ (F.nodes.take k ≠ [] → ∃ b, z.1.1 = some b)) (by omega) rfl rfl rfl (fun _ _ => ⟨rfl, rfl, rfl, rfl⟩) ((none, 0), [], []) ⟨ArgsIn.nil, fun h => absurd rfl h⟩ ⟨rfl, rfl, rfl, trivial⟩ (by subst hHX; exact Le.addNil.trans (Sp.le (by repeat (first | exact Sp.refl _ | exact Sp.sub (by assumption) | refine Sp.cons (by repeat (first | exact Pick.here | apply Pick.there)) ?_ | exact Sp.nil | apply Sp.skip)))) (fun k z hlt hp => ?_) (fun z ac wc hp hS hM => ?_)
    · skip
      obtain ⟨⟨oaN, ocapN⟩, qsN, H3⟩ := z
      obtain ⟨hp3, hp4⟩ := hp
      dsimp only at hp3 hp4 ⊢
      have hp1 : Le (H3 ++ HX) HX := Le.sub (List.sublist_append_right _ _)
      obtain ⟨nb, aa, ao, acap, asp, rfl, rfl, hn⟩ := hNX.at hlt
      have hfi := hg.fits k hlt
      have hcells := hn.cells
      have hal2 := hfi.len
      obtain ⟨d, hd⟩ : ∃ d, d = F.nodes[k] := ⟨_, rfl⟩
      rw [← hd] at hcells hn hal2
      replace hcells := hcells.le hp1; replace hn := hn.le hp1
      have htk : (F.nodes.take k).length = k := by rw [List.length_take]; omega
      have hsn : F.nodes.take (k + 1) = F.nodes.take k ++ [d] := by rw [List.take_succ_eq_append_getElem hlt, ← hd]
      refine Tri.seq (Tri.region ?_)
      refine TOps.indexAddr (off' := off + k * 3) rfl rfl Try.underlying22 ti66 (by omega) (by omega) (by simp) rfl ?_
      refine TOps.loadN (vs := [.int .i64 d.kind, .int .i64 d.k, slV aa ao d.args.length acap asp]) rfl ti66 (by repeat (first | exact hcells | apply Rd.up)) rfl rfl ?_
      refine TOps.alloc ti66 rfl (fun b11 => ?_)
      refine TOps.storeN rfl rfl ti66 rfl rfl (by repeat (first | exact Upd.here | apply Upd.there)) (by first | decide | (simp; done) | (simp; omega)) ?_
      refine TOps.next ?_
      obtain ⟨CS, hCS⟩ : ∃ CS, CS = nsCells (F.nodes.take k) qsN := ⟨_, rfl⟩
      have hcl2 : CS.length = k * 3 := by rw [hCS, nsCells_length _ _ hp3.1, htk]
      obtain ⟨kk, hkk⟩ : ∃ kk, k = kk := ⟨_, rfl⟩
      obtain ⟨HB, hHB⟩ : ∃ HB, HB = row oa 24 3 ocap (fsCells acc qs) :: (H3 ++ HX) := ⟨_, rfl⟩
      have hBr : RInts HB aa ao d.args asp := by rw [hHB]; exact RdS.up hn.args
      have hr5 : ∀ (x : Nat × OA (ints d.args) × Nat × Nat × Nat × Nat) (c : Nat), Rd (match c with | 0 => row (some b11) 66 3 1 [.int .i64 d.kind, .int .i64 d.k, slV aa ao d.args.length acap asp] :: row (some b9) 24 3 1 [.int .i64 F.vars, slV oaN 0 kk ocapN, .int .i64 F.top] :: row oaN 66 3 ocapN CS :: HB | 1 => row (some x.1) 3 1 0 [] :: row (some b11) 66 3 1 [.int .i64 d.kind, .int .i64 d.k, slV aa ao d.args.length acap asp] :: row (some b9) 24 3 1 [.int .i64 F.vars, slV oaN 0 kk ocapN, .int .i64 F.top] :: row oaN 66 3 ocapN CS :: HB | 2 => row x.2.1.1 3 1 x.2.2.1 (ints d.args) :: row (some b11) 66 3 1 [.int .i64 d.kind, .int .i64 d.k, slV aa ao d.args.length acap asp] :: row (some b9) 24 3 1 [.int .i64 F.vars, slV oaN 0 kk ocapN, .int .i64 F.top] :: row oaN 66 3 ocapN CS :: HB | 3 => row (some x.2.2.2.1) 66 3 1 [.int .i64 d.kind, .int .i64 d.k, slV x.2.1.1 0 (0 + d.args.length) x.2.2.1] :: row x.2.1.1 3 1 x.2.2.1 (ints d.args) :: row (some b11) 66 3 1 [.int .i64 d.kind, .int .i64 d.k, slV aa ao d.args.length acap asp] :: row (some b9) 24 3 1 [.int .i64 F.vars, slV oaN 0 kk ocapN, .int .i64 F.top] :: row oaN 66 3 ocapN CS :: HB | 4 => row x.2.1.1 3 1 x.2.2.1 (ints d.args) :: row (some b11) 66 3 1 [.int .i64 d.kind, .int .i64 d.k, slV aa ao d.args.length acap asp] :: row (some b9) 24 3 1 [.int .i64 F.vars, slV oaN 0 kk ocapN, .int .i64 F.top] :: row (some x.2.2.2.2.1) 66 3 x.2.2.2.2.2 (CS ++ [.int .i64 d.kind, .int .i64 d.k, slV x.2.1.1 0 (0 + d.args.length) x.2.2.1]) :: HB | _ + 5 => row x.2.1.1 3 1 x.2.2.1 (ints d.args) :: row (some b11) 66 3 1 [.int .i64 d.kind, .int .i64 d.k, slV aa ao d.args.length acap asp] :: row (some b9) 24 3 1 [.int .i64 F.vars, slV (some x.2.2.2.2.1) 0 (kk + 1) x.2.2.2.2.2, .int .i64 F.top] :: row (some x.2.2.2.2.1) 66 3 x.2.2.2.2.2 (CS ++ [.int .i64 d.kind, .int .i64 d.k, slV x.2.1.1 0 (0 + d.args.length) x.2.2.1]) :: HB) b11 0 [.int .i64 d.kind, .int .i64 d.k, slV aa ao d.args.length acap asp] := by
        intro x c
        match c with
        | 0 => exact Rd.all (by repeat (first | exact List.Mem.head _ | apply List.Mem.tail))
        | 1 => exact Rd.all (by repeat (first | exact List.Mem.head _ | apply List.Mem.tail))
        | 2 => exact Rd.all (by repeat (first | exact List.Mem.head _ | apply List.Mem.tail))
        | 3 => exact Rd.all (by repeat (first | exact List.Mem.head _ | apply List.Mem.tail))
        | 4 => exact Rd.all (by repeat (first | exact List.Mem.head _ | apply List.Mem.tail))
        | _ + 5 => exact Rd.all (by repeat (first | exact List.Mem.head _ | apply List.Mem.tail))
      refine Tri.drawX (X := Nat × OA (ints d.args) × Nat × Nat × Nat × Nat) rfl [(4, slV oa 0 acc.length ocap), (9, .pointer (some ⟨b9, 0, none⟩)), (46, slV (some nb) off F.nodes.length cap), (47, .int .i64 F.nodes.length), (48, .int .i64 k), (11, .pointer (some ⟨b11, 0, none⟩))] [] (fun x => [_, slV oaN 0 kk ocapN, _, _, _, _, slV (some x.1) 0 0 0, _, _, slV x.2.1.1 0 (0 + d.args.length) x.2.2.1, .agg (List.toArray [.int .i64 d.kind, .int .i64 d.k, slV x.2.1.1 0 (0 + d.args.length) x.2.2.1]), slV (some x.2.2.2.1) 0 1 1, slV (some x.2.2.2.2.1) 0 (kk + 1) x.2.2.2.2.2, _, undef]) (fun x c => match c with | 0 => row (some b11) 66 3 1 [.int .i64 d.kind, .int .i64 d.k, slV aa ao d.args.length acap asp] :: row (some b9) 24 3 1 [.int .i64 F.vars, slV oaN 0 kk ocapN, .int .i64 F.top] :: row oaN 66 3 ocapN CS :: HB | 1 => row (some x.1) 3 1 0 [] :: row (some b11) 66 3 1 [.int .i64 d.kind, .int .i64 d.k, slV aa ao d.args.length acap asp] :: row (some b9) 24 3 1 [.int .i64 F.vars, slV oaN 0 kk ocapN, .int .i64 F.top] :: row oaN 66 3 ocapN CS :: HB | 2 => row x.2.1.1 3 1 x.2.2.1 (ints d.args) :: row (some b11) 66 3 1 [.int .i64 d.kind, .int .i64 d.k, slV aa ao d.args.length acap asp] :: row (some b9) 24 3 1 [.int .i64 F.vars, slV oaN 0 kk ocapN, .int .i64 F.top] :: row oaN 66 3 ocapN CS :: HB | 3 => row (some x.2.2.2.1) 66 3 1 [.int .i64 d.kind, .int .i64 d.k, slV x.2.1.1 0 (0 + d.args.length) x.2.2.1] :: row x.2.1.1 3 1 x.2.2.1 (ints d.args) :: row (some b11) 66 3 1 [.int .i64 d.kind, .int .i64 d.k, slV aa ao d.args.length acap asp] :: row (some b9) 24 3 1 [.int .i64 F.vars, slV oaN 0 kk ocapN, .int .i64 F.top] :: row oaN 66 3 ocapN CS :: HB | 4 => row x.2.1.1 3 1 x.2.2.1 (ints d.args) :: row (some b11) 66 3 1 [.int .i64 d.kind, .int .i64 d.k, slV aa ao d.args.length acap asp] :: row (some b9) 24 3 1 [.int .i64 F.vars, slV oaN 0 kk ocapN, .int .i64 F.top] :: row (some x.2.2.2.2.1) 66 3 x.2.2.2.2.2 (CS ++ [.int .i64 d.kind, .int .i64 d.k, slV x.2.1.1 0 (0 + d.args.length) x.2.2.1]) :: HB | _ + 5 => row x.2.1.1 3 1 x.2.2.1 (ints d.args) :: row (some b11) 66 3 1 [.int .i64 d.kind, .int .i64 d.k, slV aa ao d.args.length acap asp] :: row (some b9) 24 3 1 [.int .i64 F.vars, slV (some x.2.2.2.2.1) 0 (kk + 1) x.2.2.2.2.2, .int .i64 F.top] :: row (some x.2.2.2.2.1) 66 3 x.2.2.2.2.2 (CS ++ [.int .i64 d.kind, .int .i64 d.k, slV x.2.1.1 0 (0 + d.args.length) x.2.2.1]) :: HB) [6, 9, 11, 12, 14] (0, OA.zero _, 0, 0, 0, 0) [] rfl rfl ⟨rfl, rfl, rfl, rfl, rfl, rfl, trivial⟩ trivial (by subst hHB hCS hkk; exact (Sp.le (by repeat (first | exact Sp.refl _ | exact Sp.sub (by assumption) | refine Sp.cons (by repeat (first | exact Pick.here | apply Pick.there)) ?_ | exact Sp.nil | apply Sp.skip)))) (by
        refine ⟨?_, ?_, ?_, ?_, ?_, ?_, ?_, ?_, ?_, ?_, ?_, ?_, ?_, ?_, ?_, trivial⟩
        · refine ⟨fun x S c he hw hd hc hcu hm _ => ?_, trivial⟩
          first | refine TOps.fieldB 1 (he _ _ rfl) Try.underlying24 rfl rfl ti22 rfl rfl rfl ?_ | refine TOps.fieldN 1 (he _ _ rfl) Try.underlying24 rfl rfl ti22 rfl rfl rfl ?_
          exact TOps.fin (Nrm.draw x (fun _ _ _ => rfl) rfl (by first | exact Le.refl _ | assumption | exact (by repeat (first | exact Le.refl _ | assumption | apply Le.drop))))
        · refine ⟨fun x S c he hw hd hc hcu hm _ => ?_, trivial⟩
          obtain ⟨h0, -⟩ := hd
          rcases (show c = 0 ∨ c = 1 ∨ c = 2 ∨ c = 3 by have : c ≤ 3 := hcu; omega) with rfl | rfl | rfl | rfl <;> refine TOps.load1 h0 ti22 (Rd.lit (by repeat (first | exact List.Mem.head _ | apply List.Mem.tail)) rfl) rfl ?_
          all_goals exact TOps.fin (Nrm.draw x (fun _ _ _ => rfl) rfl (Le.refl _))
        · refine ⟨fun x S c he hw hd hc hcu hm _ => ?_, trivial⟩
          refine TOps.field0 (he _ _ rfl) Try.underlying66 rfl rfl ti3 rfl rfl rfl ?_
          exact TOps.fin (Nrm.draw x (fun _ _ _ => rfl) rfl (by first | exact Le.refl _ | assumption | exact (by repeat (first | exact Le.refl _ | assumption | apply Le.drop))))
        · refine ⟨fun x S c he hw hd hc hcu hm _ => ?_, trivial⟩
          obtain ⟨h2, -⟩ := hd
          refine TOps.load1 h2 ti3 ((hr5 x c).fld 0 rfl) rfl ?_
          exact TOps.fin (Nrm.draw x (fun _ _ _ => rfl) rfl (by first | exact Le.refl _ | assumption | exact (by repeat (first | exact Le.refl _ | assumption | apply Le.drop))))
        · refine ⟨fun x S c he hw hd hc hcu hm _ => ?_, trivial⟩
          first | refine TOps.fieldB 1 (he _ _ rfl) Try.underlying66 rfl rfl ti3 rfl rfl rfl ?_ | refine TOps.fieldN 1 (he _ _ rfl) Try.underlying66 rfl rfl ti3 rfl rfl rfl ?_
          exact TOps.fin (Nrm.draw x (fun _ _ _ => rfl) rfl (by first | exact Le.refl _ | assumption | exact (by repeat (first | exact Le.refl _ | assumption | apply Le.drop))))
        · refine ⟨fun x S c he hw hd hc hcu hm _ => ?_, trivial⟩
          obtain ⟨h4, -⟩ := hd
          refine TOps.load1 h4 ti3 ((hr5 x c).fld 1 rfl) rfl ?_
          exact TOps.fin (Nrm.draw x (fun _ _ _ => rfl) rfl (by first | exact Le.refl _ | assumption | exact (by repeat (first | exact Le.refl _ | assumption | apply Le.drop))))
        · refine ⟨fun x S c he hw hd hc hcu hm _ => ?_, trivial⟩
          obtain rfl : c = 0 := hm rfl
          refine TOps.buildSlice0 Try.underlying50 ti3 rfl (fun b60 => ?_)
          refine TOps.fin (Nrm.draw (b60, x.2) ?_ rfl (Le.refl _))
          intro j hj hcj; rcases j with _|_|_|_|_|_|_|_|_|_|_|_|_|_|_|j <;> first | rfl | exact absurd rfl hj | exact absurd hcj (by decide)
        · refine ⟨fun x S c he hw hd hc hcu hm _ => ?_, trivial⟩
          first | refine TOps.fieldB 2 (he _ _ rfl) Try.underlying66 rfl rfl ti50 rfl rfl rfl ?_ | refine TOps.fieldN 2 (he _ _ rfl) Try.underlying66 rfl rfl ti50 rfl rfl rfl ?_
          exact TOps.fin (Nrm.draw x (fun _ _ _ => rfl) rfl (by first | exact Le.refl _ | assumption | exact (by repeat (first | exact Le.refl _ | assumption | apply Le.drop))))
        · refine ⟨fun x S c he hw hd hc hcu hm _ => ?_, trivial⟩
          obtain ⟨h7, -⟩ := hd
          refine TOps.load1 h7 ti50 ((hr5 x c).fld 2 rfl) rfl ?_
          exact TOps.fin (Nrm.draw x (fun _ _ _ => rfl) rfl (by first | exact Le.refl _ | assumption | exact (by repeat (first | exact Le.refl _ | assumption | apply Le.drop))))
        · refine ⟨fun x S c he hw hd hc hcu hm _ => ?_, trivial⟩
          obtain ⟨h6, h8, -⟩ := hd
          obtain rfl : c = 1 := hm rfl
          refine TOps.append (ys := ints d.args) h6 h8 Try.underlying50 ti3 rfl (fun _ _ => Upd.here) (RdS.up (RdS.up (RdS.up (RdS.up hBr)))) (by simp) rfl (oneInts d.args) (by omega) (by omega) rfl (fun a' cap' h0' => ?_)
          refine TOps.fin (Nrm.draw (x.1, ⟨a', h0'⟩, cap', x.2.2.2) ?_ rfl (Le.refl _))
          intro j hj hcj; rcases j with _|_|_|_|_|_|_|_|_|_|_|_|_|_|_|j <;> first | rfl | exact absurd rfl hj | exact absurd hcj (by decide)
        · refine ⟨fun x S c he hw hd hc hcu hm _ => ?_, trivial⟩
          obtain ⟨h3, h5, h9, -⟩ := hd
          refine TOps.buildStruct (vs := [(0, _), (1, _), (2, _)]) (xs := [_, _, _]) [(0, 1), (1, 1), (2, 1)] Try.underlying66 ti66 (fun w => by simp) ⟨rfl, h3, rfl, h5, rfl, h9, trivial⟩ rfl rfl ?_
          exact TOps.fin (Nrm.draw x (fun _ _ _ => rfl) rfl (by first | exact Le.refl _ | assumption | exact (by repeat (first | exact Le.refl _ | assumption | apply Le.drop))))
        · refine ⟨fun x S c he hw hd hc hcu hm _ => ?_, trivial⟩
          obtain ⟨h10, -⟩ := hd
          obtain rfl : c = 2 := hm rfl
          refine TOps.buildSlice (vs := [_]) (xs := [_, _, _]) Try.underlying22 ti66 ⟨rfl, h10, trivial⟩ rfl rfl rfl rfl rfl rfl (by decide) rfl (fun b63 => ?_)
          refine TOps.fin (Nrm.draw (x.1, x.2.1, x.2.2.1, b63, x.2.2.2.2) ?_ rfl (Le.refl _))
          intro j hj hcj; rcases j with _|_|_|_|_|_|_|_|_|_|_|_|_|_|_|j <;> first | rfl | exact absurd rfl hj | exact absurd hcj (by decide)
        · refine ⟨fun x S c he hw hd hc hcu hm _ => ?_, trivial⟩
          obtain ⟨h1, h11, h9, -⟩ := hd
          obtain rfl : c = 3 := hm rfl
          refine TOps.appendLit h1 h11 Try.underlying22 ti66 rfl (fun _ _ => (by repeat (first | exact Upd.here | apply Upd.there))) rfl (by rw [hcl2, hkk]) rfl (by omega) (by omega) (by simp) rfl (fun b66 cap66 => ?_)
          refine TOps.fin (Nrm.draw (x.1, x.2.1, x.2.2.1, x.2.2.2.1, b66, cap66) ?_ rfl (Le.refl _))
          intro j hj hcj; rcases j with _|_|_|_|_|_|_|_|_|_|_|_|_|_|_|j <;> first | rfl | exact absurd rfl hj | exact absurd hcj (by decide)
        · refine ⟨fun x S c he hw hd hc hcu hm _ => ?_, trivial⟩
          obtain ⟨h0, h1, h2, h3, h4, h5, h6, h7, h8, h9, h10, h11, h12, -⟩ := hd
          first | refine TOps.fieldB 1 (he _ _ rfl) Try.underlying24 rfl rfl ti22 rfl rfl rfl ?_ | refine TOps.fieldN 1 (he _ _ rfl) Try.underlying24 rfl rfl ti22 rfl rfl rfl ?_
          exact TOps.fin (Nrm.draw x (fun _ _ _ => rfl) rfl (by first | exact Le.refl _ | assumption | exact (by repeat (first | exact Le.refl _ | assumption | apply Le.drop))))
        · refine ⟨fun x S c he hw hd hc hcu hm _ => ?_, trivial⟩
          obtain ⟨h13, h12, _, h0, h1, h2, h3, h4, h5, h6, h7, h8, h9, h10, h11, _, -⟩ := hd
          obtain rfl : c = 4 := hm rfl
          refine TOps.store1 h13 h12 ti22 rfl rfl (by repeat (first | exact Upd.here | apply Upd.there)) (by simp) ?_
          exact TOps.fin (Nrm.draw x (fun _ _ _ => rfl) rfl (by first | exact Le.refl _ | assumption | exact (by repeat (first | exact Le.refl _ | assumption | apply Le.drop))))
        ) (fun w => ?_)
      subst hHB hkk
      refine Nrm.body ((some w.2.2.2.2.1, w.2.2.2.2.2), qsN ++ [(w.2.1.1, 0, w.2.2.1, none)], row w.2.1.1 3 1 w.2.2.1 (ints d.args) :: H3) (by rw [hsn]; exact ⟨ArgsIn.snoc (hp3.le (Le.drop (Le.refl _))) (RdS.ofRowA (List.Mem.head _) w.2.1.2), fun _ => ⟨_, rfl⟩⟩) ⟨rfl, rfl, rfl, rfl, rfl, trivial⟩ (by rw [hsn]; exact (Sp.le (by repeat (first | exact Sp.refl _ | exact Sp.sub (by assumption) | refine Sp.cons (by repeat (first | exact Pick.here | exact Pick.row (by first | (simp; done) | (rw [nsCells_snoc _ _ _ _ hp3.1, ← hCS]; simp [ndCells]; done)) | apply Pick.there)) ?_ | exact Sp.nil | apply Sp.skip))))
    obtain ⟨hp3, hp4⟩ := hp
    rw [List.take_length] at hM hp3 hp4
    obtain ⟨⟨oaN, ocapN⟩, qsN, H3⟩ := z
    dsimp only at hM hS hp3 hp4
    refine Nrm.of hS hM ?_
    refine Nrm.next ?_
    refine Tri.seq (Tri.region ?_)
    refine TOps.move rfl rfl ?_
    refine TOps.loadN rfl ti24 (by first | exact Rd.all (by repeat (first | exact List.Mem.head _ | apply List.Mem.tail)) | (repeat (first | assumption | apply Rd.up))) rfl rfl ?_
    refine TOps.buildSlice (vs := [_]) (xs := [_, _, _]) Try.underlying38 ti24 ⟨rfl, rfl, trivial⟩ rfl rfl rfl rfl rfl rfl (by decide) rfl (fun b69 => ?_)
    refine TOps.appendLit rfl rfl Try.underlying38 ti24 rfl (fun _ _ => (by repeat (first | exact Upd.here | apply Upd.there))) rfl (by rw [hcl]) rfl (by omega) (by omega) (by simp) rfl (fun b17 cap17 => ?_)
    refine TOps.assign rfl rfl ?_
    refine TOps.assign rfl rfl ?_
    refine TOps.next ?_
    refine Tri.ret2 (H' := row (some b17) 24 3 cap17 (fsCells (acc ++ [F]) (qs ++ [(oaN, 0, ocapN, none)])) :: row oaN 66 3 ocapN (nsCells F.nodes qsN) :: (H3 ++ HX)) Try.results23 (fun _ _ h => h) (.tmp rfl) (.tmp rfl) ?_ ⟨some b17, cap17, by rw [hres']; simp; rfl, Le.drop (Le.drop ((Le.sub (List.sublist_append_right _ _)).trans (lX.trans (Le.sub (List.sublist_append_right _ _))))), ?_⟩
    · rw [fsCells_snoc _ _ _ _ hacc.1]; exact (Sp.le (by repeat (first | exact Sp.refl _ | exact Sp.sub (by assumption) | refine Sp.cons (by repeat (first | exact Pick.here | apply Pick.there)) ?_ | exact Sp.nil | apply Sp.skip)))
    · rw [hres']
      refine RFs.ofA (E := 24) (cap := cap17) (List.Mem.head _) ((haX.le (Le.drop (Le.drop (Le.sub (List.sublist_append_right _ _))))).snoc ?_) (fun _ => ⟨_, rfl⟩)
      exact RNodes.ofA (E := 66) (sz := 3) (cap := ocapN) (List.Mem.tail _ (List.Mem.head _)) (hp3.le (Le.drop (Le.drop (Le.sub (List.sublist_append_left _ _))))) hp4
  try simp only [decide_eq_true_eq, decide_eq_false_iff_not, Bool.and_eq_true, Bool.or_eq_true, Bool.not_eq_true', Bool.and_eq_false_iff, Bool.or_eq_false_iff, Bool.not_eq_false', Int.not_lt, Int.not_le, ne_eq, Decidable.not_not, Option.isSome_iff_ne_none, Option.isNone_iff_eq_none] at hc2
  obtain ⟨pp, rest, hpe⟩ : ∃ pp rest, F.proper = pp :: rest := by
    cases h : F.proper with
    | nil => rw [h] at hc2; simp at hc2
    | cons a r => exact ⟨a, r, rfl⟩
  have hpm := proper_cut hg (p := pp) (by rw [hpe]; exact List.mem_cons_self)
  have hpl : pp < 153 := by obtain ⟨q, h1, h2, _⟩ := proper_mem hg (p := pp) (by rw [hpe]; exact List.mem_cons_self); omega
  obtain ⟨la', rfl⟩ : ∃ b, la = some b := hla (by rw [hpe]; simp)
  obtain ⟨HB, hHB⟩ : ∃ HB, HB = row (some la') 3 1 lcap (nats F.proper) :: row (some b1) 24 3 1 (fmCells F (na, off, cap, nsp)) :: row oa 24 3 ocap (fsCells acc qs) :: (N ++ H) := ⟨_, rfl⟩
  have rL : Rd HB la' 0 [.int .i64 pp] := by rw [hHB, hpe]; exact Rd.lit (List.Mem.head _) rfl
  have r1 : Rd HB b1 0 [.int .i64 F.vars, slV na off F.nodes.length cap nsp, .int .i64 F.top] := by rw [hHB]; exact Rd.all (by repeat (first | exact List.Mem.head _ | apply List.Mem.tail))
  have hFB : RF HB (.agg (List.toArray [.int .i64 F.vars, slV na off F.nodes.length cap nsp, .int .i64 F.top])) F := by rw [hHB]; exact hRF.le (Le.drop (Le.drop (Le.drop (Le.refl _))))
  obtain ⟨G1, hG1⟩ : ∃ G1, F.outF (pp : Int) = G1 := ⟨_, rfl⟩
  obtain ⟨G2, hG2⟩ : ∃ G2, F.inF (pp : Int) = G2 := ⟨_, rfl⟩
  obtain ⟨ce, hCE⟩ : ∃ ce, F.cutErr (pp : Int) = ce := ⟨_, rfl⟩
  rw [hG1, hG2, hCE] at hpm
  rw [levF, hpe] at hres
  simp only [hCE, hG1, hG2] at hres
  rw [← hHB]
  refine Tri.fin ?_
  refine Nrm.next ?_
  refine Tri.seq ?_
  have hll : ∀ (x : LX) (D : List Nat), Le (on D [4] [] [fact (RNodes x.n x.a1 0 G1.nodes), fact (RNodes x.n x.a2 0 G2.nodes)] ++ (on D [9] [11] [row (some x.b6) 24 3 1 [.int .i64 0, slV none 0 0 0, .int .i64 0]] ++ (on D [11] [] [row (some x.b6) 24 3 1 [.int .i64 G1.vars, slV x.a1 0 G1.nodes.length x.c1, .int .i64 G1.top]] ++ (on D [10] [12] [row (some x.b7) 24 3 1 [.int .i64 0, slV none 0 0 0, .int .i64 0]] ++ (on D [12] [] [row (some x.b7) 24 3 1 [.int .i64 G2.vars, slV x.a2 0 G2.nodes.length x.c2, .int .i64 G2.top]] ++ (on D [4] [] x.n ++ HB)))))) HB := fun x D => Le.sub (by repeat (first | exact List.Sublist.refl _ | apply sub_on))
  refine Tri.drawM (X := LX) rfl [(1, .pointer (some ⟨b1, 0, none⟩)), (4, slV oa 0 acc.length ocap), (5, slV (some la') 0 F.proper.length lcap)] [] (fun x => [_, _, _, _, .tuple (List.toArray [(.agg (List.toArray [.int .i64 G1.vars, slV x.a1 0 G1.nodes.length x.c1, .int .i64 G1.top]) : Value), (.agg (List.toArray [.int .i64 G2.vars, slV x.a2 0 G2.nodes.length x.c2, .int .i64 G2.top]) : Value), errV 45 ce]), .tuple (List.toArray [(.agg (List.toArray [.int .i64 G1.vars, slV x.a1 0 G1.nodes.length x.c1, .int .i64 G1.top]) : Value), (.agg (List.toArray [.int .i64 G2.vars, slV x.a2 0 G2.nodes.length x.c2, .int .i64 G2.top]) : Value), errV 45 ce]), (.agg (List.toArray [.int .i64 G1.vars, slV x.a1 0 G1.nodes.length x.c1, .int .i64 G1.top]) : Value), (.agg (List.toArray [.int .i64 G2.vars, slV x.a2 0 G2.nodes.length x.c2, .int .i64 G2.top]) : Value), errV 45 ce, .pointer (some ⟨x.b6, 0, none⟩), .pointer (some ⟨x.b7, 0, none⟩), undef, undef, errV 45 ce]) (fun x D => on D [4] [] [fact (RNodes x.n x.a1 0 G1.nodes), fact (RNodes x.n x.a2 0 G2.nodes)] ++ (on D [9] [11] [row (some x.b6) 24 3 1 [.int .i64 0, slV none 0 0 0, .int .i64 0]] ++ (on D [11] [] [row (some x.b6) 24 3 1 [.int .i64 G1.vars, slV x.a1 0 G1.nodes.length x.c1, .int .i64 G1.top]] ++ (on D [10] [12] [row (some x.b7) 24 3 1 [.int .i64 0, slV none 0 0 0, .int .i64 0]] ++ (on D [12] [] [row (some x.b7) 24 3 1 [.int .i64 G2.vars, slV x.a2 0 G2.nodes.length x.c2, .int .i64 G2.top]] ++ (on D [4] [] x.n ++ HB)))))) [4, 9, 10, 11, 12] [0, 0, 2, 6, 15, 31, 63, 63, 63, 0, 0, 1663, 3839, 8191] [[], [10], [9], [9, 10], [4], [4, 10], [4, 9], [4, 9, 10], [4, 9, 10, 11], [4, 9, 10, 11, 12]] ⟨none, 0, none, 0, [], 0, 0⟩ [9, 10, 13] rfl rfl (by kernel_rfl) (by kernel_rfl) ⟨rfl, rfl, rfl, trivial⟩ trivial (by repeat (first | exact Le.refl _ | assumption | apply Le.drop)) (by
    refine ⟨?_, ?_, ?_, ?_, ?_, ?_, ?_, ?_, ?_, ?_, ?_, ?_, ?_, ?_, trivial⟩
    · refine ⟨fun x S D he hw hd hD _ => ?_, trivial⟩
      refine TOps.loadN (he _ _ rfl) ti24 (Rd.le (by first | exact Rd.all (by repeat (first | exact List.Mem.head _ | apply List.Mem.tail)) | (repeat (first | assumption | apply Rd.up))) (hll x D)) rfl rfl ?_
      exact TOps.fin (Nrm.drawM x (fun _ _ _ => rfl) rfl (by first | exact Le.refl _ | assumption | exact (by repeat (first | exact Le.refl _ | assumption | apply Le.drop))))
    · refine ⟨fun x S D he hw hd hD _ => ?_, trivial⟩
      refine TOps.move (he _ _ rfl) rfl ?_
      exact TOps.fin (Nrm.drawM x (fun _ _ _ => rfl) rfl (by first | exact Le.refl _ | assumption | exact (by repeat (first | exact Le.refl _ | assumption | apply Le.drop))))
    · refine ⟨fun x S D he hw hd hD _ => ?_, trivial⟩
      obtain ⟨h1, -⟩ := hd
      refine TOps.indexAddr (off' := 0) h1 rfl Try.underlying50 ti3 (by omega) (by rw [hpe]; simp) (by simp) rfl ?_
      exact TOps.fin (Nrm.drawM x (fun _ _ _ => rfl) rfl (by first | exact Le.refl _ | assumption | exact (by repeat (first | exact Le.refl _ | assumption | apply Le.drop))))
    · refine ⟨fun x S D he hw hd hD _ => ?_, trivial⟩
      obtain ⟨h2, -⟩ := hd
      refine TOps.load1 h2 ti3 (rL.le (hll x D)) rfl ?_
      exact TOps.fin (Nrm.drawM x (fun _ _ _ => rfl) rfl (by first | exact Le.refl _ | assumption | exact (by repeat (first | exact Le.refl _ | assumption | apply Le.drop))))
    · refine ⟨fun x S D he hw hd hD _ => ?_, trivial⟩
      obtain ⟨h0, h3, -⟩ := hd
      replace hD := mem_of_eq (L' := [[], [10], [9], [9, 10]]) hD (by kernel_rfl)
      simp only [List.mem_cons, List.not_mem_nil, or_false] at hD
      rcases hD with rfl | rfl | rfl | rfl
      all_goals refine TOps.call (vs := [_, _]) Try.call12 ⟨h0, h3, trivial⟩ (cutN_g (hFB.le (by first | exact hll x [] | exact hll x [10] | exact hll x [9] | exact hll x [9, 10])) hg.ok (pp : Int) ⟨by omega, by omega⟩) rfl ?_
      all_goals rintro _ _ ⟨a1, c1, a2, c2, N2, rfl, hf1, hf2, rfl⟩
      all_goals rw [hG1] at hf1
      all_goals rw [hG2] at hf2
      all_goals rw [hG1, hG2, hCE]
      all_goals refine TOps.fin (Nrm.drawM ⟨a1, c1, a2, c2, N2, x.b6, x.b7⟩ ?_ rfl (by first | exact (Le.addFact hf2).trans (Le.addFact hf1) | exact (Le.perm List.perm_middle).trans ((Le.addFact hf2).trans (Le.addFact hf1)) | exact Le.midB.trans ((Le.addFact hf2).trans (Le.addFact hf1))))
      all_goals (intro j hj hcj; rcases j with _|_|_|_|_|_|_|_|_|_|_|_|_|_|j <;> first | rfl | exact absurd rfl hj | exact absurd hcj (by decide))
    · refine ⟨fun x S D he hw hd hD _ => ?_, trivial⟩
      obtain ⟨h4, -⟩ := hd
      refine TOps.move h4 rfl ?_
      exact TOps.fin (Nrm.drawM x (fun _ _ _ => rfl) rfl (by first | exact Le.refl _ | assumption | exact (by repeat (first | exact Le.refl _ | assumption | apply Le.drop))))
    · refine ⟨fun x S D he hw hd hD _ => ?_, trivial⟩
      obtain ⟨h5, -⟩ := hd
      refine TOps.extract h5 rfl rfl ?_
      exact TOps.fin (Nrm.drawM x (fun _ _ _ => rfl) rfl (by first | exact Le.refl _ | assumption | exact (by repeat (first | exact Le.refl _ | assumption | apply Le.drop))))
    · refine ⟨fun x S D he hw hd hD _ => ?_, trivial⟩
      obtain ⟨h5, -⟩ := hd
      refine TOps.extract h5 rfl rfl ?_
      exact TOps.fin (Nrm.drawM x (fun _ _ _ => rfl) rfl (by first | exact Le.refl _ | assumption | exact (by repeat (first | exact Le.refl _ | assumption | apply Le.drop))))
    · refine ⟨fun x S D he hw hd hD _ => ?_, trivial⟩
      obtain ⟨h5, -⟩ := hd
      refine TOps.extract h5 rfl rfl ?_
      exact TOps.fin (Nrm.drawM x (fun _ _ _ => rfl) rfl (by first | exact Le.refl _ | assumption | exact (by repeat (first | exact Le.refl _ | assumption | apply Le.drop))))
    · refine ⟨fun x S D he hw hd hD _ => ?_, trivial⟩
      replace hD := mem_of_eq (L' := [[], [10], [4], [4, 10]]) hD (by kernel_rfl)
      simp only [List.mem_cons, List.not_mem_nil, or_false] at hD
      rcases hD with rfl | rfl | rfl | rfl
      all_goals refine TOps.alloc ti24 rfl (fun b6 => ?_)
      all_goals refine TOps.fin (Nrm.drawM {x with b6 := b6} ?_ rfl (Sp.le (by repeat (first | exact Sp.refl _ | exact Sp.sub (by assumption) | refine Sp.cons (by repeat (first | exact Pick.here | apply Pick.there)) ?_ | exact Sp.nil | apply Sp.skip))))
      all_goals (intro j hj hcj; rcases j with _|_|_|_|_|_|_|_|_|_|_|_|_|_|j <;> first | rfl | exact absurd rfl hj | exact absurd hcj (by decide))
    · refine ⟨fun x S D he hw hd hD _ => ?_, trivial⟩
      replace hD := mem_of_eq (L' := [[], [9], [4], [4, 9]]) hD (by kernel_rfl)
      simp only [List.mem_cons, List.not_mem_nil, or_false] at hD
      rcases hD with rfl | rfl | rfl | rfl
      all_goals refine TOps.alloc ti24 rfl (fun b7 => ?_)
      all_goals refine TOps.fin (Nrm.drawM {x with b7 := b7} ?_ rfl (Sp.le (by repeat (first | exact Sp.refl _ | exact Sp.sub (by assumption) | refine Sp.cons (by repeat (first | exact Pick.here | apply Pick.there)) ?_ | exact Sp.nil | apply Sp.skip))))
      all_goals (intro j hj hcj; rcases j with _|_|_|_|_|_|_|_|_|_|_|_|_|_|j <;> first | rfl | exact absurd rfl hj | exact absurd hcj (by decide))
    · refine ⟨fun x S D he hw hd hD _ => ?_, trivial⟩
      obtain ⟨h9, h6, h4, h0, h1, h2, h3, _, h5, _, _, h10, -⟩ := hd
      replace hD := mem_of_eq (L' := [[4, 9, 10]]) hD (by kernel_rfl)
      simp only [List.mem_cons, List.not_mem_nil, or_false] at hD
      rcases hD with rfl
      all_goals refine TOps.storeN h9 h6 ti24 rfl rfl (by repeat (first | exact Upd.here | apply Upd.there)) (by simp) ?_
      all_goals exact TOps.fin (Nrm.drawM x (fun _ _ _ => rfl) rfl (Sp.le (by repeat (first | exact Sp.refl _ | exact Sp.sub (by assumption) | refine Sp.cons (by repeat (first | exact Pick.here | apply Pick.there)) ?_ | exact Sp.nil | apply Sp.skip))))
    · refine ⟨fun x S D he hw hd hD _ => ?_, trivial⟩
      obtain ⟨h10, h7, h11, h0, h1, h2, h3, h4, h5, h6, _, h9, _, _, -⟩ := hd
      replace hD := mem_of_eq (L' := [[4, 9, 10, 11]]) hD (by kernel_rfl)
      simp only [List.mem_cons, List.not_mem_nil, or_false] at hD
      rcases hD with rfl
      all_goals refine TOps.storeN h10 h7 ti24 rfl rfl (by repeat (first | exact Upd.here | apply Upd.there)) (by simp) ?_
      all_goals exact TOps.fin (Nrm.drawM x (fun _ _ _ => rfl) rfl (Sp.le (by repeat (first | exact Sp.refl _ | exact Sp.sub (by assumption) | refine Sp.cons (by repeat (first | exact Pick.here | apply Pick.there)) ?_ | exact Sp.nil | apply Sp.skip))))
    · refine ⟨fun x S D he hw hd hD _ => ?_, trivial⟩
      obtain ⟨h8, h12, h0, h1, h2, h3, h4, h5, h6, h7, _, h9, h10, h11, _, -⟩ := hd
      refine TOps.assign h8 rfl ?_
      exact TOps.fin (Nrm.drawM x (fun _ _ _ => rfl) rfl (by first | exact Le.refl _ | assumption | exact (by repeat (first | exact Le.refl _ | assumption | apply Le.drop))))
    ) (fun g => ?_)
  refine Nrm.fact (List.Mem.head _) (fun f1 => ?_)
  refine Nrm.fact (List.Mem.tail _ (List.Mem.head _)) (fun f2 => ?_)
  refine Nrm.le (H' := row (some g.b6) 24 3 1 [.int .i64 G1.vars, slV g.a1 0 G1.nodes.length g.c1, .int .i64 G1.top] :: row (some g.b7) 24 3 1 [.int .i64 G2.vars, slV g.a2 0 G2.nodes.length g.c2, .int .i64 G2.top] :: row (some b1) 24 3 1 (fmCells F (na, off, cap, nsp)) :: row oa 24 3 ocap (fsCells acc qs) :: ((g.n ++ N) ++ H)) ?_ ?_
  · subst hHB
    rw [List.append_assoc]
    exact Le.outC
  have hNN : Le ((g.n ++ N) ++ H) (N ++ H) := by rw [List.append_assoc]; exact Le.sub (List.sublist_append_right _ _)
  have hNg : Le ((g.n ++ N) ++ H) g.n := by rw [List.append_assoc]; exact Le.sub (List.sublist_append_left _ _)
  replace f1 := f1.le hNg; replace f2 := f2.le hNg
  have hacc' := hacc.le hNN
  refine Nrm.next ?_
  refine Tri.seq ?_
  refine Tri.seq (Tri.region ?_)
  refine TOps.move rfl rfl ?_
  refine TOps.neqNil (T := 45) (o := ce) rfl Try.underlying28 rfl ?_
  refine TOps.next ?_
  refine Tri.cond rfl (fun hc3 => ?_) (fun hc3 => ?_)
  · try simp only [decide_eq_true_eq, decide_eq_false_iff_not, Bool.and_eq_true, Bool.or_eq_true, Bool.not_eq_true', Bool.and_eq_false_iff, Bool.or_eq_false_iff, Bool.not_eq_false', Int.not_lt, Int.not_le, ne_eq, Decidable.not_not, Option.isSome_iff_ne_none, Option.isNone_iff_eq_none] at hc3
    have hres' : RES = ([], some 4) := by
      rcases hpm with ⟨_, h⟩ | ⟨_, h, _⟩
      · rw [h] at hres; exact hres.symm
      · rw [h] at hc3; simp at hc3
    have hce4 : ce = some 4 := by
      rcases hpm with ⟨_, h⟩ | ⟨_, h, _⟩
      · exact h
      · rw [h] at hc3; simp at hc3
    refine Tri.seq (Tri.region ?_)
    refine TOps.move rfl rfl ?_
    refine TOps.assign rfl rfl ?_
    refine TOps.assign rfl rfl ?_
    refine TOps.next ?_
    refine Tri.ret2 (H' := H) Try.results23 (fun _ _ h => h) (.tmp rfl) (.tmp rfl) ?_ ⟨none, 0, by rw [hres', hce4]; rfl, Le.refl _, by rw [hres']; exact .inl rfl⟩
    exact Le.sub (List.Sublist.cons _ (List.Sublist.cons _ (List.Sublist.cons _ (List.Sublist.cons _ (List.sublist_append_right _ _)))))
  try simp only [decide_eq_true_eq, decide_eq_false_iff_not, Bool.and_eq_true, Bool.or_eq_true, Bool.not_eq_true', Bool.and_eq_false_iff, Bool.or_eq_false_iff, Bool.not_eq_false', Int.not_lt, Int.not_le, ne_eq, Decidable.not_not, Option.isSome_iff_ne_none, Option.isNone_iff_eq_none] at hc3
  have hcn : ce = none := by
    rcases hpm with ⟨_, h⟩ | ⟨_, h, _⟩
    · rw [h] at hc3; simp at hc3
    · exact h
  obtain ⟨hv24, hgo, hgi, hvo, hvi⟩ : F.vars < 24 ∧ G1.Good ∧ G2.Good ∧ G1.vars = F.vars + 1 ∧ G2.vars = F.vars := by
    rcases hpm with ⟨_, h⟩ | ⟨h1, _, h2⟩
    · rw [hcn] at h; cases h
    · exact ⟨h1, h2⟩
  rw [hcn] at hres
  have hvon : G1.vars.toNat = F.vars.toNat + 1 := by omega
  refine Tri.fin ?_
  refine Nrm.next ?_
  refine Tri.seq (Tri.region ?_)
  refine TOps.move rfl rfl ?_
  refine TOps.loadN rfl ti24 (by first | exact Rd.all (by repeat (first | exact List.Mem.head _ | apply List.Mem.tail)) | (repeat (first | assumption | apply Rd.up))) rfl rfl ?_
  refine TOps.buildSlice (vs := [_]) (xs := [_, _, _]) Try.underlying38 ti24 ⟨rfl, rfl, trivial⟩ rfl rfl rfl rfl rfl rfl (by decide) rfl (fun b37 => ?_)
  refine TOps.appendLit rfl rfl Try.underlying38 ti24 rfl (fun _ _ => (by repeat (first | exact Upd.here | apply Upd.there))) rfl (by rw [hcl]) rfl (by omega) (by omega) (by simp) rfl (fun b33 cap33 => ?_)
  refine TOps.assign rfl rfl ?_
  refine TOps.next ?_
  refine Tri.region ?_
  refine TOps.loadN rfl ti24 (by first | exact Rd.all (by repeat (first | exact List.Mem.head _ | apply List.Mem.tail)) | (repeat (first | assumption | apply Rd.up))) rfl rfl ?_
  refine TOps.storeN rfl rfl ti24 rfl rfl (by repeat (first | exact Upd.here | apply Upd.there)) (by simp [fmCells]) ?_
  refine TOps.fin ?_
  refine Nrm.unB ?_
  refine Nrm.loop (G1, (g.a1, 0, g.c1, none), acc ++ [G2], qs ++ [(g.a2, 0, g.c2, none)], (some b33, cap33), g.n ++ N) ⟨hgo, f1, hacc'.snoc f2, fun _ => ⟨_, rfl⟩, by simp; omega, by dsimp only; rw [hvon, show 25 - (F.vars.toNat + 1) = fuel by omega]; exact hres⟩ (by dsimp only; omega) ⟨rfl, (by show _ = some (slV (some b33) 0 (acc ++ [G2]).length cap33); rw [List.length_append]; rfl), trivial⟩ (Sp.le (by repeat (first | exact Sp.refl _ | exact Sp.sub (by assumption) | refine Sp.cons (by repeat (first | exact Pick.here | exact Pick.row (by first | (rw [fsCells_snoc _ _ _ _ hacc.1]; rfl) | rfl) | apply Pick.there)) ?_ | exact Sp.nil | apply Sp.skip)))
end Go.Proofs
