import Derived.Test.YtbpjjepiblomaaaR30
import Derived.Test.YtbpjjepiblomaaaB30
import Derived.Test.YtbpjjepiblomaaaGL58
namespace Go.Proofs
open Go.GL
set_option linter.unusedVariables false
set_option linter.unusedSimpArgs false
theorem back_g {H : List Ent} {a sp : Option Nat} {off cap : Nat} {Fs : List Fm} (hr : RFs H a off Fs sp) (hl : Fs.length ≤ 1000000) (hk : ∀ (i : Nat) (hi : i < Fs.length), Fs[i].ok) {RES : Fm × Option Int} (hR : backR Fs = RES) :
    Gives Try.prog 30 [slV a off Fs.length cap sp] H (fun u H' => ∃ tv, u = .tuple (List.toArray [tv, errV 45 RES.2]) ∧ NewF RES.1 H tv H') := by
  unfold backR at hR
  refine Gives.enter Try.func30 rfl (by exact Try.ntmps30) rfl ?_
  refine Tri.seq (Tri.region ?_)
  refine TOps.alloc ti24 rfl (fun b2 => ?_)
  refine TOps.assign rfl rfl ?_
  refine TOps.next ?_
  refine Tri.seq ?_
  refine Tri.seq (Tri.region ?_)
  refine TOps.move rfl rfl ?_
  refine TOps.len rfl Try.underlying38 rfl ?_
  refine TOps.eqlI rfl rfl rfl ?_
  refine TOps.next ?_
  refine Tri.cond rfl (fun hc1 => ?_) (fun hc1 => ?_)
  · try simp only [decide_eq_true_eq, decide_eq_false_iff_not, Bool.and_eq_true, Bool.or_eq_true, Bool.not_eq_true', Bool.and_eq_false_iff, Bool.or_eq_false_iff, Bool.not_eq_false', Int.not_lt, Int.not_le, ne_eq, Decidable.not_not, Option.isSome_iff_ne_none, Option.isNone_iff_eq_none] at hc1
    rw [if_pos (by omega)] at hR
    refine Tri.seq (Tri.region ?_)
    refine TOps.buildStruct (vs := []) (xs := [_, _, _]) [(0, 1), (1, 1), (2, 1)] Try.underlying24 ti24 (fun w => by simp) trivial rfl rfl ?_
    refine TOps.makeInterface rfl Try.underlying45 rfl rfl ?_
    refine TOps.storeN rfl rfl ti24 rfl rfl (by repeat (first | exact Upd.here | apply Upd.there)) (by first | decide | (simp; done) | (simp; omega)) ?_
    refine TOps.assign rfl rfl ?_
    refine TOps.next ?_
    refine Tri.ret2 (H' := _) Try.results30 (fun _ _ h => h) (.cellN rfl rfl ti24 (Rd.all (by repeat (first | exact List.Mem.head _ | apply List.Mem.tail))) rfl) (.tmp rfl) (Le.refl _) ⟨_, by rw [← hR]; rfl, Le.drop (Le.refl _), List.Sublist.cons _ (List.Sublist.refl _), ?_⟩
    rw [← hR]; exact ⟨none, 0, 0, none, rfl, .inl rfl⟩
  try simp only [decide_eq_true_eq, decide_eq_false_iff_not, Bool.and_eq_true, Bool.or_eq_true, Bool.not_eq_true', Bool.and_eq_false_iff, Bool.or_eq_false_iff, Bool.not_eq_false', Int.not_lt, Int.not_le, ne_eq, Decidable.not_not, Option.isSome_iff_ne_none, Option.isNone_iff_eq_none] at hc1
  rw [if_neg (by omega)] at hR
  have hlast : Fs.length - 1 < Fs.length := by omega
  rw [getD_at hlast] at hR
  have hkL := hk _ hlast
  obtain ⟨fb, na, no, nc, ns, rfl, rfl, hcl, hNl⟩ := hr.at hlast
  obtain ⟨FL, hFL⟩ : ∃ FL, FL = Fs[Fs.length - 1] := ⟨_, rfl⟩
  rw [← hFL] at hR hkL hcl hNl
  refine Tri.fin ?_
  refine Nrm.next ?_
  refine Tri.seq (Tri.region ?_)
  refine TOps.move rfl rfl ?_
  refine TOps.move rfl rfl ?_
  refine TOps.len rfl Try.underlying38 rfl ?_
  refine TOps.sub (r := ((Fs.length - 1 : Nat) : Int)) rfl rfl (by rw [wrapI (by omega) (by omega)]; omega) rfl ?_
  refine TOps.indexAddr (off' := off + (Fs.length - 1) * 3) rfl rfl Try.underlying38 ti24 (by omega) (by omega) (by simp) rfl ?_
  refine TOps.loadN (vs := [.int .i64 FL.vars, slV na no FL.nodes.length nc ns, .int .i64 FL.top]) rfl ti24 (by repeat (first | exact hcl | apply Rd.up)) rfl rfl ?_
  refine TOps.alloc ti24 rfl (fun b4 => ?_)
  refine TOps.storeN rfl rfl ti24 rfl rfl (by repeat (first | exact Upd.here | apply Upd.there)) (by first | decide | (simp; done) | (simp; omega)) ?_
  refine TOps.next ?_
  refine Tri.seq ?_
  refine Tri.seq (Tri.region ?_)
  refine TOps.loadN rfl ti24 (by first | exact Rd.all (by repeat (first | exact List.Mem.head _ | apply List.Mem.tail)) | (repeat (first | assumption | apply Rd.up))) rfl rfl ?_
  refine TOps.call (vs := [_]) Try.call22 ⟨rfl, trivial⟩ (check_g (F := FL) ⟨na, no, nc, ns, rfl, hNl.le (Le.drop (Le.drop (Le.refl _)))⟩ hkL) rfl ?_
  rintro _ _ ⟨rfl, rfl⟩
  refine TOps.assign rfl rfl ?_
  refine TOps.next ?_
  refine Tri.seq (Tri.region ?_)
  refine TOps.move rfl rfl ?_
  refine TOps.neqNil rfl Try.underlying28 rfl ?_
  refine TOps.next ?_
  refine Tri.cond rfl (fun hc2 => ?_) (fun hc2 => ?_)
  · try simp only [decide_eq_true_eq, decide_eq_false_iff_not, Bool.and_eq_true, Bool.or_eq_true, Bool.not_eq_true', Bool.and_eq_false_iff, Bool.or_eq_false_iff, Bool.not_eq_false', Int.not_lt, Int.not_le, ne_eq, Decidable.not_not, Option.isSome_iff_ne_none, Option.isNone_iff_eq_none] at hc2
    obtain ⟨er, her⟩ := Option.ne_none_iff_exists'.1 hc2
    rw [her] at hR
    refine Tri.seq (Tri.region ?_)
    refine TOps.buildStruct (vs := []) (xs := [_, _, _]) [(0, 1), (1, 1), (2, 1)] Try.underlying24 ti24 (fun w => by simp) trivial rfl rfl ?_
    refine TOps.move rfl rfl ?_
    refine TOps.storeN rfl rfl ti24 rfl rfl (by repeat (first | exact Upd.here | apply Upd.there)) (by first | decide | (simp; done) | (simp; omega)) ?_
    refine TOps.assign rfl rfl ?_
    refine TOps.next ?_
    refine Tri.ret2 (H' := _) Try.results30 (fun _ _ h => h) (.cellN rfl rfl ti24 (Rd.all (by repeat (first | exact List.Mem.head _ | apply List.Mem.tail))) rfl) (.tmp rfl) (Le.refl _) ⟨_, by rw [← hR, her], Le.drop (Le.drop (Le.refl _)), List.Sublist.cons _ (List.Sublist.cons _ (List.Sublist.refl _)), ?_⟩
    rw [← hR]; exact ⟨none, 0, 0, none, rfl, .inl rfl⟩
  try simp only [decide_eq_true_eq, decide_eq_false_iff_not, Bool.and_eq_true, Bool.or_eq_true, Bool.not_eq_true', Bool.and_eq_false_iff, Bool.or_eq_false_iff, Bool.not_eq_false', Int.not_lt, Int.not_le, ne_eq, Decidable.not_not, Option.isSome_iff_ne_none, Option.isNone_iff_eq_none] at hc2
  have hgL := (Fm.good_iff FL).1 (by simpa using hc2)
  rw [(Fm.good_iff FL).2 hgL] at hR
  have g2 := hgL.n1
  obtain ⟨HX, hHX⟩ : ∃ HX, HX = row (some b4) 24 3 1 [.int .i64 FL.vars, slV na no FL.nodes.length nc ns, .int .i64 FL.top] :: H := ⟨_, rfl⟩
  have lX : Le HX H := by rw [hHX]; exact Le.drop (Le.refl _)
  have sX : H.Sublist HX := by rw [hHX]; exact List.Sublist.cons _ (List.Sublist.refl _)
  have hNX := hNl.le lX
  refine Tri.fin ?_
  refine Nrm.next ?_
  refine Tri.seq (Tri.region ?_)
  refine TOps.field0 rfl Try.underlying24 rfl rfl ti3 rfl rfl rfl ?_
  refine TOps.load1 rfl ti3 (by first | exact Rd.lit (by repeat (first | exact List.Mem.head _ | apply List.Mem.tail)) rfl | (repeat (first | assumption | exact Rd.fld (by assumption) 0 rfl | apply Rd.up))) rfl ?_
  first | refine TOps.fieldB 2 rfl Try.underlying24 rfl rfl ti3 rfl rfl rfl ?_ | refine TOps.fieldN 2 rfl Try.underlying24 rfl rfl ti3 rfl rfl rfl ?_
  refine TOps.load1 rfl ti3 (by first | exact Rd.lit (by repeat (first | exact List.Mem.head _ | apply List.Mem.tail)) rfl | (repeat (first | assumption | exact Rd.fld (by assumption) 2 rfl | apply Rd.up))) rfl ?_
  refine TOps.buildStruct (vs := [(0, _), (2, _)]) (xs := [_, _, _]) [(0, 1), (1, 1), (2, 1)] Try.underlying24 ti24 (fun w => by simp) ⟨rfl, rfl, rfl, rfl, trivial⟩ rfl rfl ?_
  refine TOps.alloc ti24 rfl (fun b6 => ?_)
  refine TOps.storeN rfl rfl ti24 rfl rfl (by repeat (first | exact Upd.here | apply Upd.there)) (by first | decide | (simp; done) | (simp; omega)) ?_
  refine TOps.next ?_
  refine Tri.seq ?_
  refine Tri.seq (Tri.region ?_)
  first | refine TOps.fieldB 1 rfl Try.underlying24 rfl rfl ti22 rfl rfl rfl ?_ | refine TOps.fieldN 1 rfl Try.underlying24 rfl rfl ti22 rfl rfl rfl ?_
  refine TOps.load1 rfl ti22 (by first | exact Rd.lit (by repeat (first | exact List.Mem.head _ | apply List.Mem.tail)) rfl | (repeat (first | assumption | exact Rd.fld (by assumption) 1 rfl | apply Rd.up))) rfl ?_
  refine TOps.len rfl Try.underlying22 rfl ?_
  refine TOps.move rfl rfl ?_
  refine TOps.next ?_
  refine Tri.range (X := (Option Nat × Nat) × List SA × List Ent) (fun z k => [(0, slV (some fb) off Fs.length cap none), (2, .pointer (some ⟨b2, 0, none⟩)), (6, .pointer (some ⟨b6, 0, none⟩)), (35, slV na no FL.nodes.length nc ns)]) (fun z k => row (some b6) 24 3 1 [.int .i64 FL.vars, slV z.1.1 0 k z.1.2, .int .i64 FL.top] :: row z.1.1 66 3 z.1.2 (nsCells (FL.nodes.take k) z.2.1) :: row (some b2) 24 3 1 [.int .i64 0, slV none 0 0 0, .int .i64 0] :: (z.2.2 ++ HX)) (fun z k => ArgsIn z.2.2 (FL.nodes.take k) z.2.1 ∧ (FL.nodes.take k ≠ [] → ∃ b, z.1.1 = some b)) (by omega) rfl rfl rfl (fun _ _ => ⟨rfl, rfl, rfl, rfl⟩) ((none, 0), [], []) ⟨ArgsIn.nil, fun h => absurd rfl h⟩ ⟨rfl, rfl, rfl, rfl, trivial⟩ (by subst hHX; exact Le.addNil.trans (Sp.le (by repeat (first | exact Sp.refl _ | exact Sp.sub (by assumption) | refine Sp.cons (by repeat (first | exact Pick.here | apply Pick.there)) ?_ | exact Sp.nil | apply Sp.skip)))) (fun k z hlt hp => ?_) (fun z ac wc hp hS hM => ?_)
  · skip
    obtain ⟨⟨oaN, ocapN⟩, qsN, H3⟩ := z
    obtain ⟨hp3, hp4⟩ := hp
    dsimp only at hp3 hp4 ⊢
    have hp1 : Le (H3 ++ HX) HX := Le.sub (List.sublist_append_right _ _)
    obtain ⟨nb, aa, ao, acap, asp, rfl, rfl, hn⟩ := hNX.at hlt
    have hfi := hgL.fits k hlt
    have hcells := hn.cells
    have hal2 := hfi.len
    obtain ⟨d, hd⟩ : ∃ d, d = FL.nodes[k] := ⟨_, rfl⟩
    rw [← hd] at hcells hn hal2
    replace hcells := hcells.le hp1; replace hn := hn.le hp1
    have htk : (FL.nodes.take k).length = k := by rw [List.length_take]; omega
    have hsn : FL.nodes.take (k + 1) = FL.nodes.take k ++ [d] := by rw [List.take_succ_eq_append_getElem hlt, ← hd]
    refine Tri.seq (Tri.region ?_)
    refine TOps.indexAddr (off' := no + k * 3) rfl rfl Try.underlying22 ti66 (by omega) (by omega) (by simp) rfl ?_
    refine TOps.loadN (vs := [.int .i64 d.kind, .int .i64 d.k, slV aa ao d.args.length acap asp]) rfl ti66 (by repeat (first | exact hcells | apply Rd.up)) rfl rfl ?_
    refine TOps.alloc ti66 rfl (fun b8 => ?_)
    refine TOps.storeN rfl rfl ti66 rfl rfl (by repeat (first | exact Upd.here | apply Upd.there)) (by first | decide | (simp; done) | (simp; omega)) ?_
    refine TOps.next ?_
    obtain ⟨CS, hCS⟩ : ∃ CS, CS = nsCells (FL.nodes.take k) qsN := ⟨_, rfl⟩
    have hcl2 : CS.length = k * 3 := by rw [hCS, nsCells_length _ _ hp3.1, htk]
    obtain ⟨kk, hkk⟩ : ∃ kk, k = kk := ⟨_, rfl⟩
    obtain ⟨HB, hHB⟩ : ∃ HB, HB = row (some b2) 24 3 1 [.int .i64 0, slV none 0 0 0, .int .i64 0] :: (H3 ++ HX) := ⟨_, rfl⟩
    have hBr : RInts HB aa ao d.args asp := by rw [hHB]; exact RdS.up hn.args
    have hr5 : ∀ (x : Nat × OA (ints d.args) × Nat × Nat × Nat × Nat) (c : Nat), Rd (match c with | 0 => row (some b8) 66 3 1 [.int .i64 d.kind, .int .i64 d.k, slV aa ao d.args.length acap asp] :: row (some b6) 24 3 1 [.int .i64 FL.vars, slV oaN 0 kk ocapN, .int .i64 FL.top] :: row oaN 66 3 ocapN CS :: HB | 1 => row (some x.1) 3 1 0 [] :: row (some b8) 66 3 1 [.int .i64 d.kind, .int .i64 d.k, slV aa ao d.args.length acap asp] :: row (some b6) 24 3 1 [.int .i64 FL.vars, slV oaN 0 kk ocapN, .int .i64 FL.top] :: row oaN 66 3 ocapN CS :: HB | 2 => row x.2.1.1 3 1 x.2.2.1 (ints d.args) :: row (some b8) 66 3 1 [.int .i64 d.kind, .int .i64 d.k, slV aa ao d.args.length acap asp] :: row (some b6) 24 3 1 [.int .i64 FL.vars, slV oaN 0 kk ocapN, .int .i64 FL.top] :: row oaN 66 3 ocapN CS :: HB | 3 => row (some x.2.2.2.1) 66 3 1 [.int .i64 d.kind, .int .i64 d.k, slV x.2.1.1 0 (0 + d.args.length) x.2.2.1] :: row x.2.1.1 3 1 x.2.2.1 (ints d.args) :: row (some b8) 66 3 1 [.int .i64 d.kind, .int .i64 d.k, slV aa ao d.args.length acap asp] :: row (some b6) 24 3 1 [.int .i64 FL.vars, slV oaN 0 kk ocapN, .int .i64 FL.top] :: row oaN 66 3 ocapN CS :: HB | 4 => row x.2.1.1 3 1 x.2.2.1 (ints d.args) :: row (some b8) 66 3 1 [.int .i64 d.kind, .int .i64 d.k, slV aa ao d.args.length acap asp] :: row (some b6) 24 3 1 [.int .i64 FL.vars, slV oaN 0 kk ocapN, .int .i64 FL.top] :: row (some x.2.2.2.2.1) 66 3 x.2.2.2.2.2 (CS ++ [.int .i64 d.kind, .int .i64 d.k, slV x.2.1.1 0 (0 + d.args.length) x.2.2.1]) :: HB | _ + 5 => row x.2.1.1 3 1 x.2.2.1 (ints d.args) :: row (some b8) 66 3 1 [.int .i64 d.kind, .int .i64 d.k, slV aa ao d.args.length acap asp] :: row (some b6) 24 3 1 [.int .i64 FL.vars, slV (some x.2.2.2.2.1) 0 (kk + 1) x.2.2.2.2.2, .int .i64 FL.top] :: row (some x.2.2.2.2.1) 66 3 x.2.2.2.2.2 (CS ++ [.int .i64 d.kind, .int .i64 d.k, slV x.2.1.1 0 (0 + d.args.length) x.2.2.1]) :: HB) b8 0 [.int .i64 d.kind, .int .i64 d.k, slV aa ao d.args.length acap asp] := by
      intro x c
      match c with
      | 0 => exact Rd.all (by repeat (first | exact List.Mem.head _ | apply List.Mem.tail))
      | 1 => exact Rd.all (by repeat (first | exact List.Mem.head _ | apply List.Mem.tail))
      | 2 => exact Rd.all (by repeat (first | exact List.Mem.head _ | apply List.Mem.tail))
      | 3 => exact Rd.all (by repeat (first | exact List.Mem.head _ | apply List.Mem.tail))
      | 4 => exact Rd.all (by repeat (first | exact List.Mem.head _ | apply List.Mem.tail))
      | _ + 5 => exact Rd.all (by repeat (first | exact List.Mem.head _ | apply List.Mem.tail))
    refine Tri.drawX (X := Nat × OA (ints d.args) × Nat × Nat × Nat × Nat) rfl [(0, slV (some fb) off Fs.length cap none), (2, .pointer (some ⟨b2, 0, none⟩)), (6, .pointer (some ⟨b6, 0, none⟩)), (35, slV (some nb) no FL.nodes.length nc), (36, .int .i64 FL.nodes.length), (37, .int .i64 k), (8, .pointer (some ⟨b8, 0, none⟩))] [] (fun x => [_, slV oaN 0 kk ocapN, _, _, _, _, slV (some x.1) 0 0 0, _, _, slV x.2.1.1 0 (0 + d.args.length) x.2.2.1, .agg (List.toArray [.int .i64 d.kind, .int .i64 d.k, slV x.2.1.1 0 (0 + d.args.length) x.2.2.1]), slV (some x.2.2.2.1) 0 1 1, slV (some x.2.2.2.2.1) 0 (kk + 1) x.2.2.2.2.2, _, undef]) (fun x c => match c with | 0 => row (some b8) 66 3 1 [.int .i64 d.kind, .int .i64 d.k, slV aa ao d.args.length acap asp] :: row (some b6) 24 3 1 [.int .i64 FL.vars, slV oaN 0 kk ocapN, .int .i64 FL.top] :: row oaN 66 3 ocapN CS :: HB | 1 => row (some x.1) 3 1 0 [] :: row (some b8) 66 3 1 [.int .i64 d.kind, .int .i64 d.k, slV aa ao d.args.length acap asp] :: row (some b6) 24 3 1 [.int .i64 FL.vars, slV oaN 0 kk ocapN, .int .i64 FL.top] :: row oaN 66 3 ocapN CS :: HB | 2 => row x.2.1.1 3 1 x.2.2.1 (ints d.args) :: row (some b8) 66 3 1 [.int .i64 d.kind, .int .i64 d.k, slV aa ao d.args.length acap asp] :: row (some b6) 24 3 1 [.int .i64 FL.vars, slV oaN 0 kk ocapN, .int .i64 FL.top] :: row oaN 66 3 ocapN CS :: HB | 3 => row (some x.2.2.2.1) 66 3 1 [.int .i64 d.kind, .int .i64 d.k, slV x.2.1.1 0 (0 + d.args.length) x.2.2.1] :: row x.2.1.1 3 1 x.2.2.1 (ints d.args) :: row (some b8) 66 3 1 [.int .i64 d.kind, .int .i64 d.k, slV aa ao d.args.length acap asp] :: row (some b6) 24 3 1 [.int .i64 FL.vars, slV oaN 0 kk ocapN, .int .i64 FL.top] :: row oaN 66 3 ocapN CS :: HB | 4 => row x.2.1.1 3 1 x.2.2.1 (ints d.args) :: row (some b8) 66 3 1 [.int .i64 d.kind, .int .i64 d.k, slV aa ao d.args.length acap asp] :: row (some b6) 24 3 1 [.int .i64 FL.vars, slV oaN 0 kk ocapN, .int .i64 FL.top] :: row (some x.2.2.2.2.1) 66 3 x.2.2.2.2.2 (CS ++ [.int .i64 d.kind, .int .i64 d.k, slV x.2.1.1 0 (0 + d.args.length) x.2.2.1]) :: HB | _ + 5 => row x.2.1.1 3 1 x.2.2.1 (ints d.args) :: row (some b8) 66 3 1 [.int .i64 d.kind, .int .i64 d.k, slV aa ao d.args.length acap asp] :: row (some b6) 24 3 1 [.int .i64 FL.vars, slV (some x.2.2.2.2.1) 0 (kk + 1) x.2.2.2.2.2, .int .i64 FL.top] :: row (some x.2.2.2.2.1) 66 3 x.2.2.2.2.2 (CS ++ [.int .i64 d.kind, .int .i64 d.k, slV x.2.1.1 0 (0 + d.args.length) x.2.2.1]) :: HB) [6, 9, 11, 12, 14] (0, OA.zero _, 0, 0, 0, 0) [] rfl rfl ⟨rfl, rfl, rfl, rfl, rfl, rfl, rfl, trivial⟩ trivial (by subst hHB hCS hkk; exact (Sp.le (by repeat (first | exact Sp.refl _ | exact Sp.sub (by assumption) | refine Sp.cons (by repeat (first | exact Pick.here | apply Pick.there)) ?_ | exact Sp.nil | apply Sp.skip)))) (by
      refine ⟨?_, ?_, ?_, ?_, ?_, ?_, ?_, ?_, ?_, ?_, ?_, ?_, ?_, ?_, ?_, trivial⟩
      · refine ⟨fun x S c he hw hd hc hcu hm _ => ?_, trivial⟩
        first | refine TOps.fieldB 1 (he _ _ rfl) Try.underlying24 rfl rfl ti22 rfl rfl rfl ?_ | refine TOps.fieldN 1 (he _ _ rfl) Try.underlying24 rfl rfl ti22 rfl rfl rfl ?_
        exact TOps.fin (Nrm.draw x (fun _ _ _ => rfl) rfl (by first | exact Le.refl _ | assumption | exact (by repeat (first | exact Le.refl _ | assumption | apply Le.drop))))
      · refine ⟨fun x S c he hw hd hc hcu hm _ => ?_, trivial⟩
        obtain ⟨h0, -⟩ := hd
        rcases (show c = 0 ∨ c = 1 ∨ c = 2 ∨ c = 3 by have : c ≤ 3 := hcu; omega) with rfl | rfl | rfl | rfl <;> refine TOps.load1 h0 ti22 (Rd.lit (by repeat (first | exact List.Mem.head _ | apply List.Mem.tail)) rfl) rfl ?_
        all_goals exact TOps.fin (Nrm.draw x (fun _ _ _ => rfl) rfl (Le.refl _))
      · refine ⟨fun x S c he hw hd hc hcu hm _ => ?_, trivial⟩
        refine TOps.field0 (he _ _ rfl) Try.underlying66 rfl rfl ti3 rfl rfl rfl ?_
        exact TOps.fin (Nrm.draw x (fun _ _ _ => rfl) rfl (by first | exact Le.refl _ | assumption | exact (by repeat (first | exact Le.refl _ | assumption | apply Le.drop))))
      · refine ⟨fun x S c he hw hd hc hcu hm _ => ?_, trivial⟩
        obtain ⟨h2, -⟩ := hd
        refine TOps.load1 h2 ti3 ((hr5 x c).fld 0 rfl) rfl ?_
        exact TOps.fin (Nrm.draw x (fun _ _ _ => rfl) rfl (by first | exact Le.refl _ | assumption | exact (by repeat (first | exact Le.refl _ | assumption | apply Le.drop))))
      · refine ⟨fun x S c he hw hd hc hcu hm _ => ?_, trivial⟩
        first | refine TOps.fieldB 1 (he _ _ rfl) Try.underlying66 rfl rfl ti3 rfl rfl rfl ?_ | refine TOps.fieldN 1 (he _ _ rfl) Try.underlying66 rfl rfl ti3 rfl rfl rfl ?_
        exact TOps.fin (Nrm.draw x (fun _ _ _ => rfl) rfl (by first | exact Le.refl _ | assumption | exact (by repeat (first | exact Le.refl _ | assumption | apply Le.drop))))
      · refine ⟨fun x S c he hw hd hc hcu hm _ => ?_, trivial⟩
        obtain ⟨h4, -⟩ := hd
        refine TOps.load1 h4 ti3 ((hr5 x c).fld 1 rfl) rfl ?_
        exact TOps.fin (Nrm.draw x (fun _ _ _ => rfl) rfl (by first | exact Le.refl _ | assumption | exact (by repeat (first | exact Le.refl _ | assumption | apply Le.drop))))
      · refine ⟨fun x S c he hw hd hc hcu hm _ => ?_, trivial⟩
        obtain rfl : c = 0 := hm rfl
        refine TOps.buildSlice0 Try.underlying50 ti3 rfl (fun b60 => ?_)
        refine TOps.fin (Nrm.draw (b60, x.2) ?_ rfl (Le.refl _))
        intro j hj hcj; rcases j with _|_|_|_|_|_|_|_|_|_|_|_|_|_|_|j <;> first | rfl | exact absurd rfl hj | exact absurd hcj (by decide)
      · refine ⟨fun x S c he hw hd hc hcu hm _ => ?_, trivial⟩
        first | refine TOps.fieldB 2 (he _ _ rfl) Try.underlying66 rfl rfl ti50 rfl rfl rfl ?_ | refine TOps.fieldN 2 (he _ _ rfl) Try.underlying66 rfl rfl ti50 rfl rfl rfl ?_
        exact TOps.fin (Nrm.draw x (fun _ _ _ => rfl) rfl (by first | exact Le.refl _ | assumption | exact (by repeat (first | exact Le.refl _ | assumption | apply Le.drop))))
      · refine ⟨fun x S c he hw hd hc hcu hm _ => ?_, trivial⟩
        obtain ⟨h7, -⟩ := hd
        refine TOps.load1 h7 ti50 ((hr5 x c).fld 2 rfl) rfl ?_
        exact TOps.fin (Nrm.draw x (fun _ _ _ => rfl) rfl (by first | exact Le.refl _ | assumption | exact (by repeat (first | exact Le.refl _ | assumption | apply Le.drop))))
      · refine ⟨fun x S c he hw hd hc hcu hm _ => ?_, trivial⟩
        obtain ⟨h6, h8, -⟩ := hd
        obtain rfl : c = 1 := hm rfl
        refine TOps.append (ys := ints d.args) h6 h8 Try.underlying50 ti3 rfl (fun _ _ => Upd.here) (RdS.up (RdS.up (RdS.up (RdS.up hBr)))) (by simp) rfl (oneInts d.args) (by omega) (by omega) rfl (fun a' cap' h0' => ?_)
        refine TOps.fin (Nrm.draw (x.1, ⟨a', h0'⟩, cap', x.2.2.2) ?_ rfl (Le.refl _))
        intro j hj hcj; rcases j with _|_|_|_|_|_|_|_|_|_|_|_|_|_|_|j <;> first | rfl | exact absurd rfl hj | exact absurd hcj (by decide)
      · refine ⟨fun x S c he hw hd hc hcu hm _ => ?_, trivial⟩
        obtain ⟨h3, h5, h9, -⟩ := hd
        refine TOps.buildStruct (vs := [(0, _), (1, _), (2, _)]) (xs := [_, _, _]) [(0, 1), (1, 1), (2, 1)] Try.underlying66 ti66 (fun w => by simp) ⟨rfl, h3, rfl, h5, rfl, h9, trivial⟩ rfl rfl ?_
        exact TOps.fin (Nrm.draw x (fun _ _ _ => rfl) rfl (by first | exact Le.refl _ | assumption | exact (by repeat (first | exact Le.refl _ | assumption | apply Le.drop))))
      · refine ⟨fun x S c he hw hd hc hcu hm _ => ?_, trivial⟩
        obtain ⟨h10, -⟩ := hd
        obtain rfl : c = 2 := hm rfl
        refine TOps.buildSlice (vs := [_]) (xs := [_, _, _]) Try.underlying22 ti66 ⟨rfl, h10, trivial⟩ rfl rfl rfl rfl rfl rfl (by decide) rfl (fun b52 => ?_)
        refine TOps.fin (Nrm.draw (x.1, x.2.1, x.2.2.1, b52, x.2.2.2.2) ?_ rfl (Le.refl _))
        intro j hj hcj; rcases j with _|_|_|_|_|_|_|_|_|_|_|_|_|_|_|j <;> first | rfl | exact absurd rfl hj | exact absurd hcj (by decide)
      · refine ⟨fun x S c he hw hd hc hcu hm _ => ?_, trivial⟩
        obtain ⟨h1, h11, h9, -⟩ := hd
        obtain rfl : c = 3 := hm rfl
        refine TOps.appendLit h1 h11 Try.underlying22 ti66 rfl (fun _ _ => (by repeat (first | exact Upd.here | apply Upd.there))) rfl (by rw [hcl2, hkk]) rfl (by omega) (by omega) (by simp) rfl (fun b66 cap66 => ?_)
        refine TOps.fin (Nrm.draw (x.1, x.2.1, x.2.2.1, x.2.2.2.1, b66, cap66) ?_ rfl (Le.refl _))
        intro j hj hcj; rcases j with _|_|_|_|_|_|_|_|_|_|_|_|_|_|_|j <;> first | rfl | exact absurd rfl hj | exact absurd hcj (by decide)
      · refine ⟨fun x S c he hw hd hc hcu hm _ => ?_, trivial⟩
        obtain ⟨h0, h1, h2, h3, h4, h5, h6, h7, h8, h9, h10, h11, h12, -⟩ := hd
        first | refine TOps.fieldB 1 (he _ _ rfl) Try.underlying24 rfl rfl ti22 rfl rfl rfl ?_ | refine TOps.fieldN 1 (he _ _ rfl) Try.underlying24 rfl rfl ti22 rfl rfl rfl ?_
        exact TOps.fin (Nrm.draw x (fun _ _ _ => rfl) rfl (by first | exact Le.refl _ | assumption | exact (by repeat (first | exact Le.refl _ | assumption | apply Le.drop))))
      · refine ⟨fun x S c he hw hd hc hcu hm _ => ?_, trivial⟩
        obtain ⟨h13, h12, _, h0, h1, h2, h3, h4, h5, h6, h7, h8, h9, h10, h11, _, -⟩ := hd
        obtain rfl : c = 4 := hm rfl
        refine TOps.store1 h13 h12 ti22 rfl rfl (by repeat (first | exact Upd.here | apply Upd.there)) (by simp) ?_
        exact TOps.fin (Nrm.draw x (fun _ _ _ => rfl) rfl (by first | exact Le.refl _ | assumption | exact (by repeat (first | exact Le.refl _ | assumption | apply Le.drop))))
      ) (fun w => ?_)
    subst hHB hkk
    refine Nrm.body ((some w.2.2.2.2.1, w.2.2.2.2.2), qsN ++ [(w.2.1.1, 0, w.2.2.1, none)], row w.2.1.1 3 1 w.2.2.1 (ints d.args) :: H3) (by rw [hsn]; exact ⟨ArgsIn.snoc (hp3.le (Le.drop (Le.refl _))) (RdS.ofRowA (List.Mem.head _) w.2.1.2), fun _ => ⟨_, rfl⟩⟩) ⟨rfl, rfl, rfl, rfl, rfl, rfl, trivial⟩ (by rw [hsn]; exact (Sp.le (by repeat (first | exact Sp.refl _ | exact Sp.sub (by assumption) | refine Sp.cons (by repeat (first | exact Pick.here | exact Pick.row (by first | (simp; done) | (rw [nsCells_snoc _ _ _ _ hp3.1, ← hCS]; simp [ndCells]; done)) | apply Pick.there)) ?_ | exact Sp.nil | apply Sp.skip))))
  obtain ⟨hp3, hp4⟩ := hp
  rw [List.take_length] at hM hp3 hp4
  obtain ⟨⟨oaN, ocapN⟩, qsN, H3⟩ := z
  dsimp only at hM hS hp3 hp4
  refine Nrm.of hS hM ?_
  refine Nrm.next ?_
  refine Tri.seq ?_
  refine Tri.seq (Tri.region ?_)
  refine TOps.move rfl rfl ?_
  refine TOps.len rfl Try.underlying38 rfl ?_
  refine TOps.sub (r := ((Fs.length - 1 : Nat) : Int) - 1) rfl rfl (by rw [wrapI (by omega) (by omega)]; omega) rfl ?_
  refine TOps.assign rfl rfl ?_
  refine TOps.next ?_
  refine Tri.block ?_
  refine Tri.loop (X := Nat × Fm × SA × List Ent) (fun x => [(0, slV (some fb) off Fs.length cap none), (2, .pointer (some ⟨b2, 0, none⟩)), (6, .pointer (some ⟨b6, 0, none⟩)), (9, .int .i64 ((x.1 : Int) - 1))]) (fun x => row (some b6) 24 3 1 (fmCells x.2.1 x.2.2.1) :: row (some b2) 24 3 1 [.int .i64 0, slV none 0 0 0, .int .i64 0] :: (x.2.2.2 ++ HX)) (fun x => x.1 ≤ Fs.length - 1 ∧ x.2.1.Good ∧ RNodes (x.2.2.2 ++ HX) x.2.2.1.1 x.2.2.1.2.1 x.2.1.nodes x.2.2.1.2.2.2 ∧ backF Fs x.1 x.2.1 = RES) (fun x => x.1) (Fs.length - 1, FL, (oaN, 0, ocapN, none), row oaN 66 3 ocapN (nsCells FL.nodes qsN) :: H3) ⟨Nat.le_refl _, hgL, RNodes.ofA (E := 66) (sz := 3) (cap := ocapN) (List.Mem.head _) (hp3.le (Le.drop (Le.sub (List.sublist_append_left _ _)))) hp4, hR⟩ ⟨rfl, rfl, rfl, rfl, trivial⟩ (Sp.le (by repeat (first | exact Sp.refl _ | exact Sp.sub (by assumption) | refine Sp.cons (by repeat (first | exact Pick.here | apply Pick.there)) ?_ | exact Sp.nil | apply Sp.skip))) (fun x hp => ?_)
  obtain ⟨i, F, ⟨qa, qo, qc, qs⟩, N⟩ := x
  obtain ⟨hp1, hg, hN, hres⟩ := hp
  dsimp only at hp1 hg hN hres ⊢
  refine Tri.seq ?_
  refine Tri.seq (Tri.region ?_)
  refine TOps.move rfl rfl ?_
  refine TOps.geq rfl rfl rfl ?_
  refine TOps.next ?_
  refine Tri.cond rfl (fun hc3 => ?_) (fun hc3 => ?_)
  · try simp only [decide_eq_true_eq, decide_eq_false_iff_not, Bool.and_eq_true, Bool.or_eq_true, Bool.not_eq_true', Bool.and_eq_false_iff, Bool.or_eq_false_iff, Bool.not_eq_false', Int.not_lt, Int.not_le, ne_eq, Decidable.not_not, Option.isSome_iff_ne_none, Option.isNone_iff_eq_none] at hc3
    obtain ⟨i, rfl⟩ : ∃ j, i = j + 1 := ⟨i - 1, by omega⟩
    have hi : i < Fs.length := by omega
    have e1 : ((i + 1 : Nat) : Int) - 1 = i := by omega
    rw [backF, getD_at hi] at hres
    have hki := hk _ hi
    obtain ⟨fb', ma, mo, mc, ms, hfb, -, hci, hNi⟩ := hr.at hi
    obtain rfl : fb = fb' := by simpa using hfb
    obtain ⟨I, hI⟩ : ∃ I, I = Fs[i] := ⟨_, rfl⟩
    rw [← hI] at hres hki hci hNi
    obtain ⟨G, hG⟩ : ∃ G, F.putF I = G := ⟨_, rfl⟩
    obtain ⟨pe, hPE⟩ : ∃ pe, F.putErr I = pe := ⟨_, rfl⟩
    obtain ⟨HB, hHB⟩ : ∃ HB, HB = row (some b6) 24 3 1 (fmCells F (qa, qo, qc, qs)) :: row (some b2) 24 3 1 [.int .i64 0, slV none 0 0 0, .int .i64 0] :: (N ++ HX) := ⟨_, rfl⟩
    have lB : Le HB H := by rw [hHB]; exact Le.drop (Le.drop ((Le.sub (List.sublist_append_right _ _)).trans lX))
    have rB6 : Rd HB b6 0 [.int .i64 F.vars, slV qa qo F.nodes.length qc qs, .int .i64 F.top] := by rw [hHB]; exact Rd.all (List.Mem.head _)
    have hFB : RF HB (.agg (List.toArray [.int .i64 F.vars, slV qa qo F.nodes.length qc qs, .int .i64 F.top])) F := by rw [hHB]; exact ⟨qa, qo, qc, qs, rfl, hN.le (Le.drop (Le.drop (Le.refl _)))⟩
    have hIB : RF HB (.agg (List.toArray [.int .i64 I.vars, slV ma mo I.nodes.length mc ms, .int .i64 I.top])) I := ⟨ma, mo, mc, ms, rfl, hNi.le lB⟩
    have hci' := hci.le lB
    rw [← hHB]
    refine Tri.fin ?_
    refine Nrm.next ?_
    refine Tri.seq ?_
    refine Tri.block ?_
    refine Tri.seq ?_
    have hll : ∀ (x : (Option Nat × Nat) × List Ent × Nat) (D : List Nat), Le (on D [5] [] [fact (RNodes x.2.1 x.1.1 0 G.nodes)] ++ (on D [9] [10] [row (some x.2.2) 24 3 1 [.int .i64 0, slV none 0 0 0, .int .i64 0]] ++ (on D [10] [] [row (some x.2.2) 24 3 1 [.int .i64 G.vars, slV x.1.1 0 G.nodes.length x.1.2, .int .i64 G.top]] ++ (on D [5] [] x.2.1 ++ HB)))) HB := fun x D => Le.sub (by repeat (first | exact List.Sublist.refl _ | apply sub_on))
    refine Tri.drawM (X := (Option Nat × Nat) × List Ent × Nat) rfl [(0, slV (some fb) off Fs.length cap none), (2, .pointer (some ⟨b2, 0, none⟩)), (6, .pointer (some ⟨b6, 0, none⟩)), (9, .int .i64 (((i + 1 : Nat) : Int) - 1))] [] (fun x => [.agg (List.toArray [.int .i64 F.vars, slV qa qo F.nodes.length qc qs, .int .i64 F.top]), _, _, _, .agg (List.toArray [.int .i64 I.vars, slV ma mo I.nodes.length mc ms, .int .i64 I.top]), .tuple (List.toArray [.agg (List.toArray [.int .i64 G.vars, slV x.1.1 0 G.nodes.length x.1.2, .int .i64 G.top]), errV 45 pe]), .tuple (List.toArray [.agg (List.toArray [.int .i64 G.vars, slV x.1.1 0 G.nodes.length x.1.2, .int .i64 G.top]), errV 45 pe]), .agg (List.toArray [.int .i64 G.vars, slV x.1.1 0 G.nodes.length x.1.2, .int .i64 G.top]), errV 45 pe, .pointer (some ⟨x.2.2, 0, none⟩), undef, errV 45 pe]) (fun x D => on D [5] [] [fact (RNodes x.2.1 x.1.1 0 G.nodes)] ++ (on D [9] [10] [row (some x.2.2) 24 3 1 [.int .i64 0, slV none 0 0 0, .int .i64 0]] ++ (on D [10] [] [row (some x.2.2) 24 3 1 [.int .i64 G.vars, slV x.1.1 0 G.nodes.length x.1.2, .int .i64 G.top]] ++ (on D [5] [] x.2.1 ++ HB)))) [5, 9, 10] [0, 0, 0, 6, 14, 31, 63, 127, 127, 0, 767, 2047] [[], [9], [5], [5, 9], [5, 9, 10]] ((none, 0), [], 0) [9, 11] rfl rfl (by kernel_rfl) (by kernel_rfl) ⟨rfl, rfl, rfl, rfl, trivial⟩ trivial (by repeat (first | exact Le.refl _ | assumption | apply Le.drop)) (by
      refine ⟨?_, ?_, ?_, ?_, ?_, ?_, ?_, ?_, ?_, ?_, ?_, ?_, trivial⟩
      · refine ⟨fun x S D he hw hd hD _ => ?_, trivial⟩
        refine TOps.loadN (vs := [.int .i64 F.vars, slV qa qo F.nodes.length qc qs, .int .i64 F.top]) (he _ _ rfl) ti24 (rB6.le (hll x D)) rfl rfl ?_
        exact TOps.fin (Nrm.drawM x (fun _ _ _ => rfl) rfl (by first | exact Le.refl _ | assumption | exact (by repeat (first | exact Le.refl _ | assumption | apply Le.drop))))
      · refine ⟨fun x S D he hw hd hD _ => ?_, trivial⟩
        refine TOps.move (he _ _ rfl) rfl ?_
        exact TOps.fin (Nrm.drawM x (fun _ _ _ => rfl) rfl (by first | exact Le.refl _ | assumption | exact (by repeat (first | exact Le.refl _ | assumption | apply Le.drop))))
      · refine ⟨fun x S D he hw hd hD _ => ?_, trivial⟩
        refine TOps.move (he _ _ rfl) rfl ?_
        exact TOps.fin (Nrm.drawM x (fun _ _ _ => rfl) rfl (by first | exact Le.refl _ | assumption | exact (by repeat (first | exact Le.refl _ | assumption | apply Le.drop))))
      · refine ⟨fun x S D he hw hd hD _ => ?_, trivial⟩
        obtain ⟨h1, h2, -⟩ := hd
        refine TOps.indexAddr (off' := off + i * 3) h1 h2 Try.underlying38 ti24 (by omega) (by omega) (by rw [e1]; simp) rfl ?_
        exact TOps.fin (Nrm.drawM x (fun _ _ _ => rfl) rfl (by first | exact Le.refl _ | assumption | exact (by repeat (first | exact Le.refl _ | assumption | apply Le.drop))))
      · refine ⟨fun x S D he hw hd hD _ => ?_, trivial⟩
        obtain ⟨h3, -⟩ := hd
        refine TOps.loadN (vs := [.int .i64 I.vars, slV ma mo I.nodes.length mc ms, .int .i64 I.top]) h3 ti24 (hci'.le (hll x D)) rfl rfl ?_
        exact TOps.fin (Nrm.drawM x (fun _ _ _ => rfl) rfl (by first | exact Le.refl _ | assumption | exact (by repeat (first | exact Le.refl _ | assumption | apply Le.drop))))
      · refine ⟨fun x S D he hw hd hD _ => ?_, trivial⟩
        obtain ⟨h0, h4, -⟩ := hd
        replace hD := mem_of_eq (L' := [[], [9]]) hD (by kernel_rfl)
        simp only [List.mem_cons, List.not_mem_nil, or_false] at hD
        rcases hD with rfl | rfl
        all_goals refine TOps.call (vs := [_, _]) Try.call18 ⟨h0, h4, trivial⟩ (putN_g (O := F) (I := I) (hFB.le (by first | exact hll x [] | exact hll x [9])) (hIB.le (by first | exact hll x [] | exact hll x [9])) hg.ok hki) rfl ?_
        all_goals rintro _ _ ⟨a1, c1, N2, rfl, hf1, rfl⟩
        all_goals rw [hG] at hf1
        all_goals rw [hG, hPE]
        all_goals refine TOps.fin (Nrm.drawM ((a1, c1), N2, x.2.2) ?_ rfl (by first | exact Le.addFact hf1 | exact (Le.perm List.perm_middle).trans (Le.addFact hf1)))
        all_goals (intro j hj hcj; rcases j with _|_|_|_|_|_|_|_|_|_|_|_|j <;> first | rfl | exact absurd rfl hj | exact absurd hcj (by decide))
      · refine ⟨fun x S D he hw hd hD _ => ?_, trivial⟩
        obtain ⟨h5, -⟩ := hd
        refine TOps.move h5 rfl ?_
        exact TOps.fin (Nrm.drawM x (fun _ _ _ => rfl) rfl (by first | exact Le.refl _ | assumption | exact (by repeat (first | exact Le.refl _ | assumption | apply Le.drop))))
      · refine ⟨fun x S D he hw hd hD _ => ?_, trivial⟩
        obtain ⟨h6, -⟩ := hd
        refine TOps.extract h6 rfl rfl ?_
        exact TOps.fin (Nrm.drawM x (fun _ _ _ => rfl) rfl (by first | exact Le.refl _ | assumption | exact (by repeat (first | exact Le.refl _ | assumption | apply Le.drop))))
      · refine ⟨fun x S D he hw hd hD _ => ?_, trivial⟩
        obtain ⟨h6, -⟩ := hd
        refine TOps.extract h6 rfl rfl ?_
        exact TOps.fin (Nrm.drawM x (fun _ _ _ => rfl) rfl (by first | exact Le.refl _ | assumption | exact (by repeat (first | exact Le.refl _ | assumption | apply Le.drop))))
      · refine ⟨fun x S D he hw hd hD _ => ?_, trivial⟩
        replace hD := mem_of_eq (L' := [[], [5]]) hD (by kernel_rfl)
        simp only [List.mem_cons, List.not_mem_nil, or_false] at hD
        rcases hD with rfl | rfl
        all_goals refine TOps.alloc ti24 rfl (fun b10 => ?_)
        all_goals refine TOps.fin (Nrm.drawM (x.1, x.2.1, b10) ?_ rfl (Sp.le (by repeat (first | exact Sp.refl _ | exact Sp.sub (by assumption) | refine Sp.cons (by repeat (first | exact Pick.here | apply Pick.there)) ?_ | exact Sp.nil | apply Sp.skip))))
        all_goals (intro j hj hcj; rcases j with _|_|_|_|_|_|_|_|_|_|_|_|j <;> first | rfl | exact absurd rfl hj | exact absurd hcj (by decide))
      · refine ⟨fun x S D he hw hd hD _ => ?_, trivial⟩
        obtain ⟨h9, h7, h5, h0, h1, h2, h3, h4, _, h6, _, _, -⟩ := hd
        replace hD := mem_of_eq (L' := [[5, 9]]) hD (by kernel_rfl)
        simp only [List.mem_cons, List.not_mem_nil, or_false] at hD
        rcases hD with rfl
        all_goals refine TOps.storeN h9 h7 ti24 rfl rfl (by repeat (first | exact Upd.here | apply Upd.there)) (by simp) ?_
        all_goals exact TOps.fin (Nrm.drawM x (fun _ _ _ => rfl) rfl (Sp.le (by repeat (first | exact Sp.refl _ | exact Sp.sub (by assumption) | refine Sp.cons (by repeat (first | exact Pick.here | apply Pick.there)) ?_ | exact Sp.nil | apply Sp.skip))))
      · refine ⟨fun x S D he hw hd hD _ => ?_, trivial⟩
        obtain ⟨h8, h10, h0, h1, h2, h3, h4, h5, h6, h7, _, h9, _, -⟩ := hd
        refine TOps.assign h8 rfl ?_
        exact TOps.fin (Nrm.drawM x (fun _ _ _ => rfl) rfl (by first | exact Le.refl _ | assumption | exact (by repeat (first | exact Le.refl _ | assumption | apply Le.drop))))
      ) (fun w => ?_)
    refine Nrm.fact (List.Mem.head _) (fun f1 => ?_)
    refine Nrm.le (H' := row (some w.2.2) 24 3 1 [.int .i64 G.vars, slV w.1.1 0 G.nodes.length w.1.2, .int .i64 G.top] :: row (some b6) 24 3 1 (fmCells F (qa, qo, qc, qs)) :: row (some b2) 24 3 1 [.int .i64 0, slV none 0 0 0, .int .i64 0] :: (w.2.1 ++ (N ++ HX))) (by subst hHB; exact (Le.drop (Le.refl _)).trans (Le.perm (List.Perm.cons _ (List.perm_middle.trans (List.Perm.cons _ List.perm_middle))))) ?_
    refine Nrm.next ?_
    refine Tri.seq ?_
    refine Tri.seq (Tri.region ?_)
    refine TOps.move rfl rfl ?_
    refine TOps.neqNil (T := 45) (o := pe) rfl Try.underlying28 rfl ?_
    refine TOps.next ?_
    refine Tri.cond rfl (fun hc4 => ?_) (fun hc4 => ?_)
    · try simp only [decide_eq_true_eq, decide_eq_false_iff_not, Bool.and_eq_true, Bool.or_eq_true, Bool.not_eq_true', Bool.and_eq_false_iff, Bool.or_eq_false_iff, Bool.not_eq_false', Int.not_lt, Int.not_le, ne_eq, Decidable.not_not, Option.isSome_iff_ne_none, Option.isNone_iff_eq_none] at hc4
      obtain ⟨er, her⟩ := Option.ne_none_iff_exists'.1 hc4
      rw [hPE, her] at hres
      refine Tri.seq (Tri.region ?_)
      refine TOps.buildStruct (vs := []) (xs := [_, _, _]) [(0, 1), (1, 1), (2, 1)] Try.underlying24 ti24 (fun w => by simp) trivial rfl rfl ?_
      refine TOps.move rfl rfl ?_
      refine TOps.storeN rfl rfl ti24 rfl rfl (by repeat (first | exact Upd.here | apply Upd.there)) (by first | decide | (simp; done) | (simp; omega)) ?_
      refine TOps.assign rfl rfl ?_
      refine TOps.next ?_
      refine Tri.ret2 (H' := _) Try.results30 (fun _ _ h => h) (.cellN rfl rfl ti24 (Rd.all (by repeat (first | exact List.Mem.head _ | apply List.Mem.tail))) rfl) (.tmp rfl) (Le.refl _) ⟨_, by rw [← hres, her]; rfl, Le.drop (Le.drop (Le.drop ((Le.sub ((List.sublist_append_right _ _).trans (List.sublist_append_right _ _))).trans lX))), List.Sublist.cons _ (List.Sublist.cons _ (List.Sublist.cons _ ((sX.trans (List.sublist_append_right N HX)).trans (List.sublist_append_right _ _)))), ?_⟩
      rw [← hres]; exact ⟨none, 0, 0, none, rfl, .inl rfl⟩
    try simp only [decide_eq_true_eq, decide_eq_false_iff_not, Bool.and_eq_true, Bool.or_eq_true, Bool.not_eq_true', Bool.and_eq_false_iff, Bool.or_eq_false_iff, Bool.not_eq_false', Int.not_lt, Int.not_le, ne_eq, Decidable.not_not, Option.isSome_iff_ne_none, Option.isNone_iff_eq_none] at hc4
    have hpn : pe = none := by simpa using hc4
    have hPE0 : F.putErr I = none := by rw [hPE, hpn]
    have hGp : F.put I = G := by rw [← hG]; unfold Fm.putF; rw [hPE0]; rfl
    have hgG : G.Good := by rw [← hGp]; exact put_good hPE0
    rw [hPE, hpn] at hres
    simp only [hGp] at hres
    have hNN : Le ((w.2.1 ++ N) ++ HX) w.2.1 := by rw [List.append_assoc]; exact Le.sub (List.sublist_append_left _ _)
    refine Tri.fin ?_
    refine Nrm.next ?_
    refine Tri.region ?_
    refine TOps.loadN rfl ti24 (by first | exact Rd.all (by repeat (first | exact List.Mem.head _ | apply List.Mem.tail)) | (repeat (first | assumption | apply Rd.up))) rfl rfl ?_
    refine TOps.storeN rfl rfl ti24 rfl rfl (by repeat (first | exact Upd.here | apply Upd.there)) (by simp [fmCells]) ?_
    refine TOps.fin ?_
    refine Nrm.unB ?_
    refine Nrm.next ?_
    refine Tri.region ?_
    refine TOps.move rfl rfl ?_
    refine TOps.sub rfl rfl (wrapI (by omega) (by omega)) rfl ?_
    refine TOps.assign rfl rfl ?_
    refine TOps.fin ?_
    refine Nrm.loop (i, G, (w.1.1, 0, w.1.2, none), w.2.1 ++ N) ⟨by dsimp only; omega, hgG, f1.le hNN, hres⟩ (by dsimp only; omega) ⟨rfl, rfl, rfl, (by refine congrArg (fun z : Int => some (Value.int .i64 z)) ?_; dsimp only; omega), trivial⟩ (by rw [List.append_assoc]; exact (Sp.le (by repeat (first | exact Sp.refl _ | exact Sp.sub (by assumption) | refine Sp.cons (by repeat (first | exact Pick.here | apply Pick.there)) ?_ | exact Sp.nil | apply Sp.skip))))
  try simp only [decide_eq_true_eq, decide_eq_false_iff_not, Bool.and_eq_true, Bool.or_eq_true, Bool.not_eq_true', Bool.and_eq_false_iff, Bool.or_eq_false_iff, Bool.not_eq_false', Int.not_lt, Int.not_le, ne_eq, Decidable.not_not, Option.isSome_iff_ne_none, Option.isNone_iff_eq_none] at hc3
  obtain rfl : i = 0 := by omega
  have hres' : RES = (F, none) := by rw [← hres]; rfl
  first | refine Tri.exitW ?_ | (refine Tri.exitTo ?_; repeat (with_reducible first | refine ExitTo.blk ?_ | refine ExitTo.blkNe rfl ?_ | refine ExitTo.body ?_ | refine ExitTo.brk rfl ?_ | refine ExitTo.bodyNe rfl rfl ?_ | refine ExitTo.seq ?_ | refine ExitTo.loop ?_))
  refine Nrm.next ?_
  refine Tri.seq (Tri.region ?_)
  refine TOps.loadN rfl ti24 (by first | exact Rd.all (by repeat (first | exact List.Mem.head _ | apply List.Mem.tail)) | (repeat (first | assumption | apply Rd.up))) rfl rfl ?_
  refine TOps.storeN rfl rfl ti24 rfl rfl (by repeat (first | exact Upd.here | apply Upd.there)) (by simp) ?_
  refine TOps.assign rfl rfl ?_
  refine TOps.next ?_
  refine Tri.ret2 (H' := _) Try.results30 (fun _ _ h => h) (.cellN rfl rfl ti24 (Rd.all (by repeat (first | exact List.Mem.head _ | apply List.Mem.tail))) rfl) (.tmp rfl) (Le.refl _) ⟨_, by rw [hres']; rfl, Le.drop (Le.drop ((Le.sub (List.sublist_append_right _ _)).trans lX)), List.Sublist.cons _ (List.Sublist.cons _ (sX.trans (List.sublist_append_right _ _))), ?_⟩
  rw [hres']; exact ⟨qa, qo, qc, qs, rfl, hN.le (Le.drop (Le.drop (Le.refl _)))⟩
end Go.Proofs
