import Derived.Test.YtbpjjepiblomaaaK30
import Derived.Test.YtbpjjepiblomaaaGL58
namespace Go.Proofs
open Go.GL
set_option linter.unusedVariables false
set_option linter.unusedSimpArgs false
theorem rback_g {H : List Ent} {a sp : Option Nat} {off cap : Nat} {Fs : List Fm} (hr : RFs H a off Fs sp) (hl : Fs.length ≤ 1000000) (hk : ∀ (i : Nat) (hi : i < Fs.length), Fs[i].ok) {RES : Fm × Option Int} (hR : backR Fs = RES) :
    Gives Try.prog 31 [slV a off Fs.length cap sp] H (fun u H' => ∃ tv, u = .tuple (List.toArray [tv, .int .i64 (RES.2.getD 0)]) ∧ NewF RES.1 H tv H') := by
  unfold backR at hR
  refine Gives.enter Try.func31 rfl (by exact Try.ntmps31) rfl ?_
  refine Tri.seq (Tri.region ?_)
  refine TOps.alloc ti24 rfl (fun b2 => ?_)
  refine TOps.assign rfl rfl ?_
  refine TOps.next ?_
  refine Tri.seq ?_
  refine Tri.seq (Tri.region ?_)
  refine TOps.move rfl rfl ?_
  refine TOps.len rfl Try.underlying38 rfl ?_
  refine TOps.eqlI rfl rfl rfl ?_
  refine TOps.next ?_
  refine Tri.cond rfl (fun hc1 => ?_) (fun hc1 => ?_)
  · try simp only [decide_eq_true_eq, decide_eq_false_iff_not, Bool.and_eq_true, Bool.or_eq_true, Bool.not_eq_true', Bool.and_eq_false_iff, Bool.or_eq_false_iff, Bool.not_eq_false', Int.not_lt, Int.not_le, ne_eq, Decidable.not_not, Option.isSome_iff_ne_none, Option.isNone_iff_eq_none] at hc1
    rw [if_pos (by omega)] at hR
    refine Tri.seq (Tri.region ?_)
    refine TOps.buildStruct (vs := []) (xs := [_, _, _]) [(0, 1), (1, 1), (2, 1)] Try.underlying24 ti24 (fun w => by simp) trivial rfl rfl ?_
    refine TOps.storeN rfl rfl ti24 rfl rfl (by repeat (first | exact Upd.here | apply Upd.there)) (by first | decide | (simp; done) | (simp; omega)) ?_
    refine TOps.assign rfl rfl ?_
    refine TOps.next ?_
    refine Tri.ret2 (H' := _) Try.results31 (fun _ _ h => h) (.cellN rfl rfl ti24 (Rd.all (by repeat (first | exact List.Mem.head _ | apply List.Mem.tail))) rfl) (.tmp rfl) (Le.refl _) ⟨_, by rw [← hR]; rfl, Le.drop (Le.refl _), List.Sublist.cons _ (List.Sublist.refl _), ?_⟩
    rw [← hR]; exact ⟨none, 0, 0, none, rfl, .inl rfl⟩
  try simp only [decide_eq_true_eq, decide_eq_false_iff_not, Bool.and_eq_true, Bool.or_eq_true, Bool.not_eq_true', Bool.and_eq_false_iff, Bool.or_eq_false_iff, Bool.not_eq_false', Int.not_lt, Int.not_le, ne_eq, Decidable.not_not, Option.isSome_iff_ne_none, Option.isNone_iff_eq_none] at hc1
  rw [if_neg (by omega)] at hR
  have hlast : Fs.length - 1 < Fs.length := by omega
  rw [getD_at hlast] at hR
  have hkL := hk _ hlast
  obtain ⟨fb, na, no, nc, ns, rfl, rfl, hcl, hNl⟩ := hr.at hlast
  obtain ⟨FL, hFL⟩ : ∃ FL, FL = Fs[Fs.length - 1] := ⟨_, rfl⟩
  rw [← hFL] at hR hkL hcl hNl
  refine Tri.fin ?_
  refine Nrm.next ?_
  refine Tri.seq (Tri.region ?_)
  refine TOps.move rfl rfl ?_
  refine TOps.move rfl rfl ?_
  refine TOps.len rfl Try.underlying38 rfl ?_
  refine TOps.sub (r := ((Fs.length - 1 : Nat) : Int)) rfl rfl (by rw [wrapI (by omega) (by omega)]; omega) rfl ?_
  refine TOps.indexAddr (off' := off + (Fs.length - 1) * 3) rfl rfl Try.underlying38 ti24 (by omega) (by omega) (by simp) rfl ?_
  refine TOps.loadN (vs := [.int .i64 FL.vars, slV na no FL.nodes.length nc ns, .int .i64 FL.top]) rfl ti24 (by repeat (first | exact hcl | apply Rd.up)) rfl rfl ?_
  refine TOps.alloc ti24 rfl (fun b4 => ?_)
  refine TOps.storeN rfl rfl ti24 rfl rfl (by repeat (first | exact Upd.here | apply Upd.there)) (by first | decide | (simp; done) | (simp; omega)) ?_
  refine TOps.next ?_
  refine Tri.seq ?_
  refine Tri.seq (Tri.region ?_)
  refine TOps.loadN rfl ti24 (by first | exact Rd.all (by repeat (first | exact List.Mem.head _ | apply List.Mem.tail)) | (repeat (first | assumption | apply Rd.up))) rfl rfl ?_
  refine TOps.call (vs := [_]) Try.call13 ⟨rfl, trivial⟩ (rcheck_g (F := FL) ⟨na, no, nc, ns, rfl, hNl.le (Le.drop (Le.drop (Le.refl _)))⟩ hkL) rfl ?_
  rintro _ _ ⟨rfl, rfl⟩
  refine TOps.assign rfl rfl ?_
  refine TOps.next ?_
  refine Tri.seq (Tri.region ?_)
  refine TOps.move rfl rfl ?_
  refine TOps.neqI rfl rfl rfl ?_
  refine TOps.next ?_
  refine Tri.cond rfl (fun hc2 => ?_) (fun hc2 => ?_)
  · try simp only [decide_eq_true_eq, decide_eq_false_iff_not, Bool.and_eq_true, Bool.or_eq_true, Bool.not_eq_true', Bool.and_eq_false_iff, Bool.or_eq_false_iff, Bool.not_eq_false', Int.not_lt, Int.not_le, ne_eq, Decidable.not_not, Option.isSome_iff_ne_none, Option.isNone_iff_eq_none] at hc2
    obtain ⟨er, her⟩ : ∃ er, FL.err = some er := by
      cases h : FL.err with
      | none => rw [h] at hc2; simp at hc2
      | some er => exact ⟨er, rfl⟩
    rw [her] at hR
    refine Tri.seq (Tri.region ?_)
    refine TOps.buildStruct (vs := []) (xs := [_, _, _]) [(0, 1), (1, 1), (2, 1)] Try.underlying24 ti24 (fun w => by simp) trivial rfl rfl ?_
    refine TOps.move rfl rfl ?_
    refine TOps.storeN rfl rfl ti24 rfl rfl (by repeat (first | exact Upd.here | apply Upd.there)) (by first | decide | (simp; done) | (simp; omega)) ?_
    refine TOps.assign rfl rfl ?_
    refine TOps.next ?_
    refine Tri.ret2 (H' := _) Try.results31 (fun _ _ h => h) (.cellN rfl rfl ti24 (Rd.all (by repeat (first | exact List.Mem.head _ | apply List.Mem.tail))) rfl) (.tmp rfl) (Le.refl _) ⟨_, by rw [← hR, her], Le.drop (Le.drop (Le.refl _)), List.Sublist.cons _ (List.Sublist.cons _ (List.Sublist.refl _)), ?_⟩
    rw [← hR]; exact ⟨none, 0, 0, none, rfl, .inl rfl⟩
  try simp only [decide_eq_true_eq, decide_eq_false_iff_not, Bool.and_eq_true, Bool.or_eq_true, Bool.not_eq_true', Bool.and_eq_false_iff, Bool.or_eq_false_iff, Bool.not_eq_false', Int.not_lt, Int.not_le, ne_eq, Decidable.not_not, Option.isSome_iff_ne_none, Option.isNone_iff_eq_none] at hc2
  have hgL := (Fm.good_iff FL).1 (Fm.err_of (by simpa using hc2))
  rw [(Fm.good_iff FL).2 hgL] at hR
  refine Tri.fin ?_
  refine Nrm.next ?_
  refine Tri.seq ?_
  refine Tri.seq (Tri.region ?_)
  refine TOps.move rfl rfl ?_
  refine TOps.len rfl Try.underlying38 rfl ?_
  refine TOps.sub (r := ((Fs.length - 1 : Nat) : Int) - 1) rfl rfl (by rw [wrapI (by omega) (by omega)]; omega) rfl ?_
  refine TOps.assign rfl rfl ?_
  refine TOps.next ?_
  refine Tri.block ?_
  refine Tri.loop (X := Nat × Fm × SA × List Ent) (fun x => [(0, slV (some fb) off Fs.length cap none), (2, .pointer (some ⟨b2, 0, none⟩)), (4, .pointer (some ⟨b4, 0, none⟩)), (6, .int .i64 ((x.1 : Int) - 1))]) (fun x => row (some b4) 24 3 1 (fmCells x.2.1 x.2.2.1) :: row (some b2) 24 3 1 [.int .i64 0, slV none 0 0 0, .int .i64 0] :: (x.2.2.2 ++ H)) (fun x => x.1 ≤ Fs.length - 1 ∧ x.2.1.Good ∧ RNodes (x.2.2.2 ++ H) x.2.2.1.1 x.2.2.1.2.1 x.2.1.nodes x.2.2.1.2.2.2 ∧ backF Fs x.1 x.2.1 = RES) (fun x => x.1) (Fs.length - 1, FL, (na, no, nc, ns), []) ⟨Nat.le_refl _, hgL, hNl, hR⟩ ⟨rfl, rfl, rfl, rfl, trivial⟩ (Sp.le (by repeat (first | exact Sp.refl _ | exact Sp.sub (by assumption) | refine Sp.cons (by repeat (first | exact Pick.here | apply Pick.there)) ?_ | exact Sp.nil | apply Sp.skip))) (fun x hp => ?_)
  obtain ⟨i, F, ⟨qa, qo, qc, qs⟩, N⟩ := x
  obtain ⟨hp1, hg, hN, hres⟩ := hp
  dsimp only at hp1 hg hN hres ⊢
  refine Tri.seq ?_
  refine Tri.seq (Tri.region ?_)
  refine TOps.move rfl rfl ?_
  refine TOps.geq rfl rfl rfl ?_
  refine TOps.next ?_
  refine Tri.cond rfl (fun hc3 => ?_) (fun hc3 => ?_)
  · try simp only [decide_eq_true_eq, decide_eq_false_iff_not, Bool.and_eq_true, Bool.or_eq_true, Bool.not_eq_true', Bool.and_eq_false_iff, Bool.or_eq_false_iff, Bool.not_eq_false', Int.not_lt, Int.not_le, ne_eq, Decidable.not_not, Option.isSome_iff_ne_none, Option.isNone_iff_eq_none] at hc3
    obtain ⟨i, rfl⟩ : ∃ j, i = j + 1 := ⟨i - 1, by omega⟩
    have hi : i < Fs.length := by omega
    have e1 : ((i + 1 : Nat) : Int) - 1 = i := by omega
    rw [backF, getD_at hi] at hres
    have hki := hk _ hi
    obtain ⟨fb', ma, mo, mc, ms, hfb, -, hci, hNi⟩ := hr.at hi
    obtain rfl : fb = fb' := by simpa using hfb
    obtain ⟨I, hI⟩ : ∃ I, I = Fs[i] := ⟨_, rfl⟩
    rw [← hI] at hres hki hci hNi
    obtain ⟨G, hG⟩ : ∃ G, F.putF I = G := ⟨_, rfl⟩
    obtain ⟨pe, hPE⟩ : ∃ pe, F.putErr I = pe := ⟨_, rfl⟩
    have lNH : Le (N ++ H) H := Le.sub (List.sublist_append_right _ _)
    refine Tri.fin ?_
    refine Nrm.next ?_
    refine Tri.seq ?_
    refine Tri.block ?_
    refine Tri.seq (Tri.region ?_)
    refine TOps.assign rfl rfl ?_
    refine TOps.next ?_
    refine Tri.seq ?_
    have hll : ∀ (x : (Option Nat × Nat) × List Ent) (c : Nat), Le (match c with | 0 => row (some b4) 24 3 1 (fmCells F (qa, qo, qc, qs)) :: row (some b2) 24 3 1 [.int .i64 0, slV none 0 0 0, .int .i64 0] :: (N ++ H) | 1 => fact (RNodes x.2 x.1.1 0 G.nodes) :: row (some b4) 24 3 1 (fmCells F (qa, qo, qc, qs)) :: row (some b2) 24 3 1 [.int .i64 0, slV none 0 0 0, .int .i64 0] :: (x.2 ++ (N ++ H)) | _ + 2 => fact (RNodes x.2 x.1.1 0 G.nodes) :: row (some b4) 24 3 1 [.int .i64 G.vars, slV x.1.1 0 G.nodes.length x.1.2, .int .i64 G.top] :: row (some b2) 24 3 1 [.int .i64 0, slV none 0 0 0, .int .i64 0] :: (x.2 ++ (N ++ H))) H := by
      intro x c
      match c with
      | 0 => exact Le.drop (Le.drop lNH)
      | 1 => exact Le.drop (Le.drop (Le.drop ((Le.sub (List.sublist_append_right _ _)).trans lNH)))
      | _ + 2 => exact Le.drop (Le.drop (Le.drop ((Le.sub (List.sublist_append_right _ _)).trans lNH)))
    refine Tri.drawX (X := (Option Nat × Nat) × List Ent) rfl [(0, slV (some fb) off Fs.length cap none), (2, .pointer (some ⟨b2, 0, none⟩)), (4, .pointer (some ⟨b4, 0, none⟩)), (6, .int .i64 (((i + 1 : Nat) : Int) - 1))] [] (fun x => [.agg (List.toArray [.int .i64 F.vars, slV qa qo F.nodes.length qc qs, .int .i64 F.top]), _, _, _, .agg (List.toArray [.int .i64 I.vars, slV ma mo I.nodes.length mc ms, .int .i64 I.top]), .tuple (List.toArray [.agg (List.toArray [.int .i64 G.vars, slV x.1.1 0 G.nodes.length x.1.2, .int .i64 G.top]), .int .i64 (pe.getD 0)]), .tuple (List.toArray [.agg (List.toArray [.int .i64 G.vars, slV x.1.1 0 G.nodes.length x.1.2, .int .i64 G.top]), .int .i64 (pe.getD 0)]), .agg (List.toArray [.int .i64 G.vars, slV x.1.1 0 G.nodes.length x.1.2, .int .i64 G.top]), .int .i64 (pe.getD 0), undef, .int .i64 (pe.getD 0)]) (fun x c => match c with | 0 => row (some b4) 24 3 1 (fmCells F (qa, qo, qc, qs)) :: row (some b2) 24 3 1 [.int .i64 0, slV none 0 0 0, .int .i64 0] :: (N ++ H) | 1 => fact (RNodes x.2 x.1.1 0 G.nodes) :: row (some b4) 24 3 1 (fmCells F (qa, qo, qc, qs)) :: row (some b2) 24 3 1 [.int .i64 0, slV none 0 0 0, .int .i64 0] :: (x.2 ++ (N ++ H)) | _ + 2 => fact (RNodes x.2 x.1.1 0 G.nodes) :: row (some b4) 24 3 1 [.int .i64 G.vars, slV x.1.1 0 G.nodes.length x.1.2, .int .i64 G.top] :: row (some b2) 24 3 1 [.int .i64 0, slV none 0 0 0, .int .i64 0] :: (x.2 ++ (N ++ H))) [5, 9] ((none, 0), []) [10] rfl rfl ⟨rfl, rfl, rfl, rfl, trivial⟩ trivial (by repeat (first | exact Le.refl _ | assumption | apply Le.drop)) (by
      refine ⟨?_, ?_, ?_, ?_, ?_, ?_, ?_, ?_, ?_, ?_, ?_, trivial⟩
      · refine ⟨fun x S c he hw hd hc hcu hm _ => ?_, trivial⟩
        obtain rfl : c = 0 := by have : c ≤ 0 := hcu; omega
        refine TOps.loadN (vs := [.int .i64 F.vars, slV qa qo F.nodes.length qc qs, .int .i64 F.top]) (he _ _ rfl) ti24 (Rd.all (List.Mem.head _)) rfl rfl ?_
        exact TOps.fin (Nrm.draw x (fun _ _ _ => rfl) rfl (by first | exact Le.refl _ | assumption | exact (by repeat (first | exact Le.refl _ | assumption | apply Le.drop))))
      · refine ⟨fun x S c he hw hd hc hcu hm _ => ?_, trivial⟩
        refine TOps.move (he _ _ rfl) rfl ?_
        exact TOps.fin (Nrm.draw x (fun _ _ _ => rfl) rfl (by first | exact Le.refl _ | assumption | exact (by repeat (first | exact Le.refl _ | assumption | apply Le.drop))))
      · refine ⟨fun x S c he hw hd hc hcu hm _ => ?_, trivial⟩
        refine TOps.move (he _ _ rfl) rfl ?_
        exact TOps.fin (Nrm.draw x (fun _ _ _ => rfl) rfl (by first | exact Le.refl _ | assumption | exact (by repeat (first | exact Le.refl _ | assumption | apply Le.drop))))
      · refine ⟨fun x S c he hw hd hc hcu hm _ => ?_, trivial⟩
        obtain ⟨h1, h2, -⟩ := hd
        refine TOps.indexAddr (off' := off + i * 3) h1 h2 Try.underlying38 ti24 (by omega) (by omega) (by rw [e1]; simp) rfl ?_
        exact TOps.fin (Nrm.draw x (fun _ _ _ => rfl) rfl (by first | exact Le.refl _ | assumption | exact (by repeat (first | exact Le.refl _ | assumption | apply Le.drop))))
      · refine ⟨fun x S c he hw hd hc hcu hm _ => ?_, trivial⟩
        obtain ⟨h3, -⟩ := hd
        refine TOps.loadN (vs := [.int .i64 I.vars, slV ma mo I.nodes.length mc ms, .int .i64 I.top]) h3 ti24 (hci.le (hll x c)) rfl rfl ?_
        exact TOps.fin (Nrm.draw x (fun _ _ _ => rfl) rfl (by first | exact Le.refl _ | assumption | exact (by repeat (first | exact Le.refl _ | assumption | apply Le.drop))))
      · refine ⟨fun x S c he hw hd hc hcu hm _ => ?_, trivial⟩
        obtain ⟨h0, h4, -⟩ := hd
        obtain rfl : c = 0 := hm rfl
        refine TOps.call (vs := [_, _]) Try.call19 ⟨h0, h4, trivial⟩ (rputN_g (O := F) (I := I) ⟨qa, qo, qc, qs, rfl, hN.le (Le.drop (Le.drop (Le.refl _)))⟩ ⟨ma, mo, mc, ms, rfl, hNi.le (hll x 0)⟩ hg.ok hki) rfl ?_
        rintro _ _ ⟨a', c', N2, rfl, hf, rfl⟩
        rw [hG] at hf
        rw [hG, hPE]
        refine TOps.fin (Nrm.draw ((a', c'), N2) ?_ rfl (Le.midB.trans (Le.addFact hf)))
        intro j hj hcj; rcases j with _|_|_|_|_|_|_|_|_|_|_|j <;> first | rfl | exact absurd rfl hj | exact absurd hcj (by decide)
      · refine ⟨fun x S c he hw hd hc hcu hm _ => ?_, trivial⟩
        obtain ⟨h5, -⟩ := hd
        refine TOps.move h5 rfl ?_
        exact TOps.fin (Nrm.draw x (fun _ _ _ => rfl) rfl (by first | exact Le.refl _ | assumption | exact (by repeat (first | exact Le.refl _ | assumption | apply Le.drop))))
      · refine ⟨fun x S c he hw hd hc hcu hm _ => ?_, trivial⟩
        obtain ⟨h6, -⟩ := hd
        refine TOps.extract h6 rfl rfl ?_
        exact TOps.fin (Nrm.draw x (fun _ _ _ => rfl) rfl (by first | exact Le.refl _ | assumption | exact (by repeat (first | exact Le.refl _ | assumption | apply Le.drop))))
      · refine ⟨fun x S c he hw hd hc hcu hm _ => ?_, trivial⟩
        obtain ⟨h6, -⟩ := hd
        refine TOps.extract h6 rfl rfl ?_
        exact TOps.fin (Nrm.draw x (fun _ _ _ => rfl) rfl (by first | exact Le.refl _ | assumption | exact (by repeat (first | exact Le.refl _ | assumption | apply Le.drop))))
      · refine ⟨fun x S c he hw hd hc hcu hm _ => ?_, trivial⟩
        obtain ⟨h7, h5, h0, h1, h2, h3, h4, _, h6, _, -⟩ := hd
        obtain rfl : c = 1 := hm rfl
        refine TOps.storeN (he _ _ rfl) h7 ti24 rfl rfl (by repeat (first | exact Upd.here | apply Upd.there)) (by simp [fmCells]) ?_
        exact TOps.fin (Nrm.draw x (fun _ _ _ => rfl) rfl (by first | exact Le.refl _ | assumption | exact (by repeat (first | exact Le.refl _ | assumption | apply Le.drop))))
      · refine ⟨fun x S c he hw hd hc hcu hm _ => ?_, trivial⟩
        obtain ⟨h8, h9, h0, h1, h2, h3, h4, h5, h6, h7, _, _, -⟩ := hd
        refine TOps.assign h8 rfl ?_
        exact TOps.fin (Nrm.draw x (fun _ _ _ => rfl) rfl (by first | exact Le.refl _ | assumption | exact (by repeat (first | exact Le.refl _ | assumption | apply Le.drop))))
      ) (fun w => ?_)
    refine Nrm.fact (List.Mem.head _) (fun f1 => ?_)
    refine Nrm.next ?_
    refine Tri.seq (Tri.region ?_)
    refine TOps.move rfl rfl ?_
    refine TOps.neqI rfl rfl rfl ?_
    refine TOps.next ?_
    refine Tri.cond rfl (fun hc4 => ?_) (fun hc4 => ?_)
    · try simp only [decide_eq_true_eq, decide_eq_false_iff_not, Bool.and_eq_true, Bool.or_eq_true, Bool.not_eq_true', Bool.and_eq_false_iff, Bool.or_eq_false_iff, Bool.not_eq_false', Int.not_lt, Int.not_le, ne_eq, Decidable.not_not, Option.isSome_iff_ne_none, Option.isNone_iff_eq_none] at hc4
      obtain ⟨er, her⟩ : ∃ er, pe = some er := by
        cases h : pe with
        | none => rw [h] at hc4; simp at hc4
        | some er => exact ⟨er, rfl⟩
      rw [hPE, her] at hres
      refine Tri.seq (Tri.region ?_)
      refine TOps.buildStruct (vs := []) (xs := [_, _, _]) [(0, 1), (1, 1), (2, 1)] Try.underlying24 ti24 (fun w => by simp) trivial rfl rfl ?_
      refine TOps.move rfl rfl ?_
      refine TOps.storeN rfl rfl ti24 rfl rfl (by repeat (first | exact Upd.here | apply Upd.there)) (by first | decide | (simp; done) | (simp; omega)) ?_
      refine TOps.assign rfl rfl ?_
      refine TOps.next ?_
      refine Tri.ret2 (H' := _) Try.results31 (fun _ _ h => h) (.cellN rfl rfl ti24 (Rd.all (by repeat (first | exact List.Mem.head _ | apply List.Mem.tail))) rfl) (.tmp rfl) (Le.refl _) ⟨_, by rw [← hres, her]; rfl, Le.drop (Le.drop (Le.drop ((Le.sub (List.sublist_append_right _ _)).trans lNH))), List.Sublist.cons _ (List.Sublist.cons _ (List.Sublist.cons _ ((List.sublist_append_right N H).trans (List.sublist_append_right _ _)))), ?_⟩
      rw [← hres]; exact ⟨none, 0, 0, none, rfl, .inl rfl⟩
    try simp only [decide_eq_true_eq, decide_eq_false_iff_not, Bool.and_eq_true, Bool.or_eq_true, Bool.not_eq_true', Bool.and_eq_false_iff, Bool.or_eq_false_iff, Bool.not_eq_false', Int.not_lt, Int.not_le, ne_eq, Decidable.not_not, Option.isSome_iff_ne_none, Option.isNone_iff_eq_none] at hc4
    have hpn : pe = none := by
      cases h : pe with
      | none => rfl
      | some er =>
        exfalso
        have := putErr_pos (h ▸ hPE)
        rw [h] at hc4
        simp at hc4
        omega
    have hPE0 : F.putErr I = none := by rw [hPE, hpn]
    have hGp : F.put I = G := by rw [← hG]; unfold Fm.putF; rw [hPE0]; rfl
    have hgG : G.Good := by rw [← hGp]; exact put_good hPE0
    rw [hPE, hpn] at hres
    simp only [hGp] at hres
    have hNN : Le ((w.2 ++ N) ++ H) w.2 := by rw [List.append_assoc]; exact Le.sub (List.sublist_append_left _ _)
    refine Tri.fin ?_
    refine Nrm.unB ?_
    refine Nrm.next ?_
    refine Tri.region ?_
    refine TOps.move rfl rfl ?_
    refine TOps.sub rfl rfl (wrapI (by omega) (by omega)) rfl ?_
    refine TOps.assign rfl rfl ?_
    refine TOps.fin ?_
    refine Nrm.loop (i, G, (w.1.1, 0, w.1.2, none), w.2 ++ N) ⟨by dsimp only; omega, hgG, f1.le hNN, hres⟩ (by dsimp only; omega) ⟨rfl, rfl, rfl, (by refine congrArg (fun z : Int => some (Value.int .i64 z)) ?_; dsimp only; omega), trivial⟩ (by rw [List.append_assoc]; exact (Sp.le (by repeat (first | exact Sp.refl _ | exact Sp.sub (by assumption) | refine Sp.cons (by repeat (first | exact Pick.here | apply Pick.there)) ?_ | exact Sp.nil | apply Sp.skip))))
  try simp only [decide_eq_true_eq, decide_eq_false_iff_not, Bool.and_eq_true, Bool.or_eq_true, Bool.not_eq_true', Bool.and_eq_false_iff, Bool.or_eq_false_iff, Bool.not_eq_false', Int.not_lt, Int.not_le, ne_eq, Decidable.not_not, Option.isSome_iff_ne_none, Option.isNone_iff_eq_none] at hc3
  obtain rfl : i = 0 := by omega
  have hres' : RES = (F, none) := by rw [← hres]; rfl
  first | refine Tri.exitW ?_ | (refine Tri.exitTo ?_; repeat (with_reducible first | refine ExitTo.blk ?_ | refine ExitTo.blkNe rfl ?_ | refine ExitTo.body ?_ | refine ExitTo.brk rfl ?_ | refine ExitTo.bodyNe rfl rfl ?_ | refine ExitTo.seq ?_ | refine ExitTo.loop ?_))
  refine Nrm.next ?_
  refine Tri.seq (Tri.region ?_)
  refine TOps.loadN rfl ti24 (by first | exact Rd.all (by repeat (first | exact List.Mem.head _ | apply List.Mem.tail)) | (repeat (first | assumption | apply Rd.up))) rfl rfl ?_
  refine TOps.storeN rfl rfl ti24 rfl rfl (by repeat (first | exact Upd.here | apply Upd.there)) (by simp) ?_
  refine TOps.assign rfl rfl ?_
  refine TOps.next ?_
  refine Tri.ret2 (H' := _) Try.results31 (fun _ _ h => h) (.cellN rfl rfl ti24 (Rd.all (by repeat (first | exact List.Mem.head _ | apply List.Mem.tail))) rfl) (.tmp rfl) (Le.refl _) ⟨_, by rw [hres']; rfl, Le.drop (Le.drop (Le.sub (List.sublist_append_right _ _))), List.Sublist.cons _ (List.Sublist.cons _ (List.sublist_append_right _ _)), ?_⟩
  rw [hres']; exact ⟨qa, qo, qc, qs, rfl, hN.le (Le.drop (Le.drop (Le.refl _)))⟩
end Go.Proofs
