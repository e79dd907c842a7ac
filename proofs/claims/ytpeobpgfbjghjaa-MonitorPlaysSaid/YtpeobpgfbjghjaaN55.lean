import Derived.Test.YtpeobpgfbjghjaaM55
namespace Go.Proofs
open Go.GL
set_option linter.unusedVariables false
set_option linter.unusedSimpArgs false
theorem ract_g {H HL : List Ent} {F : Fm} {na ns : Option Nat} {no nl nc : Nat} {Z : Mo} {la : Option Nat} {lcap : Nat} (hF : RF H (.agg (List.toArray [.int .i64 F.vars, slV na no nl nc ns, .int .i64 F.top])) F) (hg : F.Good) (hZ : MoOk F Z) (lL : Le H HL) (hlx : RdS HL la 0 (logCells Z.log)) (hcap : Z.log.length ≤ lcap) (i : Int) (fl : Bool) :
    Gives Try.prog 29 [.agg (List.toArray [.int .i64 F.vars, slV na no nl nc ns, .int .i64 F.top, .int .i64 Z.f, (slV la 0 Z.log.length lcap)]), .int .i64 i, .bool fl] H (fun u H' => ∃ N la' lcap', RdS (N ++ HL) la' 0 (logCells (F.play Z i fl).log) ∧ (F.play Z i fl).log.length ≤ lcap' ∧ u = .tuple (List.toArray [.agg (List.toArray [.int .i64 F.vars, slV na no nl nc ns, .int .i64 F.top, .int .i64 (F.play Z i fl).f, (slV la' 0 (F.play Z i fl).log.length lcap')]), .bool (F.playTop Z i fl), .int .i64 ((F.playErr Z i fl).getD 0)]) ∧ N ++ H = H') := by
  have g0 := hg.v0; have g1 := hg.v1
  obtain ⟨v, hv⟩ := Int.eq_ofNat_of_zero_le g0
  have hvn : F.vars.toNat = v := by omega
  have h24 := pow24 (show v ≤ 24 by omega)
  have hff := hZ.lt
  have hl4 := hZ.len
  have hlc := logCells_length Z.log
  rw [hvn] at hff
  have hsp : ∀ x : Bool, decide ((if x then (1 : Int) else 0) = 1) = x := fun x => by cases x <;> rfl
  have hF2 : ∀ (a b : Ent), RF (a :: b :: H) (.agg (List.toArray [.int .i64 F.vars, slV na no nl nc ns, .int .i64 F.top])) F := fun a b => hF.le (Le.drop (Le.drop (Le.refl _)))
  refine Gives.enter Try.func29 rfl (by exact Try.ntmps29) rfl ?_
  refine Tri.seq (Tri.region ?_)
  refine TOps.boxN rfl ti53 rfl rfl (fun b3 => ?_)
  refine TOps.alloc ti53 rfl (fun b6 => ?_)
  refine TOps.assign rfl rfl ?_
  refine TOps.assign rfl rfl ?_
  refine TOps.next ?_
  refine Tri.seq ?_
  refine Tri.block ?_
  refine Tri.seq (Tri.region ?_)
  refine TOps.move rfl rfl ?_
  refine TOps.lss rfl rfl rfl ?_
  refine TOps.move rfl rfl ?_
  refine' TOps.orB 5 rfl rfl rfl rfl (fun hg1_2 => ?_) ?_; rotate_left
  · have hg1_2' := hg1_2
    try simp only [decide_eq_true_eq, decide_eq_false_iff_not, Bool.and_eq_true, Bool.or_eq_true, Bool.not_eq_true', Bool.and_eq_false_iff, Bool.or_eq_false_iff, Bool.not_eq_false', Int.not_lt, Int.not_le, ne_eq, Decidable.not_not] at hg1_2'
    refine TOps.strip 2 false rfl rfl hg1_2 rfl ?_
    refine TOps.move rfl rfl ?_
    refine TOps.field0 rfl Try.underlying53 rfl rfl ti24 rfl rfl rfl ?_
    refine TOps.field0 rfl Try.underlying24 rfl rfl ti3 rfl rfl rfl ?_
    refine TOps.load1 rfl ti3 (by first | exact Rd.lit (by repeat (first | exact List.Mem.head _ | apply List.Mem.tail)) rfl | (repeat (first | assumption | exact Rd.fld (by assumption) 0 rfl | apply Rd.up))) rfl ?_
    refine TOps.geq rfl rfl rfl ?_
    refine TOps.blk rfl (by repeat (first | exact Ext.refl _ | refine Ext.cons rfl ?_)) (by repeat (first | exact Le.refl _ | apply Le.drop))
  refine TOps.assign rfl rfl ?_
  refine TOps.next ?_
  refine Tri.cond rfl (fun hc1 => ?_) (fun hc1 => ?_)
  · try simp only [decide_eq_true_eq, decide_eq_false_iff_not, Bool.and_eq_true, Bool.or_eq_true, Bool.not_eq_true', Bool.and_eq_false_iff, Bool.or_eq_false_iff, Bool.not_eq_false', Int.not_lt, Int.not_le, ne_eq, Decidable.not_not, Option.isSome_iff_ne_none, Option.isNone_iff_eq_none] at hc1
    have hpe := Fm.playErr_1 (F := F) (S := Z) (i := i) (fl := fl) (by omega)
    refine Tri.seq (Tri.region ?_)
    refine TOps.loadN rfl ti53 (by first | exact Rd.all (by repeat (first | exact List.Mem.head _ | apply List.Mem.tail)) | (repeat (first | assumption | apply Rd.up))) rfl rfl ?_
    refine TOps.storeN rfl rfl ti53 rfl rfl (by repeat (first | exact Upd.here | apply Upd.there)) (by first | decide | (simp; done) | (simp; omega)) ?_
    refine TOps.assign rfl rfl ?_
    refine TOps.assign rfl rfl ?_
    refine TOps.next ?_
    refine Tri.ret3 (H' := H) Try.results29 (fun _ _ h => h) (.cellN rfl rfl ti53 (Rd.all (by repeat (first | exact List.Mem.head _ | apply List.Mem.tail))) rfl) (.tmp rfl) (.tmp rfl) (Le.drop (Le.drop (Le.refl _))) ⟨[], la, lcap, by rw [Fm.play_err hpe]; exact hlx, by rw [Fm.play_err hpe]; exact hcap, by rw [Fm.play_err hpe]; unfold Fm.playTop; rw [hpe]; rfl, rfl⟩
  try simp only [decide_eq_true_eq, decide_eq_false_iff_not, Bool.and_eq_true, Bool.or_eq_true, Bool.not_eq_true', Bool.and_eq_false_iff, Bool.or_eq_false_iff, Bool.not_eq_false', Int.not_lt, Int.not_le, ne_eq, Decidable.not_not, Option.isSome_iff_ne_none, Option.isNone_iff_eq_none] at hc1
  obtain ⟨n, rfl⟩ := Int.eq_ofNat_of_zero_le (show 0 ≤ i by omega)
  have hnv : n < v := by omega
  have hin : ¬ ((n : Int) < 0 ∨ F.vars ≤ n) := by omega
  have hbit := bit_step Z.f n (by omega)
  have h2n : 2 ^ n < 2 ^ v := Nat.pow_lt_pow_right (by decide) hnv
  have hxl : Z.f ^^^ 2 ^ n < 2 ^ F.vars.toNat := by rw [hvn]; exact xor_bit_lt hff hnv
  refine Tri.seq (Tri.region ?_)
  first | refine TOps.fieldB 3 rfl Try.underlying53 rfl rfl ti3 rfl rfl rfl ?_ | refine TOps.fieldN 3 rfl Try.underlying53 rfl rfl ti3 rfl rfl rfl ?_
  refine TOps.load1 rfl ti3 (by first | exact Rd.lit (by repeat (first | exact List.Mem.head _ | apply List.Mem.tail)) rfl | (repeat (first | assumption | exact Rd.fld (by assumption) 3 rfl | apply Rd.up))) rfl ?_
  refine TOps.move rfl rfl ?_
  refine TOps.shr rfl rfl (by omega) rfl rfl ?_
  refine TOps.and (r := if Z.f.testBit n then 1 else 0) rfl rfl (by rw [Int.toNat_natCast]; exact hbit) rfl ?_
  refine TOps.eqlIr (r := Z.f.testBit n) rfl rfl (hsp _) rfl ?_
  refine TOps.move rfl rfl ?_
  refine TOps.eqlB rfl rfl Try.underlying4 rfl ?_
  refine TOps.assign rfl rfl ?_
  refine TOps.next ?_
  refine Tri.cond rfl (fun hc2 => ?_) (fun hc2 => ?_)
  · try simp only [decide_eq_true_eq, decide_eq_false_iff_not, Bool.and_eq_true, Bool.or_eq_true, Bool.not_eq_true', Bool.and_eq_false_iff, Bool.or_eq_false_iff, Bool.not_eq_false', Int.not_lt, Int.not_le, ne_eq, Decidable.not_not, Option.isSome_iff_ne_none, Option.isNone_iff_eq_none] at hc2
    have hpe := Fm.playErr_2 (F := F) (S := Z) (i := n) (fl := fl) hin (by simpa using hc2)
    refine Tri.seq (Tri.region ?_)
    refine TOps.loadN rfl ti53 (by first | exact Rd.all (by repeat (first | exact List.Mem.head _ | apply List.Mem.tail)) | (repeat (first | assumption | apply Rd.up))) rfl rfl ?_
    refine TOps.storeN rfl rfl ti53 rfl rfl (by repeat (first | exact Upd.here | apply Upd.there)) (by first | decide | (simp; done) | (simp; omega)) ?_
    refine TOps.assign rfl rfl ?_
    refine TOps.assign rfl rfl ?_
    refine TOps.next ?_
    refine Tri.ret3 (H' := H) Try.results29 (fun _ _ h => h) (.cellN rfl rfl ti53 (Rd.all (by repeat (first | exact List.Mem.head _ | apply List.Mem.tail))) rfl) (.tmp rfl) (.tmp rfl) (Le.drop (Le.drop (Le.refl _))) ⟨[], la, lcap, by rw [Fm.play_err hpe]; exact hlx, by rw [Fm.play_err hpe]; exact hcap, by rw [Fm.play_err hpe]; unfold Fm.playTop; rw [hpe]; rfl, rfl⟩
  try simp only [decide_eq_true_eq, decide_eq_false_iff_not, Bool.and_eq_true, Bool.or_eq_true, Bool.not_eq_true', Bool.and_eq_false_iff, Bool.or_eq_false_iff, Bool.not_eq_false', Int.not_lt, Int.not_le, ne_eq, Decidable.not_not, Option.isSome_iff_ne_none, Option.isNone_iff_eq_none] at hc2
  have hnb : ¬ Z.f.testBit (n : Int).toNat = fl := by simpa using hc2
  refine Tri.seq (Tri.region ?_)
  first | refine TOps.fieldB 4 rfl Try.underlying53 rfl rfl ti39 rfl rfl rfl ?_ | refine TOps.fieldN 4 rfl Try.underlying53 rfl rfl ti39 rfl rfl rfl ?_
  refine TOps.load1 rfl ti39 (by first | exact Rd.lit (by repeat (first | exact List.Mem.head _ | apply List.Mem.tail)) rfl | (repeat (first | assumption | exact Rd.fld (by assumption) 4 rfl | apply Rd.up))) rfl ?_
  refine TOps.len rfl Try.underlying39 rfl ?_
  refine TOps.geq rfl rfl rfl ?_
  refine TOps.assign rfl rfl ?_
  refine TOps.next ?_
  refine Tri.cond rfl (fun hc3 => ?_) (fun hc3 => ?_)
  · try simp only [decide_eq_true_eq, decide_eq_false_iff_not, Bool.and_eq_true, Bool.or_eq_true, Bool.not_eq_true', Bool.and_eq_false_iff, Bool.or_eq_false_iff, Bool.not_eq_false', Int.not_lt, Int.not_le, ne_eq, Decidable.not_not, Option.isSome_iff_ne_none, Option.isNone_iff_eq_none] at hc3
    have hpe := Fm.playErr_3 (F := F) (S := Z) (i := n) (fl := fl) hin hnb (by omega)
    refine Tri.seq (Tri.region ?_)
    refine TOps.loadN rfl ti53 (by first | exact Rd.all (by repeat (first | exact List.Mem.head _ | apply List.Mem.tail)) | (repeat (first | assumption | apply Rd.up))) rfl rfl ?_
    refine TOps.storeN rfl rfl ti53 rfl rfl (by repeat (first | exact Upd.here | apply Upd.there)) (by first | decide | (simp; done) | (simp; omega)) ?_
    refine TOps.assign rfl rfl ?_
    refine TOps.assign rfl rfl ?_
    refine TOps.next ?_
    refine Tri.ret3 (H' := H) Try.results29 (fun _ _ h => h) (.cellN rfl rfl ti53 (Rd.all (by repeat (first | exact List.Mem.head _ | apply List.Mem.tail))) rfl) (.tmp rfl) (.tmp rfl) (Le.drop (Le.drop (Le.refl _))) ⟨[], la, lcap, by rw [Fm.play_err hpe]; exact hlx, by rw [Fm.play_err hpe]; exact hcap, by rw [Fm.play_err hpe]; unfold Fm.playTop; rw [hpe]; rfl, rfl⟩
  try simp only [decide_eq_true_eq, decide_eq_false_iff_not, Bool.and_eq_true, Bool.or_eq_true, Bool.not_eq_true', Bool.and_eq_false_iff, Bool.or_eq_false_iff, Bool.not_eq_false', Int.not_lt, Int.not_le, ne_eq, Decidable.not_not, Option.isSome_iff_ne_none, Option.isNone_iff_eq_none] at hc3
  have hpe := Fm.playErr_4 (F := F) (S := Z) (i := n) (fl := fl) hin hnb (by omega)
  refine Tri.fin ?_
  refine Nrm.unB ?_
  refine Nrm.next ?_
  refine Tri.seq ?_
  refine Tri.drawX (X := Unit) rfl [(1, .int .i64 n), (2, .bool fl), (3, .pointer (some ⟨b3, 0, none⟩)), (6, .pointer (some ⟨b6, 0, none⟩))] [] (fun x => [_, _, _, _, _, _, undef]) (fun x c => match c with | 0 => row (some b6) 53 5 1 [.int .i64 0, slV none 0 0 0, .int .i64 0, .int .i64 0, slV none 0 0 0] :: row (some b3) 53 5 1 [.int .i64 F.vars, slV na no nl nc ns, .int .i64 F.top, .int .i64 Z.f, (slV la 0 Z.log.length lcap)] :: H | _ + 1 => row (some b6) 53 5 1 [.int .i64 0, slV none 0 0 0, .int .i64 0, .int .i64 0, slV none 0 0 0] :: row (some b3) 53 5 1 [.int .i64 F.vars, slV na no nl nc ns, .int .i64 F.top, .int .i64 ((Z.f ^^^ 2 ^ n : Nat) : Int), (slV la 0 Z.log.length lcap)] :: H) [6] () [] rfl rfl ⟨rfl, rfl, rfl, rfl, trivial⟩ trivial (by repeat (first | exact Le.refl _ | assumption | apply Le.drop)) (by
    refine ⟨?_, ?_, ?_, ?_, ?_, ?_, ?_, trivial⟩
    · refine ⟨fun x S c he hw hd hc hcu hm _ => ?_, trivial⟩
      first | refine TOps.fieldB 3 (he _ _ rfl) Try.underlying53 rfl rfl ti3 rfl rfl rfl ?_ | refine TOps.fieldN 3 (he _ _ rfl) Try.underlying53 rfl rfl ti3 rfl rfl rfl ?_
      exact TOps.fin (Nrm.draw x (fun _ _ _ => rfl) rfl (by first | exact Le.refl _ | assumption | exact (by repeat (first | exact Le.refl _ | assumption | apply Le.drop))))
    · refine ⟨fun x S c he hw hd hc hcu hm _ => ?_, trivial⟩
      obtain ⟨h0, -⟩ := hd
      obtain rfl : c = 0 := by have : c ≤ 0 := hcu; omega
      refine TOps.load1 h0 ti3 (Rd.lit (by repeat (first | exact List.Mem.head _ | apply List.Mem.tail)) rfl) rfl ?_
      exact TOps.fin (Nrm.draw x (fun _ _ _ => rfl) rfl (by first | exact Le.refl _ | assumption | exact (by repeat (first | exact Le.refl _ | assumption | apply Le.drop))))
    · refine ⟨fun x S c he hw hd hc hcu hm _ => ?_, trivial⟩
      refine TOps.move (he _ _ rfl) rfl ?_
      exact TOps.fin (Nrm.draw x (fun _ _ _ => rfl) rfl (by first | exact Le.refl _ | assumption | exact (by repeat (first | exact Le.refl _ | assumption | apply Le.drop))))
    · refine ⟨fun x S c he hw hd hc hcu hm _ => ?_, trivial⟩
      obtain ⟨h2, -⟩ := hd
      refine TOps.shl (r := ((2 ^ n : Nat) : Int)) rfl h2 (by omega) (by rw [Int.toNat_natCast]; exact ishl_one (by omega)) rfl ?_
      exact TOps.fin (Nrm.draw x (fun _ _ _ => rfl) rfl (by first | exact Le.refl _ | assumption | exact (by repeat (first | exact Le.refl _ | assumption | apply Le.drop))))
    · refine ⟨fun x S c he hw hd hc hcu hm _ => ?_, trivial⟩
      obtain ⟨h1, h3, -⟩ := hd
      refine TOps.xor (r := ((Z.f ^^^ 2 ^ n : Nat) : Int)) h1 h3 (ixor_nat (by omega) (by omega)) rfl ?_
      exact TOps.fin (Nrm.draw x (fun _ _ _ => rfl) rfl (by first | exact Le.refl _ | assumption | exact (by repeat (first | exact Le.refl _ | assumption | apply Le.drop))))
    · refine ⟨fun x S c he hw hd hc hcu hm _ => ?_, trivial⟩
      obtain ⟨h0, h1, h2, h3, h4, -⟩ := hd
      first | refine TOps.fieldB 3 (he _ _ rfl) Try.underlying53 rfl rfl ti3 rfl rfl rfl ?_ | refine TOps.fieldN 3 (he _ _ rfl) Try.underlying53 rfl rfl ti3 rfl rfl rfl ?_
      exact TOps.fin (Nrm.draw x (fun _ _ _ => rfl) rfl (by first | exact Le.refl _ | assumption | exact (by repeat (first | exact Le.refl _ | assumption | apply Le.drop))))
    · refine ⟨fun x S c he hw hd hc hcu hm _ => ?_, trivial⟩
      obtain ⟨h5, h4, h0, h1, h2, h3, _, -⟩ := hd
      obtain rfl : c = 0 := hm rfl
      refine TOps.store1 h5 h4 ti3 rfl rfl (by repeat (first | exact Upd.here | apply Upd.there)) (by simp) ?_
      exact TOps.fin (Nrm.draw x (fun _ _ _ => rfl) rfl (by first | exact Le.refl _ | assumption | exact (by repeat (first | exact Le.refl _ | assumption | apply Le.drop))))
    ) (fun x => ?_)
  refine Nrm.next ?_
  refine Tri.seq (Tri.region ?_)
  refine TOps.loadN rfl ti53 (by first | exact Rd.all (by repeat (first | exact List.Mem.head _ | apply List.Mem.tail)) | (repeat (first | assumption | apply Rd.up))) rfl rfl ?_
  refine TOps.call (vs := [_]) Try.call45 ⟨rfl, trivial⟩ (rtop55_g (f := Z.f ^^^ 2 ^ n) (hF2 _ _) hg hxl) rfl ?_
  rintro _ _ ⟨rfl, rfl⟩
  refine TOps.assign rfl rfl ?_
  refine TOps.next ?_
  refine Tri.seq (Tri.region ?_)
  refine TOps.buildSlice0 Try.underlying39 ti42 rfl (fun b45 => ?_)
  first | refine TOps.fieldB 4 rfl Try.underlying53 rfl rfl ti39 rfl rfl rfl ?_ | refine TOps.fieldN 4 rfl Try.underlying53 rfl rfl ti39 rfl rfl rfl ?_
  refine TOps.load1 rfl ti39 (by first | exact Rd.lit (by repeat (first | exact List.Mem.head _ | apply List.Mem.tail)) rfl | (repeat (first | assumption | exact Rd.fld (by assumption) 4 rfl | apply Rd.up))) rfl ?_
  refine TOps.append (ys := logCells Z.log) rfl rfl Try.underlying39 ti42 rfl (fun _ _ => Upd.here) (RdS.up (RdS.up (RdS.up (RdS.le hlx lL)))) hlc rfl (logCells_one _) (by omega) (by omega) rfl (fun a48 c48 h48 => ?_)
  refine TOps.move rfl rfl ?_
  refine TOps.move rfl rfl ?_
  refine TOps.move rfl rfl ?_
  refine TOps.buildStruct (vs := [(0, _), (1, _), (2, _)]) (xs := [_, _, _]) [(0, 1), (1, 1), (2, 1)] Try.underlying42 ti42 (fun w => by simp) ⟨rfl, rfl, rfl, rfl, rfl, rfl, trivial⟩ rfl rfl ?_
  refine TOps.buildSlice (vs := [_]) (xs := [_, _, _]) Try.underlying39 ti42 ⟨rfl, rfl, trivial⟩ rfl rfl rfl rfl rfl rfl (by decide) rfl (fun b53 => ?_)
  refine TOps.appendLit rfl rfl Try.underlying39 ti42 rfl (fun _ _ => Upd.here) rfl (by simp [hlc]) rfl (by omega) (by omega) (by simp) rfl (fun b54 cap54 => ?_)
  first | refine TOps.fieldB 4 rfl Try.underlying53 rfl rfl ti39 rfl rfl rfl ?_ | refine TOps.fieldN 4 rfl Try.underlying53 rfl rfl ti39 rfl rfl rfl ?_
  refine TOps.store1 rfl rfl ti39 rfl rfl (by repeat (first | exact Upd.here | apply Upd.there)) (by first | decide | (simp; done) | (simp; omega) | exact (show (4 : Nat) < 5 by decide)) ?_
  refine TOps.rowCap (b := b54) (E := 42) (sz := 3) (cap := cap54) (by repeat (first | exact List.Mem.head _ | apply List.Mem.tail)) (fun hc54 => ?_)
  simp only [List.nil_append, List.length_append, hlc, List.length_cons, List.length_nil] at hc54
  refine TOps.next ?_
  refine Tri.seq (Tri.region ?_)
  refine TOps.loadN rfl ti53 (by first | exact Rd.all (by repeat (first | exact List.Mem.head _ | apply List.Mem.tail)) | (repeat (first | assumption | apply Rd.up))) rfl rfl ?_
  refine TOps.move rfl rfl ?_
  refine TOps.storeN rfl rfl ti53 rfl rfl (by repeat (first | exact Upd.here | apply Upd.there)) (by first | decide | (simp; done) | (simp; omega)) ?_
  refine TOps.assign rfl rfl ?_
  refine TOps.assign rfl rfl ?_
  refine TOps.next ?_
  have hpl : (Z.log ++ [(⟨n, fl, F.value ((Z.f ^^^ 2 ^ n : Nat) : Int)⟩ : Pl)]).length = 0 + Z.log.length + 1 := by simp
  refine Tri.ret3 (H' := [row (some b54) 42 3 cap54 (logCells (Z.push (Z.f ^^^ 2 ^ n) ⟨n, fl, F.value ((Z.f ^^^ 2 ^ n : Nat) : Int)⟩).log)] ++ H) Try.results29 (fun _ _ h => h) (.cellN rfl rfl ti53 (Rd.all (by repeat (first | exact List.Mem.head _ | apply List.Mem.tail))) rfl) (.tmp rfl) (.tmp rfl) (Sp.le (by repeat (first | exact Sp.refl _ | exact Sp.sub (by assumption) | refine Sp.cons (by repeat (first | exact Pick.here | exact Pick.row (by first | (simp; done) | (rw [logCells_append]; rfl)) | apply Pick.there)) ?_ | exact Sp.nil | apply Sp.skip))) ⟨_, some b54, cap54, by rw [Fm.play_ok hpe]; exact RdS.ofRowS (List.Mem.head _), by rw [Fm.play_ok hpe]; show (Z.log ++ [_]).length ≤ cap54; simp; omega, ?_, rfl⟩
  rw [Fm.play_ok hpe]
  unfold Fm.playTop
  rw [hpe]
  show Value.tuple _ = Value.tuple (List.toArray [.agg (List.toArray [.int .i64 F.vars, slV na no nl nc ns, .int .i64 F.top, .int .i64 ((Z.f ^^^ 2 ^ n : Nat) : Int), slV (some b54) 0 (Z.log ++ [(⟨n, fl, F.value ((Z.f ^^^ 2 ^ n : Nat) : Int)⟩ : Pl)]).length cap54]), .bool (F.value ((Z.f ^^^ 2 ^ n : Nat) : Int)), .int .i64 0])
  rw [hpl]
  rfl
theorem rundo_g {H HL : List Ent} {F : Fm} {na ns : Option Nat} {no nl nc : Nat} {Z : Mo} {la : Option Nat} {lcap : Nat} (hg : F.Good) (hZ : MoOk F Z) (lL : Le H HL) (hlx : RdS HL la 0 (logCells Z.log)) (hcap : Z.log.length ≤ lcap) :
    Gives Try.prog 28 [.agg (List.toArray [.int .i64 F.vars, slV na no nl nc ns, .int .i64 F.top, .int .i64 Z.f, (slV la 0 Z.log.length lcap)])] H (fun u H' => ∃ N la' lcap', RdS (N ++ HL) la' 0 (logCells Z.undo.log) ∧ Z.undo.log.length ≤ lcap' ∧ u = .tuple (List.toArray [.agg (List.toArray [.int .i64 F.vars, slV na no nl nc ns, .int .i64 F.top, .int .i64 Z.undo.f, (slV la' 0 Z.undo.log.length lcap')]), .int .i64 (Z.undoErr.getD 0)]) ∧ N ++ H = H') := by
  have g0 := hg.v0; have g1 := hg.v1
  obtain ⟨v, hv⟩ := Int.eq_ofNat_of_zero_le g0
  have hvn : F.vars.toNat = v := by omega
  have h24 := pow24 (show v ≤ 24 by omega)
  have hff := hZ.lt
  have hl4 := hZ.len
  have hev := hZ.ev
  rw [hvn] at hff
  obtain ⟨f, log⟩ := Z
  dsimp only at hlx hff hl4 hev hcap ⊢
  refine Gives.enter Try.func28 rfl (by exact Try.ntmps28) rfl ?_
  refine Tri.seq (Tri.region ?_)
  refine TOps.boxN rfl ti53 rfl rfl (fun b1 => ?_)
  refine TOps.alloc ti53 rfl (fun b2 => ?_)
  refine TOps.assign rfl rfl ?_
  refine TOps.next ?_
  refine Tri.seq (Tri.region ?_)
  first | refine TOps.fieldB 4 rfl Try.underlying53 rfl rfl ti39 rfl rfl rfl ?_ | refine TOps.fieldN 4 rfl Try.underlying53 rfl rfl ti39 rfl rfl rfl ?_
  refine TOps.load1 rfl ti39 (by first | exact Rd.lit (by repeat (first | exact List.Mem.head _ | apply List.Mem.tail)) rfl | (repeat (first | assumption | exact Rd.fld (by assumption) 4 rfl | apply Rd.up))) rfl ?_
  refine TOps.len rfl Try.underlying39 rfl ?_
  refine TOps.assign rfl rfl ?_
  refine TOps.next ?_
  refine Tri.seq ?_
  refine Tri.seq (Tri.region ?_)
  refine TOps.move rfl rfl ?_
  refine TOps.eqlI rfl rfl rfl ?_
  refine TOps.next ?_
  refine Tri.cond rfl (fun hc1 => ?_) (fun hc1 => ?_)
  · try simp only [decide_eq_true_eq, decide_eq_false_iff_not, Bool.and_eq_true, Bool.or_eq_true, Bool.not_eq_true', Bool.and_eq_false_iff, Bool.or_eq_false_iff, Bool.not_eq_false', Int.not_lt, Int.not_le, ne_eq, Decidable.not_not, Option.isSome_iff_ne_none, Option.isNone_iff_eq_none] at hc1
    obtain rfl : log = [] := List.eq_nil_of_length_eq_zero (by omega)
    refine Tri.seq (Tri.region ?_)
    refine TOps.loadN rfl ti53 (by first | exact Rd.all (by repeat (first | exact List.Mem.head _ | apply List.Mem.tail)) | (repeat (first | assumption | apply Rd.up))) rfl rfl ?_
    refine TOps.storeN rfl rfl ti53 rfl rfl (by repeat (first | exact Upd.here | apply Upd.there)) (by first | decide | (simp; done) | (simp; omega)) ?_
    refine TOps.assign rfl rfl ?_
    refine TOps.next ?_
    refine Tri.ret2 (H' := H) Try.results28 (fun _ _ h => h) (.cellN rfl rfl ti53 (Rd.all (by repeat (first | exact List.Mem.head _ | apply List.Mem.tail))) rfl) (.tmp rfl) (Le.drop (Le.drop (Le.refl _))) ⟨[], la, lcap, hlx, by simp [Mo.undo], rfl, rfl⟩
  try simp only [decide_eq_true_eq, decide_eq_false_iff_not, Bool.and_eq_true, Bool.or_eq_true, Bool.not_eq_true', Bool.and_eq_false_iff, Bool.or_eq_false_iff, Bool.not_eq_false', Int.not_lt, Int.not_le, ne_eq, Decidable.not_not, Option.isSome_iff_ne_none, Option.isNone_iff_eq_none] at hc1
  obtain ⟨l, p, rfl⟩ : ∃ l p, log = l ++ [p] := by
    rcases List.eq_nil_or_concat log with rfl | ⟨l, p, rfl⟩
    · simp at hc1
    · exact ⟨l, p, by simp⟩
  have hpe := hev p (by simp)
  obtain ⟨n, hn⟩ := Int.eq_ofNat_of_zero_le hpe.1
  have h2n : 2 ^ n < 2 ^ v := Nat.pow_lt_pow_right (by decide) (by omega)
  have hll : (l ++ [p]).length = l.length + 1 := by simp
  have hEv := logCells_last l p
  obtain ⟨lb, rfl, -, q1⟩ := hlx.blk (k := l.length * 3) (ws := plCells p) (by simp [plCells]) hEv
  rw [Nat.zero_add] at q1
  have q2 := q1.part 0 (v := .int .i64 p.ev) rfl
  rw [Nat.add_zero, hn] at q2
  have hlr : RdS HL (some lb) 0 (logCells l) := by rcases hlx with h | ⟨b, h1, h2, h3⟩; exact absurd h (by rw [logCells_append]; simp [logCells, plCells]); cases h1; exact .inr ⟨lb, rfl, rfl, by rw [logCells_append] at h3; have := h3.pre (logCells l).length; rwa [List.take_left] at this⟩
  rw [hll] at hl4 hcap ⊢
  refine Tri.fin ?_
  refine Nrm.next ?_
  refine Tri.seq ?_
  refine Tri.drawX (X := Unit) rfl [(1, .pointer (some ⟨b1, 0, none⟩)), (2, .pointer (some ⟨b2, 0, none⟩)), (4, .int .i64 ((l.length + 1 : Nat) : Int))] [] (fun x => [_, _, _, _, _, _, _, _, _, _, _, _, undef]) (fun x c => match c with | 0 => row (some b2) 53 5 1 [.int .i64 0, slV none 0 0 0, .int .i64 0, .int .i64 0, slV none 0 0 0] :: row (some b1) 53 5 1 [.int .i64 F.vars, slV na no nl nc ns, .int .i64 F.top, .int .i64 f, (slV (some lb) 0 (l.length + 1) lcap)] :: H | _ + 1 => row (some b2) 53 5 1 [.int .i64 0, slV none 0 0 0, .int .i64 0, .int .i64 0, slV none 0 0 0] :: row (some b1) 53 5 1 [.int .i64 F.vars, slV na no nl nc ns, .int .i64 F.top, .int .i64 ((f ^^^ 2 ^ n : Nat) : Int), (slV (some lb) 0 (l.length + 1) lcap)] :: H) [12] () [] rfl rfl ⟨rfl, rfl, rfl, trivial⟩ trivial (by repeat (first | exact Le.refl _ | assumption | apply Le.drop)) (by
    refine ⟨?_, ?_, ?_, ?_, ?_, ?_, ?_, ?_, ?_, ?_, ?_, ?_, ?_, trivial⟩
    · refine ⟨fun x S c he hw hd hc hcu hm _ => ?_, trivial⟩
      first | refine TOps.fieldB 3 (he _ _ rfl) Try.underlying53 rfl rfl ti3 rfl rfl rfl ?_ | refine TOps.fieldN 3 (he _ _ rfl) Try.underlying53 rfl rfl ti3 rfl rfl rfl ?_
      exact TOps.fin (Nrm.draw x (fun _ _ _ => rfl) rfl (by first | exact Le.refl _ | assumption | exact (by repeat (first | exact Le.refl _ | assumption | apply Le.drop))))
    · refine ⟨fun x S c he hw hd hc hcu hm _ => ?_, trivial⟩
      obtain ⟨h0, -⟩ := hd
      obtain rfl : c = 0 := by have : c ≤ 0 := hcu; omega
      refine TOps.load1 h0 ti3 (Rd.lit (by repeat (first | exact List.Mem.head _ | apply List.Mem.tail)) rfl) rfl ?_
      exact TOps.fin (Nrm.draw x (fun _ _ _ => rfl) rfl (by first | exact Le.refl _ | assumption | exact (by repeat (first | exact Le.refl _ | assumption | apply Le.drop))))
    · refine ⟨fun x S c he hw hd hc hcu hm _ => ?_, trivial⟩
      first | refine TOps.fieldB 4 (he _ _ rfl) Try.underlying53 rfl rfl ti39 rfl rfl rfl ?_ | refine TOps.fieldN 4 (he _ _ rfl) Try.underlying53 rfl rfl ti39 rfl rfl rfl ?_
      exact TOps.fin (Nrm.draw x (fun _ _ _ => rfl) rfl (by first | exact Le.refl _ | assumption | exact (by repeat (first | exact Le.refl _ | assumption | apply Le.drop))))
    · refine ⟨fun x S c he hw hd hc hcu hm _ => ?_, trivial⟩
      obtain ⟨h2, -⟩ := hd
      obtain rfl : c = 0 := by have : c ≤ 0 := hcu; omega
      refine TOps.load1 h2 ti39 (Rd.lit (by repeat (first | exact List.Mem.head _ | apply List.Mem.tail)) rfl) rfl ?_
      exact TOps.fin (Nrm.draw x (fun _ _ _ => rfl) rfl (by first | exact Le.refl _ | assumption | exact (by repeat (first | exact Le.refl _ | assumption | apply Le.drop))))
    · refine ⟨fun x S c he hw hd hc hcu hm _ => ?_, trivial⟩
      refine TOps.move (he _ _ rfl) rfl ?_
      exact TOps.fin (Nrm.draw x (fun _ _ _ => rfl) rfl (by first | exact Le.refl _ | assumption | exact (by repeat (first | exact Le.refl _ | assumption | apply Le.drop))))
    · refine ⟨fun x S c he hw hd hc hcu hm _ => ?_, trivial⟩
      obtain ⟨h4, -⟩ := hd
      refine TOps.sub (r := ((l.length : Nat) : Int)) h4 rfl (by rw [wrapI (by omega) (by omega)]; omega) rfl ?_
      exact TOps.fin (Nrm.draw x (fun _ _ _ => rfl) rfl (by first | exact Le.refl _ | assumption | exact (by repeat (first | exact Le.refl _ | assumption | apply Le.drop))))
    · refine ⟨fun x S c he hw hd hc hcu hm _ => ?_, trivial⟩
      obtain ⟨h3, h5, -⟩ := hd
      refine TOps.indexAddr (off' := l.length * 3) h3 h5 Try.underlying39 ti42 (by omega) (by omega) (by omega) rfl ?_
      exact TOps.fin (Nrm.draw x (fun _ _ _ => rfl) rfl (by first | exact Le.refl _ | assumption | exact (by repeat (first | exact Le.refl _ | assumption | apply Le.drop))))
    · refine ⟨fun x S c he hw hd hc hcu hm _ => ?_, trivial⟩
      obtain ⟨h6, -⟩ := hd
      refine TOps.field0 h6 Try.underlying42 rfl rfl ti3 rfl rfl rfl ?_
      exact TOps.fin (Nrm.draw x (fun _ _ _ => rfl) rfl (by first | exact Le.refl _ | assumption | exact (by repeat (first | exact Le.refl _ | assumption | apply Le.drop))))
    · refine ⟨fun x S c he hw hd hc hcu hm _ => ?_, trivial⟩
      obtain ⟨h7, -⟩ := hd
      obtain rfl : c = 0 := by have : c ≤ 0 := hcu; omega
      refine TOps.load1 (v := .int .i64 n) h7 ti3 (q2.le (Le.drop (Le.drop lL))) rfl ?_
      exact TOps.fin (Nrm.draw x (fun _ _ _ => rfl) rfl (by first | exact Le.refl _ | assumption | exact (by repeat (first | exact Le.refl _ | assumption | apply Le.drop))))
    · refine ⟨fun x S c he hw hd hc hcu hm _ => ?_, trivial⟩
      obtain ⟨h8, -⟩ := hd
      refine TOps.shl (r := ((2 ^ n : Nat) : Int)) rfl h8 (by omega) (by rw [Int.toNat_natCast]; exact ishl_one (by omega)) rfl ?_
      exact TOps.fin (Nrm.draw x (fun _ _ _ => rfl) rfl (by first | exact Le.refl _ | assumption | exact (by repeat (first | exact Le.refl _ | assumption | apply Le.drop))))
    · refine ⟨fun x S c he hw hd hc hcu hm _ => ?_, trivial⟩
      obtain ⟨h1, h9, -⟩ := hd
      refine TOps.xor (r := ((f ^^^ 2 ^ n : Nat) : Int)) h1 h9 (ixor_nat (by omega) (by omega)) rfl ?_
      exact TOps.fin (Nrm.draw x (fun _ _ _ => rfl) rfl (by first | exact Le.refl _ | assumption | exact (by repeat (first | exact Le.refl _ | assumption | apply Le.drop))))
    · refine ⟨fun x S c he hw hd hc hcu hm _ => ?_, trivial⟩
      obtain ⟨h0, h1, h2, h3, h4, h5, h6, h7, h8, h9, h10, -⟩ := hd
      first | refine TOps.fieldB 3 (he _ _ rfl) Try.underlying53 rfl rfl ti3 rfl rfl rfl ?_ | refine TOps.fieldN 3 (he _ _ rfl) Try.underlying53 rfl rfl ti3 rfl rfl rfl ?_
      exact TOps.fin (Nrm.draw x (fun _ _ _ => rfl) rfl (by first | exact Le.refl _ | assumption | exact (by repeat (first | exact Le.refl _ | assumption | apply Le.drop))))
    · refine ⟨fun x S c he hw hd hc hcu hm _ => ?_, trivial⟩
      obtain ⟨h11, h10, h0, h1, h2, h3, h4, h5, h6, h7, h8, h9, _, -⟩ := hd
      obtain rfl : c = 0 := hm rfl
      refine TOps.store1 h11 h10 ti3 rfl rfl (by repeat (first | exact Upd.here | apply Upd.there)) (by simp) ?_
      exact TOps.fin (Nrm.draw x (fun _ _ _ => rfl) rfl (by first | exact Le.refl _ | assumption | exact (by repeat (first | exact Le.refl _ | assumption | apply Le.drop))))
    ) (fun x => ?_)
  refine Nrm.next ?_
  refine Tri.seq (Tri.region ?_)
  refine TOps.buildSlice0 Try.underlying39 ti42 rfl (fun b23 => ?_)
  first | refine TOps.fieldB 4 rfl Try.underlying53 rfl rfl ti39 rfl rfl rfl ?_ | refine TOps.fieldN 4 rfl Try.underlying53 rfl rfl ti39 rfl rfl rfl ?_
  refine TOps.load1 rfl ti39 (by first | exact Rd.lit (by repeat (first | exact List.Mem.head _ | apply List.Mem.tail)) rfl | (repeat (first | assumption | exact Rd.fld (by assumption) 4 rfl | apply Rd.up))) rfl ?_
  refine TOps.move rfl rfl ?_
  refine TOps.sub (r := ((l.length : Nat) : Int)) rfl rfl (by rw [wrapI (by omega) (by omega)]; omega) rfl ?_
  refine TOps.sliceHi rfl rfl Try.underlying39 ti42 (by omega) rfl ?_
  refine TOps.append (ys := logCells l) rfl rfl Try.underlying39 ti42 rfl (fun _ _ => Upd.here) (RdS.up (RdS.up (RdS.up (RdS.le hlr lL)))) (logCells_length _) rfl (logCells_one _) (by omega) (by omega) rfl (fun a48 c48 h48 => ?_)
  first | refine TOps.fieldB 4 rfl Try.underlying53 rfl rfl ti39 rfl rfl rfl ?_ | refine TOps.fieldN 4 rfl Try.underlying53 rfl rfl ti39 rfl rfl rfl ?_
  refine TOps.store1 rfl rfl ti39 rfl rfl (by repeat (first | exact Upd.here | apply Upd.there)) (by first | decide | (simp; done) | (simp; omega) | exact (show (4 : Nat) < 5 by decide)) ?_
  refine TOps.rowCapA (a := a48) (E := 42) (sz := 3) (cap := c48) (by repeat (first | exact List.Mem.head _ | apply List.Mem.tail)) (fun hc54 => ?_)
  simp only [List.nil_append, logCells_length] at hc54
  refine TOps.next ?_
  refine Tri.seq (Tri.region ?_)
  refine TOps.loadN rfl ti53 (by first | exact Rd.all (by repeat (first | exact List.Mem.head _ | apply List.Mem.tail)) | (repeat (first | assumption | apply Rd.up))) rfl rfl ?_
  refine TOps.storeN rfl rfl ti53 rfl rfl (by repeat (first | exact Upd.here | apply Upd.there)) (by first | decide | (simp; done) | (simp; omega)) ?_
  refine TOps.assign rfl rfl ?_
  refine TOps.next ?_
  refine Tri.ret2 (H' := [row a48 42 3 c48 (logCells l)] ++ H) Try.results28 (fun _ _ h => h) (.cellN rfl rfl ti53 (Rd.all (by repeat (first | exact List.Mem.head _ | apply List.Mem.tail))) rfl) (.tmp rfl) (Sp.le (by repeat (first | exact Sp.refl _ | exact Sp.sub (by assumption) | refine Sp.cons (by repeat (first | exact Pick.here | apply Pick.there)) ?_ | exact Sp.nil | apply Sp.skip))) ⟨_, a48, c48, by rw [Mo.undo_snoc]; exact RdS.ofRowA (List.Mem.head _) h48, by rw [Mo.undo_snoc]; show l.length ≤ c48; omega, ?_, rfl⟩
  rw [Mo.undo_snoc, hn]
  show Value.tuple _ = Value.tuple (List.toArray [.agg (List.toArray [.int .i64 F.vars, slV na no nl nc ns, .int .i64 F.top, .int .i64 ((f ^^^ 2 ^ n : Nat) : Int), slV a48 0 l.length c48]), .int .i64 ((Mo.undoErr ⟨f, l ++ [p]⟩).getD 0)])
  rw [show Mo.undoErr ⟨f, l ++ [p]⟩ = none from if_neg (by simp)]
  rw [show 0 + l.length = l.length from Nat.zero_add _]
  rfl
theorem isLaw_g {H : List Ent} {m : Nat} {F : Fm} {nv lv : Value} {f : Nat} (hr : Rd H m 0 [.int .i64 F.vars, nv, .int .i64 F.top, .int .i64 f, lv]) (hF : RF H (.agg (List.toArray [.int .i64 F.vars, nv, .int .i64 F.top])) F) (hg : F.Good) (hf : f < 2 ^ F.vars.toNat) {xv lx : Value} (hX : RF H (.agg (List.toArray [.int .i64 F.vars, xv, .int .i64 F.top])) F) :
    Gives Try.prog 30 [.pointer (some ⟨m, 0, none⟩), .agg (List.toArray [.int .i64 F.vars, xv, .int .i64 F.top, .int .i64 f, lx])] H (R1 (.bool true) H) := by
  have hv24 : F.vars.toNat ≤ 24 := by have := hg.v0; have := hg.v1; omega
  have hw1 : ∀ k, k < F.vars.toNat → (F.work f).testBit k = (f.testBit k == false) := fun k hk => by rw [Fm.work_bit hf, decide_eq_true hk]; cases f.testBit k <;> rfl
  have hw2 : ∀ k, k < F.vars.toNat → f.testBit k = (f.testBit k == true) := fun k hk => by cases f.testBit k <;> rfl
  have hs24 : F.nearSet f < 2 ^ 24 := Nat.lt_of_lt_of_le (F.nearSet_lt f) (Nat.pow_le_pow_right (by decide) hv24)
  refine Gives.enter Try.func30 rfl (by exact Try.ntmps30) rfl ?_
  refine Tri.seq (Tri.region ?_)
  refine TOps.boxN rfl ti53 rfl rfl (fun b3 => ?_)
  refine TOps.hide (fun H1 l1 s1 r1 => ?_)
  replace hF := hF.le l1; replace hX := hX.le l1; replace hr := hr.le l1
  refine TOps.assign rfl rfl ?_
  refine TOps.next ?_
  refine Tri.seq ?_
  refine Tri.seq ?_
  refine Tri.drawC rfl [(0, .pointer (some ⟨m, 0, none⟩)), (3, .pointer (some ⟨b3, 0, none⟩))] [] [_, _, _, _, _, _, _, _, _, _, _, _, _, _, _, _, _, _, _, _, _, _, _, _, _, _] (H1) [25] rfl ⟨rfl, rfl, trivial⟩ trivial (by repeat (first | exact Le.refl _ | assumption | apply Le.drop)) (by
    refine ⟨?_, ?_, ?_, ?_, ?_, ?_, ?_, ?_, ?_, ?_, ?_, ?_, ?_, ?_, ?_, ?_, ?_, ?_, ?_, ?_, ?_, ?_, ?_, ?_, ?_, ?_, trivial⟩
    · refine ⟨fun x S c he hw hd hc hcu hm _ => ?_, trivial⟩
      refine TOps.move (he _ _ rfl) rfl ?_
      exact TOps.fin (Nrm.draw x (fun _ _ _ => rfl) rfl (by first | exact Le.refl _ | assumption | exact (by repeat (first | exact Le.refl _ | assumption | apply Le.drop))))
    · refine ⟨fun x S c he hw hd hc hcu hm _ => ?_, trivial⟩
      obtain ⟨h0, -⟩ := hd
      refine TOps.call (vs := [_]) Try.call12 ⟨h0, trivial⟩ (mfailed_g hr hF hg hf) rfl ?_
      rintro _ _ ⟨rfl, rfl⟩
      exact TOps.fin (Nrm.draw x (fun _ _ _ => rfl) rfl (by first | exact Le.refl _ | assumption | exact (by repeat (first | exact Le.refl _ | assumption | apply Le.drop))))
    · refine ⟨fun x S c he hw hd hc hcu hm _ => ?_, trivial⟩
      first | refine TOps.fieldB 3 (he _ _ rfl) Try.underlying53 rfl rfl ti3 rfl rfl rfl ?_ | refine TOps.fieldN 3 (he _ _ rfl) Try.underlying53 rfl rfl ti3 rfl rfl rfl ?_
      exact TOps.fin (Nrm.draw x (fun _ _ _ => rfl) rfl (by first | exact Le.refl _ | assumption | exact (by repeat (first | exact Le.refl _ | assumption | apply Le.drop))))
    · refine ⟨fun x S c he hw hd hc hcu hm _ => ?_, trivial⟩
      obtain ⟨h2, -⟩ := hd
      refine TOps.load1 h2 ti3 (r1.fld 3 rfl) rfl ?_
      exact TOps.fin (Nrm.draw x (fun _ _ _ => rfl) rfl (by first | exact Le.refl _ | assumption | exact (by repeat (first | exact Le.refl _ | assumption | apply Le.drop))))
    · refine ⟨fun x S c he hw hd hc hcu hm _ => ?_, trivial⟩
      obtain ⟨h1, h3, -⟩ := hd
      refine TOps.neqIr (r := false) h1 h3 (by simp) rfl ?_
      exact TOps.fin (Nrm.draw x (fun _ _ _ => rfl) rfl (by first | exact Le.refl _ | assumption | exact (by repeat (first | exact Le.refl _ | assumption | apply Le.drop))))
    · refine ⟨fun x S c he hw hd hc hcu hm _ => ?_, trivial⟩
      obtain ⟨h4, h1, -⟩ := hd
      refine TOps.move h4 rfl ?_
      exact TOps.fin (Nrm.draw x (fun _ _ _ => rfl) rfl (by first | exact Le.refl _ | assumption | exact (by repeat (first | exact Le.refl _ | assumption | apply Le.drop))))
    · refine ⟨fun x S c he hw hd hc hcu hm hgd => ?_, ⟨_, rfl⟩, .inl ⟨rfl, fun x => .inl rfl⟩⟩
      obtain ⟨h5, -⟩ := hd
      refine TOps.move (he _ _ rfl) rfl ?_
      exact TOps.fin (Nrm.draw x (fun _ _ _ => rfl) rfl (by first | exact Le.refl _ | assumption | exact (by repeat (first | exact Le.refl _ | assumption | apply Le.drop))))
    · refine ⟨fun x S c he hw hd hc hcu hm hgd => ?_, ⟨_, rfl⟩, .inl ⟨rfl, fun x => .inl rfl⟩⟩
      obtain ⟨h6, h5, _, -⟩ := hd
      refine TOps.call (vs := [_]) Try.call15 ⟨h6, trivial⟩ (mtop_g hr hF hg hf) rfl ?_
      rintro _ _ ⟨rfl, rfl⟩
      exact TOps.fin (Nrm.draw x (fun _ _ _ => rfl) rfl (by first | exact Le.refl _ | assumption | exact (by repeat (first | exact Le.refl _ | assumption | apply Le.drop))))
    · refine ⟨fun x S c he hw hd hc hcu hm hgd => ?_, ⟨_, rfl⟩, .inl ⟨rfl, fun x => .inl rfl⟩⟩
      obtain ⟨h5, -⟩ := hd
      refine TOps.loadN (vs := [.int .i64 F.vars, xv, .int .i64 F.top, .int .i64 f, lx]) (he _ _ rfl) ti53 r1 rfl rfl ?_
      exact TOps.fin (Nrm.draw x (fun _ _ _ => rfl) rfl (by first | exact Le.refl _ | assumption | exact (by repeat (first | exact Le.refl _ | assumption | apply Le.drop))))
    · refine ⟨fun x S c he hw hd hc hcu hm hgd => ?_, ⟨_, rfl⟩, .inl ⟨rfl, fun x => .inl rfl⟩⟩
      obtain ⟨h8, h7, h5, -⟩ := hd
      refine TOps.call (vs := [_]) Try.call45 ⟨h8, trivial⟩ (rtop55_g hX hg hf) rfl ?_
      rintro _ _ ⟨rfl, rfl⟩
      exact TOps.fin (Nrm.draw x (fun _ _ _ => rfl) rfl (by first | exact Le.refl _ | assumption | exact (by repeat (first | exact Le.refl _ | assumption | apply Le.drop))))
    · refine ⟨fun x S c he hw hd hc hcu hm hgd => ?_, ⟨_, rfl⟩, .inl ⟨rfl, fun x => .inl rfl⟩⟩
      obtain ⟨h7, h9, h5, -⟩ := hd
      refine TOps.neqBr2 (r := false) h7 h9 (by simp) Try.underlying4 rfl ?_
      exact TOps.fin (Nrm.draw x (fun _ _ _ => rfl) rfl (by first | exact Le.refl _ | assumption | exact (by repeat (first | exact Le.refl _ | assumption | apply Le.drop))))
    · refine ⟨fun x S c he hw hd hc hcu hm _ => ?_, trivial⟩
      obtain ⟨h5, h10, -⟩ := hd
      refine TOps.pick h5 rfl h10 rfl ?_
      exact TOps.fin (Nrm.draw x (fun _ _ _ => rfl) rfl (by first | exact Le.refl _ | assumption | exact (by repeat (first | exact Le.refl _ | assumption | apply Le.drop))))
    · refine ⟨fun x S c he hw hd hc hcu hm _ => ?_, trivial⟩
      obtain ⟨h11, h9, -⟩ := hd
      refine TOps.move h11 rfl ?_
      exact TOps.fin (Nrm.draw x (fun _ _ _ => rfl) rfl (by first | exact Le.refl _ | assumption | exact (by repeat (first | exact Le.refl _ | assumption | apply Le.drop))))
    · refine ⟨fun x S c he hw hd hc hcu hm hgd => ?_, ⟨_, rfl⟩, .inl ⟨rfl, fun x => .inl rfl⟩⟩
      obtain ⟨h12, -⟩ := hd
      refine TOps.move (he _ _ rfl) rfl ?_
      exact TOps.fin (Nrm.draw x (fun _ _ _ => rfl) rfl (by first | exact Le.refl _ | assumption | exact (by repeat (first | exact Le.refl _ | assumption | apply Le.drop))))
    · refine ⟨fun x S c he hw hd hc hcu hm hgd => ?_, ⟨_, rfl⟩, .inl ⟨rfl, fun x => .inl rfl⟩⟩
      obtain ⟨h13, h12, _, -⟩ := hd
      refine TOps.call (vs := [_]) Try.call13 ⟨h13, trivial⟩ (mcritical_g hr hF hg hf) rfl ?_
      rintro _ _ ⟨rfl, rfl⟩
      exact TOps.fin (Nrm.draw x (fun _ _ _ => rfl) rfl (by first | exact Le.refl _ | assumption | exact (by repeat (first | exact Le.refl _ | assumption | apply Le.drop))))
    · refine ⟨fun x S c he hw hd hc hcu hm hgd => ?_, ⟨_, rfl⟩, .inl ⟨rfl, fun x => .inl rfl⟩⟩
      obtain ⟨h12, -⟩ := hd
      refine TOps.loadN (vs := [.int .i64 F.vars, xv, .int .i64 F.top, .int .i64 f, lx]) (he _ _ rfl) ti53 r1 rfl rfl ?_
      exact TOps.fin (Nrm.draw x (fun _ _ _ => rfl) rfl (by first | exact Le.refl _ | assumption | exact (by repeat (first | exact Le.refl _ | assumption | apply Le.drop))))
    · refine ⟨fun x S c he hw hd hc hcu hm hgd => ?_, ⟨_, rfl⟩, .inl ⟨rfl, fun x => .inl rfl⟩⟩
      obtain ⟨h15, h14, h12, -⟩ := hd
      refine TOps.call (vs := [_, _]) Try.call46 ⟨h15, rfl, trivial⟩ (ralone_g hX hg hf false (F.work f) hw1) rfl ?_
      rintro _ _ ⟨rfl, rfl⟩
      exact TOps.fin (Nrm.draw x (fun _ _ _ => rfl) rfl (by first | exact Le.refl _ | assumption | exact (by repeat (first | exact Le.refl _ | assumption | apply Le.drop))))
    · refine ⟨fun x S c he hw hd hc hcu hm hgd => ?_, ⟨_, rfl⟩, .inl ⟨rfl, fun x => .inl rfl⟩⟩
      obtain ⟨h14, h16, h12, -⟩ := hd
      refine TOps.neqIr (r := false) h14 h16 (decide_eq_false (fun h => h rfl)) rfl ?_
      exact TOps.fin (Nrm.draw x (fun _ _ _ => rfl) rfl (by first | exact Le.refl _ | assumption | exact (by repeat (first | exact Le.refl _ | assumption | apply Le.drop))))
    · refine ⟨fun x S c he hw hd hc hcu hm _ => ?_, trivial⟩
      obtain ⟨h12, h17, -⟩ := hd
      refine TOps.pick h12 rfl h17 rfl ?_
      exact TOps.fin (Nrm.draw x (fun _ _ _ => rfl) rfl (by first | exact Le.refl _ | assumption | exact (by repeat (first | exact Le.refl _ | assumption | apply Le.drop))))
    · refine ⟨fun x S c he hw hd hc hcu hm _ => ?_, trivial⟩
      obtain ⟨h18, h16, -⟩ := hd
      refine TOps.move h18 rfl ?_
      exact TOps.fin (Nrm.draw x (fun _ _ _ => rfl) rfl (by first | exact Le.refl _ | assumption | exact (by repeat (first | exact Le.refl _ | assumption | apply Le.drop))))
    · refine ⟨fun x S c he hw hd hc hcu hm hgd => ?_, ⟨_, rfl⟩, .inl ⟨rfl, fun x => .inl rfl⟩⟩
      obtain ⟨h19, -⟩ := hd
      refine TOps.move (he _ _ rfl) rfl ?_
      exact TOps.fin (Nrm.draw x (fun _ _ _ => rfl) rfl (by first | exact Le.refl _ | assumption | exact (by repeat (first | exact Le.refl _ | assumption | apply Le.drop))))
    · refine ⟨fun x S c he hw hd hc hcu hm hgd => ?_, ⟨_, rfl⟩, .inl ⟨rfl, fun x => .inl rfl⟩⟩
      obtain ⟨h20, h19, _, -⟩ := hd
      refine TOps.call (vs := [_]) Try.call14 ⟨h20, trivial⟩ (mhealing_g hr hF hg hf) rfl ?_
      rintro _ _ ⟨rfl, rfl⟩
      exact TOps.fin (Nrm.draw x (fun _ _ _ => rfl) rfl (by first | exact Le.refl _ | assumption | exact (by repeat (first | exact Le.refl _ | assumption | apply Le.drop))))
    · refine ⟨fun x S c he hw hd hc hcu hm hgd => ?_, ⟨_, rfl⟩, .inl ⟨rfl, fun x => .inl rfl⟩⟩
      obtain ⟨h19, -⟩ := hd
      refine TOps.loadN (vs := [.int .i64 F.vars, xv, .int .i64 F.top, .int .i64 f, lx]) (he _ _ rfl) ti53 r1 rfl rfl ?_
      exact TOps.fin (Nrm.draw x (fun _ _ _ => rfl) rfl (by first | exact Le.refl _ | assumption | exact (by repeat (first | exact Le.refl _ | assumption | apply Le.drop))))
    · refine ⟨fun x S c he hw hd hc hcu hm hgd => ?_, ⟨_, rfl⟩, .inl ⟨rfl, fun x => .inl rfl⟩⟩
      obtain ⟨h22, h21, h19, -⟩ := hd
      refine TOps.call (vs := [_, _]) Try.call46 ⟨h22, rfl, trivial⟩ (ralone_g hX hg hf true f hw2) rfl ?_
      rintro _ _ ⟨rfl, rfl⟩
      exact TOps.fin (Nrm.draw x (fun _ _ _ => rfl) rfl (by first | exact Le.refl _ | assumption | exact (by repeat (first | exact Le.refl _ | assumption | apply Le.drop))))
    · refine ⟨fun x S c he hw hd hc hcu hm hgd => ?_, ⟨_, rfl⟩, .inl ⟨rfl, fun x => .inl rfl⟩⟩
      obtain ⟨h21, h23, h19, -⟩ := hd
      refine TOps.neqIr (r := false) h21 h23 (decide_eq_false (fun h => h rfl)) rfl ?_
      exact TOps.fin (Nrm.draw x (fun _ _ _ => rfl) rfl (by first | exact Le.refl _ | assumption | exact (by repeat (first | exact Le.refl _ | assumption | apply Le.drop))))
    · refine ⟨fun x S c he hw hd hc hcu hm _ => ?_, trivial⟩
      obtain ⟨h19, h24, -⟩ := hd
      refine TOps.pick h19 rfl h24 rfl ?_
      exact TOps.fin (Nrm.draw x (fun _ _ _ => rfl) rfl (by first | exact Le.refl _ | assumption | exact (by repeat (first | exact Le.refl _ | assumption | apply Le.drop))))
    ) ?_
  refine Nrm.next ?_
  refine Tri.cond rfl (fun hc1 => ?_) (fun hc1 => ?_)
  · try simp only [decide_eq_true_eq, decide_eq_false_iff_not, Bool.and_eq_true, Bool.or_eq_true, Bool.not_eq_true', Bool.and_eq_false_iff, Bool.or_eq_false_iff, Bool.not_eq_false', Int.not_lt, Int.not_le, ne_eq, Decidable.not_not, Option.isSome_iff_ne_none, Option.isNone_iff_eq_none] at hc1
    have hfalse : False := by simp at hc1
    refine Tri.seq (Tri.region ?_)
    refine TOps.assign rfl rfl ?_
    refine TOps.next ?_
    exact hfalse.elim
  try simp only [decide_eq_true_eq, decide_eq_false_iff_not, Bool.and_eq_true, Bool.or_eq_true, Bool.not_eq_true', Bool.and_eq_false_iff, Bool.or_eq_false_iff, Bool.not_eq_false', Int.not_lt, Int.not_le, ne_eq, Decidable.not_not, Option.isSome_iff_ne_none, Option.isNone_iff_eq_none] at hc1
  refine Tri.fin ?_
  refine Nrm.next ?_
  refine Tri.seq (Tri.region ?_)
  refine TOps.move rfl rfl ?_
  refine TOps.call (vs := [_]) Try.call24 ⟨rfl, trivial⟩ (mmargin_g hr hF hg hf) rfl ?_
  rintro _ _ ⟨rfl, rfl⟩
  refine TOps.move rfl rfl ?_
  refine TOps.extract rfl rfl rfl ?_
  refine TOps.extract rfl rfl rfl ?_
  refine TOps.assign rfl rfl ?_
  refine TOps.assign rfl rfl ?_
  refine TOps.next ?_
  refine Tri.seq (Tri.region ?_)
  refine TOps.move rfl rfl ?_
  refine TOps.call (vs := [_]) Try.call25 ⟨rfl, trivial⟩ (mnext_g hr hF hg hf) rfl ?_
  rintro _ _ ⟨rfl, rfl⟩
  refine TOps.move rfl rfl ?_
  refine TOps.extract rfl rfl rfl ?_
  refine TOps.extract rfl rfl rfl ?_
  refine TOps.assign rfl rfl ?_
  refine TOps.assign rfl rfl ?_
  refine TOps.next ?_
  refine Tri.seq (Tri.region ?_)
  refine TOps.loadN (vs := [.int .i64 F.vars, xv, .int .i64 F.top, .int .i64 f, lx]) rfl ti53 r1 rfl rfl ?_
  refine TOps.call (vs := [_]) Try.call47 ⟨rfl, trivial⟩ (rnext55_g hX hg hf) rfl ?_
  rintro _ _ ⟨rfl, rfl⟩
  refine TOps.move rfl rfl ?_
  refine TOps.extract rfl rfl rfl ?_
  refine TOps.extract rfl rfl rfl ?_
  refine TOps.extract rfl rfl rfl ?_
  refine TOps.assign rfl rfl ?_
  refine TOps.assign rfl rfl ?_
  refine TOps.assign rfl rfl ?_
  refine TOps.next ?_
  refine Tri.seq ?_
  refine Tri.seq (Tri.region ?_)
  refine TOps.move rfl rfl ?_
  refine TOps.move rfl rfl ?_
  refine TOps.neqIr (r := false) rfl rfl (by simp) rfl ?_
  refine TOps.move rfl rfl ?_
  refine' TOps.orB 4 rfl rfl rfl rfl (fun hg6_3 => ?_) ?_; rotate_left
  · have hg6_3' := hg6_3
    try simp only [decide_eq_true_eq, decide_eq_false_iff_not, Bool.and_eq_true, Bool.or_eq_true, Bool.not_eq_true', Bool.and_eq_false_iff, Bool.or_eq_false_iff, Bool.not_eq_false', Int.not_lt, Int.not_le, ne_eq, Decidable.not_not] at hg6_3'
    refine TOps.strip 3 false rfl rfl hg6_3 rfl ?_
    refine TOps.move rfl rfl ?_
    refine TOps.call (vs := [_]) Try.call27 ⟨rfl, trivial⟩ (num_g (F.nearErr f)) rfl ?_
    rintro _ _ ⟨rfl, rfl⟩
    refine TOps.move rfl rfl ?_
    refine TOps.neqIr (r := false) rfl rfl (by simp) rfl ?_
    refine TOps.blk rfl (by repeat (first | exact Ext.refl _ | refine Ext.cons rfl ?_)) (by repeat (first | exact Le.refl _ | apply Le.drop))
  refine TOps.next ?_
  refine Tri.cond rfl (fun hc2 => ?_) (fun hc2 => ?_)
  · try simp only [decide_eq_true_eq, decide_eq_false_iff_not, Bool.and_eq_true, Bool.or_eq_true, Bool.not_eq_true', Bool.and_eq_false_iff, Bool.or_eq_false_iff, Bool.not_eq_false', Int.not_lt, Int.not_le, ne_eq, Decidable.not_not, Option.isSome_iff_ne_none, Option.isNone_iff_eq_none] at hc2
    have hfalse : False := by simp at hc2
    refine Tri.seq (Tri.region ?_)
    refine TOps.assign rfl rfl ?_
    refine TOps.next ?_
    exact hfalse.elim
  try simp only [decide_eq_true_eq, decide_eq_false_iff_not, Bool.and_eq_true, Bool.or_eq_true, Bool.not_eq_true', Bool.and_eq_false_iff, Bool.or_eq_false_iff, Bool.not_eq_false', Int.not_lt, Int.not_le, ne_eq, Decidable.not_not, Option.isSome_iff_ne_none, Option.isNone_iff_eq_none] at hc2
  refine Tri.fin ?_
  refine Nrm.next ?_
  refine Tri.seq ?_
  refine Tri.seq (Tri.region ?_)
  refine TOps.move rfl rfl ?_
  refine TOps.eqlIr (r := (F.nearErr f).isNone) rfl rfl (nearErr_dec F f) rfl ?_
  refine TOps.move rfl rfl ?_
  refine' TOps.andB 2 rfl rfl rfl rfl (fun hg8_2 => ?_) ?_; rotate_left
  · have hg8_2' := hg8_2
    try simp only [decide_eq_true_eq, decide_eq_false_iff_not, Bool.and_eq_true, Bool.or_eq_true, Bool.not_eq_true', Bool.and_eq_false_iff, Bool.or_eq_false_iff, Bool.not_eq_false', Int.not_lt, Int.not_le, ne_eq, Decidable.not_not] at hg8_2'
    refine TOps.strip 2 true rfl rfl hg8_2 rfl ?_
    refine TOps.move rfl rfl ?_
    refine TOps.eqlIr (r := decide (F.nearSet f = 0)) rfl rfl (decide_eq_decide.2 (by have := pp_zero 24 _ hs24; omega)) rfl ?_
    refine TOps.blk rfl (by repeat (first | exact Ext.refl _ | refine Ext.cons rfl ?_)) (by repeat (first | exact Le.refl _ | apply Le.drop))
  refine TOps.next ?_
  refine Tri.cond rfl (fun hc3 => ?_) (fun hc3 => ?_)
  · skip
    have hq : F.nearErr f = none ∧ F.nearSet f = 0 := by simpa using hc3
    have hne : F.nextErr f = some 12 := by unfold Fm.nextErr; rw [hq.1, hq.2]; rfl
    rw [hne, hq.2]
    refine Tri.region ?_
    refine TOps.assign rfl rfl ?_
    refine TOps.assign rfl rfl ?_
    refine TOps.fin ?_
    refine Nrm.next ?_
    refine Tri.seq (Tri.region ?_)
    refine TOps.move rfl rfl ?_
    refine TOps.move rfl rfl ?_
    refine TOps.eqlIr (r := true) rfl rfl (by simp) rfl ?_
    refine TOps.move rfl rfl ?_
    refine' TOps.andB 4 rfl rfl rfl rfl (fun hg10_3 => ?_) ?_; rotate_left
    · have hg10_3' := hg10_3
      try simp only [decide_eq_true_eq, decide_eq_false_iff_not, Bool.and_eq_true, Bool.or_eq_true, Bool.not_eq_true', Bool.and_eq_false_iff, Bool.or_eq_false_iff, Bool.not_eq_false', Int.not_lt, Int.not_le, ne_eq, Decidable.not_not] at hg10_3'
      refine TOps.strip 3 true rfl rfl hg10_3 rfl ?_
      refine TOps.move rfl rfl ?_
      refine TOps.call (vs := [_]) Try.call27 ⟨rfl, trivial⟩ (num_g _) rfl ?_
      rintro _ _ ⟨rfl, rfl⟩
      refine TOps.move rfl rfl ?_
      refine TOps.eqlIr (r := true) rfl rfl (by simp) rfl ?_
      refine TOps.blk rfl (by repeat (first | exact Ext.refl _ | refine Ext.cons rfl ?_)) (by repeat (first | exact Le.refl _ | apply Le.drop))
    refine TOps.assign rfl rfl ?_
    refine TOps.next ?_
    refine Tri.ret1 (H' := H) Try.results30 (fun _ _ h => h) (.tmp rfl) l1 ⟨rfl, rfl⟩
  skip
  have hq : ¬ (F.nearErr f = none ∧ F.nearSet f = 0) := by intro h; rw [h.1, h.2] at hc3; simp at hc3
  have hne : F.nextErr f = F.nearErr f := by
    unfold Fm.nextErr
    cases h : F.nearErr f with
    | some e => rfl
    | none => simp only; rw [if_neg (fun h2 => hq ⟨h, h2⟩)]
  rw [hne]
  refine Tri.fin ?_
  refine Nrm.next ?_
  refine Tri.seq (Tri.region ?_)
  refine TOps.move rfl rfl ?_
  refine TOps.move rfl rfl ?_
  refine TOps.eqlIr (r := true) rfl rfl (by simp) rfl ?_
  refine TOps.move rfl rfl ?_
  refine' TOps.andB 4 rfl rfl rfl rfl (fun hg10_3 => ?_) ?_; rotate_left
  · have hg10_3' := hg10_3
    try simp only [decide_eq_true_eq, decide_eq_false_iff_not, Bool.and_eq_true, Bool.or_eq_true, Bool.not_eq_true', Bool.and_eq_false_iff, Bool.or_eq_false_iff, Bool.not_eq_false', Int.not_lt, Int.not_le, ne_eq, Decidable.not_not] at hg10_3'
    refine TOps.strip 3 true rfl rfl hg10_3 rfl ?_
    refine TOps.move rfl rfl ?_
    refine TOps.call (vs := [_]) Try.call27 ⟨rfl, trivial⟩ (num_g _) rfl ?_
    rintro _ _ ⟨rfl, rfl⟩
    refine TOps.move rfl rfl ?_
    refine TOps.eqlIr (r := true) rfl rfl (by simp) rfl ?_
    refine TOps.blk rfl (by repeat (first | exact Ext.refl _ | refine Ext.cons rfl ?_)) (by repeat (first | exact Le.refl _ | apply Le.drop))
  refine TOps.assign rfl rfl ?_
  refine TOps.next ?_
  refine Tri.ret1 (H' := H) Try.results30 (fun _ _ h => h) (.tmp rfl) l1 ⟨rfl, rfl⟩
end Go.Proofs
