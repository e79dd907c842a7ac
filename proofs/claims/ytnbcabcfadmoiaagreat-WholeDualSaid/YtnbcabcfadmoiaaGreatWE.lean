import Derived.Test.YtnbcabcfadmoiaaGreatWD
import Derived.Test.YtnbcabcfadmoiaaGreatWB
import Derived.Shelf.Lays
import Derived.Ground.NamesProg
import Derived.Test.YtnbcabcfadmoiaaGreatProg
import Derived.Shelf.Strconv.Itoa0
namespace Go.Proofs
open Go.GL
set_option linter.unusedVariables false
set_option linter.unusedSimpArgs false
theorem ones64E_g {H : List Ent} {x : Int} : Gives Tryz.prog 93 [.int .u64 x] H (fun u H' => ∃ v : Nat, v < 128 ∧ u = natV v ∧ H = H') := by
  refine Gives.enter Tryz.func93 rfl (by exact Tryz.ntmps93) rfl ?_
  refine Tri.seq (Tri.region ?_)
  refine TOps.assign rfl rfl ?_
  refine TOps.next ?_
  refine Tri.seq (Tri.region ?_)
  refine TOps.move rfl rfl ?_
  refine TOps.shrU (r := _) rfl rfl (by decide) rfl rfl ?_
  refine TOps.andU (r := _) rfl rfl rfl rfl ?_
  refine TOps.move rfl rfl ?_
  refine TOps.andU (r := _) rfl rfl rfl rfl ?_
  refine TOps.addU (r := _) rfl rfl rfl rfl ?_
  refine TOps.assign rfl rfl ?_
  refine TOps.next ?_
  refine Tri.seq (Tri.region ?_)
  refine TOps.move rfl rfl ?_
  refine TOps.shrU (r := _) rfl rfl (by decide) rfl rfl ?_
  refine TOps.andU (r := _) rfl rfl rfl rfl ?_
  refine TOps.move rfl rfl ?_
  refine TOps.andU (r := _) rfl rfl rfl rfl ?_
  refine TOps.addU (r := _) rfl rfl rfl rfl ?_
  refine TOps.assign rfl rfl ?_
  refine TOps.next ?_
  refine Tri.seq (Tri.region ?_)
  refine TOps.move rfl rfl ?_
  refine TOps.shrU (r := _) rfl rfl (by decide) rfl rfl ?_
  refine TOps.move rfl rfl ?_
  refine TOps.addU (r := _) rfl rfl rfl rfl ?_
  refine TOps.andU (r := _) rfl rfl rfl rfl ?_
  refine TOps.assign rfl rfl ?_
  refine TOps.next ?_
  refine Tri.seq (Tri.region ?_)
  refine TOps.move rfl rfl ?_
  refine TOps.move rfl rfl ?_
  refine TOps.shrU (r := _) rfl rfl (by decide) rfl rfl ?_
  refine TOps.addU (r := _) rfl rfl rfl rfl ?_
  refine TOps.assign rfl rfl ?_
  refine TOps.next ?_
  refine Tri.seq (Tri.region ?_)
  refine TOps.move rfl rfl ?_
  refine TOps.move rfl rfl ?_
  refine TOps.shrU (r := _) rfl rfl (by decide) rfl rfl ?_
  refine TOps.addU (r := _) rfl rfl rfl rfl ?_
  refine TOps.assign rfl rfl ?_
  refine TOps.next ?_
  refine Tri.seq (Tri.region ?_)
  refine TOps.move rfl rfl ?_
  refine TOps.move rfl rfl ?_
  refine TOps.shrU (r := _) rfl rfl (by decide) rfl rfl ?_
  refine TOps.addU (r := _) rfl rfl rfl rfl ?_
  refine TOps.assign rfl rfl ?_
  refine TOps.next ?_
  refine Tri.seq (Tri.region ?_)
  refine TOps.move rfl rfl ?_
  refine TOps.convI (r := _) rfl Tryz.underlying63 Tryz.underlying3 rfl rfl ?_
  refine TOps.and (r := ((lowBits _ 7 : Nat) : Int)) rfl rfl (iand_mask (v := 7) (by decide)) rfl ?_
  refine TOps.assign rfl rfl ?_
  refine TOps.next ?_
  refine Tri.ret1 (H' := H) Tryz.results93 (fun _ _ h => h) (.tmp rfl) (Le.refl _) ⟨_, lowBits_lt _ _, rfl, rfl⟩
theorem c64_ex (x : Int) : ∃ v : Nat, v < 128 ∧ (x = 0 → v = 0) ∧ ∀ w, Calls Tryz.prog 93 #[.int .u64 x] w fun e w' => e = .returned (natV v) ∧ w' = w := by
  obtain ⟨v, hv⟩ := q64 x
  have key : ∀ W : World, ∃ n : Nat, n < 128 ∧ v = n := fun W => by
    obtain ⟨u, w', h1, n, hn, h2⟩ := agreeQ (P := Tryz.prog) (f := 93) (R := fun u _ => u = .int .i64 v) (R' := fun u _ => ∃ n : Nat, n < 128 ∧ u = natV n) (w := W)
      ((hv W).mono fun e w' h => by obtain ⟨rfl, _⟩ := h; rfl)
      ((ones64E_g (H := []) (x := x) W trivial).mono fun e w' h => by obtain ⟨u, H', ⟨n, hn, rfl, _⟩, rfl, _⟩ := h; exact ⟨n, hn, rfl⟩)
      (by kernel_rfl)
    rw [h1] at h2
    injection h2 with _ h2
    exact ⟨n, hn, h2⟩
  by_cases hW : Nonempty World
  · obtain ⟨W⟩ := hW
    obtain ⟨n, hn, rfl⟩ := key W
    refine ⟨n, hn, fun hx => ?_, hv⟩
    subst hx
    obtain ⟨u, w', h1, h2⟩ := agreeQ (P := Tryz.prog) (f := 93) (R := fun u _ => u = .int .i64 n) (R' := fun u _ => u = natV 0) (w := W)
      ((hv W).mono fun e w' h => by obtain ⟨rfl, _⟩ := h; rfl)
      ((ones64_g (H := []) (x := 0) (by decide) W trivial).mono fun e w' h => by obtain ⟨u, H', ⟨rfl, _⟩, rfl, _⟩ := h; rfl)
      (by kernel_rfl)
    rw [h1] at h2
    injection h2 with _ h2
    omega
  · exact ⟨0, by decide, fun _ => rfl, fun w => absurd ⟨w⟩ hW⟩
noncomputable def c64 (x : Int) : Nat := (c64_ex x).choose
theorem c64_lt (x : Int) : c64 x < 128 := (c64_ex x).choose_spec.1
theorem c64_zero : c64 0 = 0 := (c64_ex 0).choose_spec.2.1 rfl
theorem ones64F_g {H : List Ent} {x : Int} : Gives Tryz.prog 93 [.int .u64 x] H (R1 (natV (c64 x)) H) := fun w hM =>
  ((c64_ex x).choose_spec.2.2 w).mono fun e w' h => ⟨_, H, ⟨rfl, rfl⟩, h.1, by rw [h.2]; exact hM⟩
end Go.Proofs
namespace Go.Proofs
open Go.GL
set_option linter.unusedVariables false
set_option linter.unusedSimpArgs false
noncomputable def szR (r : Rw) : Nat := pp 24 r.ev + c64 r.n0 + c64 r.n1
theorem szR_lt (r : Rw) : szR r < 300 := by
  have h1 := pp_le 24 r.ev
  have h2 := c64_lt r.n0
  have h3 := c64_lt r.n1
  unfold szR
  omega
theorem size_g {H : List Ent} {r : Rw} (hr : r.ev < 16777216) : Gives Tryz.prog 72 [.agg (List.toArray r.cells)] H (R1 (natV (szR r)) H) := by
  have h1' := pp_le 24 r.ev
  have h2' := c64_lt r.n0
  have h3' := c64_lt r.n1
  refine Gives.enter Tryz.func72 rfl (by exact Tryz.ntmps72) rfl ?_
  refine Tri.seq (Tri.region ?_)
  refine TOps.boxN rfl ti66 rfl rfl (fun b1 => ?_)
  refine TOps.hide (fun H1 l1 s1 r1 => ?_)
  refine TOps.assign rfl rfl ?_
  refine TOps.next ?_
  refine Tri.seq ?_
  refine Tri.drawC rfl [(1, .pointer (some ⟨b1, 0, none⟩))] [] [_, _, _, _, _, _, _, _, _, _, _, _, _, _] (H1) [13] rfl ⟨rfl, trivial⟩ trivial (by repeat (first | exact Le.refl _ | assumption | apply Le.drop)) (by
    refine ⟨?_, ?_, ?_, ?_, ?_, ?_, ?_, ?_, ?_, ?_, ?_, ?_, ?_, ?_, trivial⟩
    · refine ⟨fun x S c he hw hd hc hcu hm _ => ?_, trivial⟩
      refine TOps.field0 (he _ _ rfl) Tryz.underlying66 rfl rfl ti3 rfl rfl rfl ?_
      exact TOps.fd x rfl rfl
    · refine ⟨fun x S c he hw hd hc hcu hm _ => ?_, trivial⟩
      obtain ⟨h0, -⟩ := hd
      refine TOps.load1 h0 ti3 (Rd.fld r1 0 rfl) rfl ?_
      exact TOps.fd x rfl rfl
    · refine ⟨fun x S c he hw hd hc hcu hm _ => ?_, trivial⟩
      obtain ⟨h1, -⟩ := hd
      refine TOps.call (vs := [_]) Tryz.call53 ⟨h1, trivial⟩ (count_g hr) rfl ?_
      rintro _ _ ⟨rfl, rfl⟩
      exact TOps.fd x rfl rfl
    · refine ⟨fun x S c he hw hd hc hcu hm _ => ?_, trivial⟩
      first | refine TOps.fieldB 1 (he _ _ rfl) Tryz.underlying66 rfl rfl ti64 rfl rfl rfl ?_ | refine TOps.fieldN 1 (he _ _ rfl) Tryz.underlying66 rfl rfl ti64 rfl rfl rfl ?_
      exact TOps.fd x rfl rfl
    · refine ⟨fun x S c he hw hd hc hcu hm _ => ?_, trivial⟩
      obtain ⟨h3, -⟩ := hd
      refine TOps.indexAddrA (off' := 1) h3 rfl Tryz.underlying64 ti63 (by omega) (by omega) (by simp) rfl ?_
      exact TOps.fd x rfl rfl
    · refine ⟨fun x S c he hw hd hc hcu hm _ => ?_, trivial⟩
      obtain ⟨h4, -⟩ := hd
      refine TOps.load1 h4 ti63 (Rd.fld r1 1 rfl) rfl ?_
      exact TOps.fd x rfl rfl
    · refine ⟨fun x S c he hw hd hc hcu hm _ => ?_, trivial⟩
      obtain ⟨h5, h2, -⟩ := hd
      refine TOps.call (vs := [_]) Tryz.call93 ⟨h5, trivial⟩ (ones64F_g) rfl ?_
      rintro _ _ ⟨rfl, rfl⟩
      exact TOps.fd x rfl rfl
    · refine ⟨fun x S c he hw hd hc hcu hm _ => ?_, trivial⟩
      obtain ⟨h2, h6, -⟩ := hd
      refine TOps.add (r := ((pp 24 r.ev + c64 r.n0 : Nat) : Int)) h2 h6 (by rw [wrapI (by omega) (by omega)]; omega) rfl ?_
      exact TOps.fd x rfl rfl
    · refine ⟨fun x S c he hw hd hc hcu hm _ => ?_, trivial⟩
      first | refine TOps.fieldB 1 (he _ _ rfl) Tryz.underlying66 rfl rfl ti64 rfl rfl rfl ?_ | refine TOps.fieldN 1 (he _ _ rfl) Tryz.underlying66 rfl rfl ti64 rfl rfl rfl ?_
      exact TOps.fd x rfl rfl
    · refine ⟨fun x S c he hw hd hc hcu hm _ => ?_, trivial⟩
      obtain ⟨h8, -⟩ := hd
      refine TOps.indexAddrA (off' := 2) h8 rfl Tryz.underlying64 ti63 (by omega) (by omega) (by simp) rfl ?_
      exact TOps.fd x rfl rfl
    · refine ⟨fun x S c he hw hd hc hcu hm _ => ?_, trivial⟩
      obtain ⟨h9, -⟩ := hd
      refine TOps.load1 h9 ti63 (Rd.fld r1 2 rfl) rfl ?_
      exact TOps.fd x rfl rfl
    · refine ⟨fun x S c he hw hd hc hcu hm _ => ?_, trivial⟩
      obtain ⟨h10, h6, -⟩ := hd
      refine TOps.call (vs := [_]) Tryz.call93 ⟨h10, trivial⟩ (ones64F_g) rfl ?_
      rintro _ _ ⟨rfl, rfl⟩
      exact TOps.fd x rfl rfl
    · refine ⟨fun x S c he hw hd hc hcu hm _ => ?_, trivial⟩
      obtain ⟨h7, h11, -⟩ := hd
      refine TOps.add (r := ((szR r : Nat) : Int)) h7 h11 (by rw [wrapI (by omega) (by omega)]; unfold szR; omega) rfl ?_
      exact TOps.fd x rfl rfl
    · refine ⟨fun x S c he hw hd hc hcu hm _ => ?_, trivial⟩
      obtain ⟨h12, h11, h0, h1, h2, h3, h4, h5, h6, h7, h8, h9, h10, _, _, -⟩ := hd
      refine TOps.assign h12 rfl ?_
      exact TOps.fd x rfl rfl
    ) ?_
  refine Nrm.next ?_
  refine Tri.ret1 (H' := H) Tryz.results72 (fun _ _ h => h) (.tmp rfl) l1 ⟨rfl, rfl⟩
theorem least1_g {H : List Ent} {p q : Rw} (hx : p.ev < 16777216) (hy : q.ev < 16777216) : Gives Tryz.prog 71 [.agg (List.toArray p.cells), .agg (List.toArray q.cells)] H (R1 (.int .i64 ((szR p : Int) - szR q)) H) := by
  have q1 := szR_lt p
  have q2 := szR_lt q
  refine Gives.enter Tryz.func71 rfl (by exact Tryz.ntmps71) rfl ?_
  refine Tri.seq (Tri.region ?_)
  refine TOps.boxN rfl ti66 rfl rfl (fun b2 => ?_)
  refine TOps.hide (fun H1 l1 s1 r1 => ?_)
  refine TOps.boxN rfl ti66 rfl rfl (fun b3 => ?_)
  refine TOps.hide (fun H2 l2 s2 r2 => ?_)
  replace r1 := r1.le l2; have l3 := l2.trans l1
  refine TOps.assign rfl rfl ?_
  refine TOps.next ?_
  refine Tri.seq ?_
  refine Tri.drawC rfl [(2, .pointer (some ⟨b2, 0, none⟩)), (3, .pointer (some ⟨b3, 0, none⟩))] [] [_, _, _, _, _, _] (H2) [5] rfl ⟨rfl, rfl, trivial⟩ trivial (by repeat (first | exact Le.refl _ | assumption | apply Le.drop)) (by
    refine ⟨?_, ?_, ?_, ?_, ?_, ?_, trivial⟩
    · refine ⟨fun x S c he hw hd hc hcu hm _ => ?_, trivial⟩
      refine TOps.loadN (vs := p.cells) (he _ _ rfl) ti66 r1 rfl rfl ?_
      exact TOps.fd x rfl rfl
    · refine ⟨fun x S c he hw hd hc hcu hm _ => ?_, trivial⟩
      obtain ⟨h0, -⟩ := hd
      refine TOps.call (vs := [_]) Tryz.call72 ⟨h0, trivial⟩ (size_g hx) rfl ?_
      rintro _ _ ⟨rfl, rfl⟩
      exact TOps.fd x rfl rfl
    · refine ⟨fun x S c he hw hd hc hcu hm _ => ?_, trivial⟩
      refine TOps.loadN (vs := q.cells) (he _ _ rfl) ti66 r2 rfl rfl ?_
      exact TOps.fd x rfl rfl
    · refine ⟨fun x S c he hw hd hc hcu hm _ => ?_, trivial⟩
      obtain ⟨h2, h1, -⟩ := hd
      refine TOps.call (vs := [_]) Tryz.call72 ⟨h2, trivial⟩ (size_g hy) rfl ?_
      rintro _ _ ⟨rfl, rfl⟩
      exact TOps.fd x rfl rfl
    · refine ⟨fun x S c he hw hd hc hcu hm _ => ?_, trivial⟩
      obtain ⟨h1, h3, -⟩ := hd
      refine TOps.sub (r := (szR p : Int) - szR q) h1 h3 (by rw [wrapI (by omega) (by omega)]) rfl ?_
      exact TOps.fd x rfl rfl
    · refine ⟨fun x S c he hw hd hc hcu hm _ => ?_, trivial⟩
      obtain ⟨h4, h3, h0, h1, h2, _, _, -⟩ := hd
      refine TOps.assign h4 rfl ?_
      exact TOps.fd x rfl rfl
    ) ?_
  refine Nrm.next ?_
  refine Tri.ret1 (H' := H) Tryz.results71 (fun _ _ h => h) (.tmp rfl) l3 ⟨rfl, rfl⟩
end Go.Proofs
namespace Go.Proofs
open Go.GL
set_option linter.unusedVariables false
set_option linter.unusedSimpArgs false
theorem gL_ev {l : List Rw} (h : ∀ r ∈ l, r.ev < 16777216) (k : Nat) : (gL l k).ev < 16777216 := by
  by_cases hk : k < l.length
  · rw [gL_get hk]; exact h _ (List.getElem_mem hk)
  · unfold gL; rw [List.getD_eq_getElem?_getD, List.getElem?_eq_none (by omega)]; decide
theorem swapRange_g {H : List Ent} {bb cap N p q m : Nat} {l : List Rw} (hl : l.length = N) (hN : N ≤ 1000000) (h1 : p + m ≤ q) (h2 : q + m ≤ N) :
    Gives Tryz.prog 108 [slV (some bb) 0 N cap, natV p, natV q, natV m, .func (.func 71) #[] #[]] (row (some bb) 66 3 cap (rwV (l)) :: H) (fun u H' => u = .tuple (List.toArray []) ∧ ∃ l', SwR p q m l l' ∧ row (some bb) 66 3 cap (rwV (l')) :: H = H') := by
  refine Gives.enter Tryz.func108 rfl (by exact Tryz.ntmps108) rfl ?_
  refine Tri.seq (Tri.region ?_)
  refine TOps.assign rfl rfl ?_
  refine TOps.next ?_
  refine Tri.block ?_
  refine Tri.loop (X := Nat × List Rw) (fun x => [(0, slV (some bb) 0 N cap), (1, natV p), (2, natV q), (3, natV m), (10, natV x.1)]) (fun x => row (some bb) 66 3 cap (rwV (x.2)) :: H) (fun x => x.1 ≤ m ∧ SwR p q x.1 l x.2) (fun x => m - x.1) (0, l) ⟨Nat.zero_le _, SwR.zero⟩ ⟨rfl, rfl, rfl, rfl, rfl, trivial⟩ (by repeat (first | exact Le.refl _ | assumption | apply Le.drop)) (fun x hp => ?_)
  obtain ⟨i, z⟩ := x
  obtain ⟨hp1, hp2⟩ := hp
  dsimp only at hp1 hp2 ⊢
  have hzl : z.length = N := hp2.len.trans hl
  refine Tri.seq ?_
  refine Tri.seq (Tri.region ?_)
  refine TOps.move rfl rfl ?_
  refine TOps.move rfl rfl ?_
  refine TOps.lss rfl rfl rfl ?_
  refine TOps.next ?_
  refine Tri.cond rfl (fun hc1 => ?_) (fun hc1 => ?_)
  · try simp only [decide_eq_true_eq, decide_eq_false_iff_not, Bool.and_eq_true, Bool.or_eq_true, Bool.not_eq_true', Bool.and_eq_false_iff, Bool.or_eq_false_iff, Bool.not_eq_false', Int.not_lt, Int.not_le, ne_eq, Decidable.not_not, Option.isSome_iff_ne_none, Option.isNone_iff_eq_none] at hc1
    have him : i < m := by omega
    refine Tri.fin ?_
    refine Nrm.next ?_
    refine Tri.seq ?_
    refine Tri.block ?_
    refine Tri.drawX (X := Unit) rfl [(0, slV (some bb) 0 N cap), (1, natV p), (2, natV q), (3, natV m), (10, natV i)] [] (fun x => [_, _, _, _, _, _, _, _, _, _, _, _, _, _, _, _, _, _, _, _, _, undef, _, undef]) (fun x c => match c with | 0 => row (some bb) 66 3 cap (rwV (z)) :: H | 1 => row (some bb) 66 3 cap (rwV (z.set (p + i) (gL z (q + i)))) :: H | _ + 2 => row (some bb) 66 3 cap (rwV (swapL z (p + i) (q + i))) :: H) [21, 23] () [] rfl rfl ⟨rfl, rfl, rfl, rfl, rfl, trivial⟩ trivial (by repeat (first | exact Le.refl _ | assumption | apply Le.drop)) (by
      refine ⟨?_, ?_, ?_, ?_, ?_, ?_, ?_, ?_, ?_, ?_, ?_, ?_, ?_, ?_, ?_, ?_, ?_, ?_, ?_, ?_, ?_, ?_, ?_, ?_, trivial⟩
      · refine ⟨fun x S c he hw hd hc hcu hm _ => ?_, trivial⟩
        refine TOps.move (he _ _ rfl) rfl ?_
        exact TOps.fd x rfl rfl
      · refine ⟨fun x S c he hw hd hc hcu hm _ => ?_, trivial⟩
        refine TOps.move (he _ _ rfl) rfl ?_
        exact TOps.fd x rfl rfl
      · refine ⟨fun x S c he hw hd hc hcu hm _ => ?_, trivial⟩
        refine TOps.move (he _ _ rfl) rfl ?_
        exact TOps.fd x rfl rfl
      · refine ⟨fun x S c he hw hd hc hcu hm _ => ?_, trivial⟩
        obtain ⟨h1, h2, -⟩ := hd
        refine TOps.add (r := (((p + i) : Nat) : Int)) h1 h2 (by rw [wrapI (by omega) (by omega)]; omega) rfl ?_
        exact TOps.fd x rfl rfl
      · refine ⟨fun x S c he hw hd hc hcu hm _ => ?_, trivial⟩
        refine TOps.move (he _ _ rfl) rfl ?_
        exact TOps.fd x rfl rfl
      · refine ⟨fun x S c he hw hd hc hcu hm _ => ?_, trivial⟩
        refine TOps.move (he _ _ rfl) rfl ?_
        exact TOps.fd x rfl rfl
      · refine ⟨fun x S c he hw hd hc hcu hm _ => ?_, trivial⟩
        refine TOps.move (he _ _ rfl) rfl ?_
        exact TOps.fd x rfl rfl
      · refine ⟨fun x S c he hw hd hc hcu hm _ => ?_, trivial⟩
        obtain ⟨h5, h6, -⟩ := hd
        refine TOps.add (r := (((q + i) : Nat) : Int)) h5 h6 (by rw [wrapI (by omega) (by omega)]; omega) rfl ?_
        exact TOps.fd x rfl rfl
      · refine ⟨fun x S c he hw hd hc hcu hm _ => ?_, trivial⟩
        refine TOps.move (he _ _ rfl) rfl ?_
        exact TOps.fd x rfl rfl
      · refine ⟨fun x S c he hw hd hc hcu hm _ => ?_, trivial⟩
        refine TOps.move (he _ _ rfl) rfl ?_
        exact TOps.fd x rfl rfl
      · refine ⟨fun x S c he hw hd hc hcu hm _ => ?_, trivial⟩
        refine TOps.move (he _ _ rfl) rfl ?_
        exact TOps.fd x rfl rfl
      · refine ⟨fun x S c he hw hd hc hcu hm _ => ?_, trivial⟩
        obtain ⟨h9, h10, -⟩ := hd
        refine TOps.add (r := (((q + i) : Nat) : Int)) h9 h10 (by rw [wrapI (by omega) (by omega)]; omega) rfl ?_
        exact TOps.fd x rfl rfl
      · refine ⟨fun x S c he hw hd hc hcu hm _ => ?_, trivial⟩
        obtain ⟨h8, h11, -⟩ := hd
        refine TOps.indexAddr (b := bb) (off := 0) (m := N) (cap := cap) (off' := (q + i) * 3) h8 h11 Tryz.underlying60 ti66 (by omega) (by omega) (by rw [Int.toNat_natCast]; omega) rfl ?_
        exact TOps.fd x rfl rfl
      · refine ⟨fun x S c he hw hd hc hcu hm _ => ?_, trivial⟩
        obtain ⟨h12, -⟩ := hd
        obtain rfl : c = 0 := by have : c ≤ 0 := hcu; omega
        refine TOps.loadN (vs := (gL z (q + i)).cells) h12 ti66 (rwV_rd (List.Mem.head _) (by omega)) rfl rfl ?_
        exact TOps.fd x rfl rfl
      · refine ⟨fun x S c he hw hd hc hcu hm _ => ?_, trivial⟩
        refine TOps.move (he _ _ rfl) rfl ?_
        exact TOps.fd x rfl rfl
      · refine ⟨fun x S c he hw hd hc hcu hm _ => ?_, trivial⟩
        refine TOps.move (he _ _ rfl) rfl ?_
        exact TOps.fd x rfl rfl
      · refine ⟨fun x S c he hw hd hc hcu hm _ => ?_, trivial⟩
        refine TOps.move (he _ _ rfl) rfl ?_
        exact TOps.fd x rfl rfl
      · refine ⟨fun x S c he hw hd hc hcu hm _ => ?_, trivial⟩
        obtain ⟨h15, h16, -⟩ := hd
        refine TOps.add (r := (((p + i) : Nat) : Int)) h15 h16 (by rw [wrapI (by omega) (by omega)]; omega) rfl ?_
        exact TOps.fd x rfl rfl
      · refine ⟨fun x S c he hw hd hc hcu hm _ => ?_, trivial⟩
        obtain ⟨h14, h17, -⟩ := hd
        refine TOps.indexAddr (b := bb) (off := 0) (m := N) (cap := cap) (off' := (p + i) * 3) h14 h17 Tryz.underlying60 ti66 (by omega) (by omega) (by rw [Int.toNat_natCast]; omega) rfl ?_
        exact TOps.fd x rfl rfl
      · refine ⟨fun x S c he hw hd hc hcu hm _ => ?_, trivial⟩
        obtain ⟨h18, -⟩ := hd
        obtain rfl : c = 0 := by have : c ≤ 0 := hcu; omega
        refine TOps.loadN (vs := (gL z (p + i)).cells) h18 ti66 (rwV_rd (List.Mem.head _) (by omega)) rfl rfl ?_
        exact TOps.fd x rfl rfl
      · refine ⟨fun x S c he hw hd hc hcu hm _ => ?_, trivial⟩
        obtain ⟨h0, h3, _, h1, h2, _, h8, h9, h10, h11, h12, h13, h19, -⟩ := hd
        refine TOps.indexAddr (b := bb) (off := 0) (m := N) (cap := cap) (off' := (p + i) * 3) h0 h3 Tryz.underlying60 ti66 (by omega) (by omega) (by rw [Int.toNat_natCast]; omega) rfl ?_
        exact TOps.fd x rfl rfl
      · refine ⟨fun x S c he hw hd hc hcu hm _ => ?_, trivial⟩
        obtain ⟨h20, h13, h0, h1, h2, h3, h8, h9, h10, h11, h12, _, h19, -⟩ := hd
        obtain rfl : c = 0 := hm rfl
        refine TOps.storeN h20 h13 ti66 rfl rfl Upd.here (by rw [rwV_length]; (try simp only [List.length_set]); omega) ?_
        rw [rwV_set _ _ _ (by (try simp only [List.length_set]); omega)]
        exact TOps.fin (Nrm.draw x (fun _ _ _ => rfl) rfl (Le.refl _))
      · refine ⟨fun x S c he hw hd hc hcu hm _ => ?_, trivial⟩
        obtain ⟨h4, h7, h0, h1, h2, h3, _, h5, h6, _, h8, h9, h10, h11, h12, h13, h14, h15, h16, h17, h18, h19, h20, h21, -⟩ := hd
        refine TOps.indexAddr (b := bb) (off := 0) (m := N) (cap := cap) (off' := (q + i) * 3) h4 h7 Tryz.underlying60 ti66 (by omega) (by omega) (by rw [Int.toNat_natCast]; omega) rfl ?_
        exact TOps.fd x rfl rfl
      · refine ⟨fun x S c he hw hd hc hcu hm _ => ?_, trivial⟩
        obtain ⟨h22, h19, h21, h0, h1, h2, h3, h4, h5, h6, h7, h8, h9, h10, h11, h12, h13, h14, h15, h16, h17, h18, _, h20, _, -⟩ := hd
        obtain rfl : c = 1 := hm rfl
        refine TOps.storeN h22 h19 ti66 rfl rfl Upd.here (by rw [rwV_length]; (try simp only [List.length_set]); omega) ?_
        rw [rwV_set _ _ _ (by (try simp only [List.length_set]); omega)]
        exact TOps.fin (Nrm.draw x (fun _ _ _ => rfl) rfl (Le.refl _))
      ) (fun x => ?_)
    refine Nrm.unB ?_
    refine Nrm.next ?_
    refine Tri.region ?_
    refine TOps.move rfl rfl ?_
    refine TOps.add (r := ((i + 1 : Nat) : Int)) rfl rfl (by rw [wrapI (by omega) (by omega)]; omega) rfl ?_
    refine TOps.assign rfl rfl ?_
    refine TOps.fin ?_
    refine Nrm.loop (i + 1, swapL z (p + i) (q + i)) ⟨by omega, hp2.step (by omega) (by omega)⟩ (by simp only; omega) ⟨rfl, rfl, rfl, rfl, rfl, trivial⟩ (by repeat (first | exact Le.refl _ | assumption | apply Le.drop))
  try simp only [decide_eq_true_eq, decide_eq_false_iff_not, Bool.and_eq_true, Bool.or_eq_true, Bool.not_eq_true', Bool.and_eq_false_iff, Bool.or_eq_false_iff, Bool.not_eq_false', Int.not_lt, Int.not_le, ne_eq, Decidable.not_not, Option.isSome_iff_ne_none, Option.isNone_iff_eq_none] at hc1
  obtain rfl : i = m := by omega
  first | refine Tri.exitW ?_ | (refine Tri.exitTo ?_; repeat (with_reducible first | refine ExitTo.blk ?_ | refine ExitTo.blkNe rfl ?_ | refine ExitTo.body ?_ | refine ExitTo.brk rfl ?_ | refine ExitTo.bodyNe rfl rfl ?_ | refine ExitTo.seq ?_ | refine ExitTo.loop ?_))
  exact Nrm.ret0 (H' := row (some bb) 66 3 cap (rwV (z)) :: H) Tryz.results108 (Le.refl _) ⟨rfl, z, hp2, rfl⟩
end Go.Proofs
namespace Go.Proofs
open Go.GL
set_option linter.unusedVariables false
set_option linter.unusedSimpArgs false
theorem rotate_g {H : List Ent} {bb cap N p m q : Nat} {l : List Rw} (hl : l.length = N) (hN : N ≤ 1000000) (h1 : p < m) (h2 : m < q) (h3 : q ≤ N) :
    Gives Tryz.prog 107 [slV (some bb) 0 N cap, natV p, natV m, natV q, .func (.func 71) #[] #[]] (row (some bb) 66 3 cap (rwV (l)) :: H) (fun u H' => u = .tuple (List.toArray []) ∧ ∃ l', Rot p m q l l' ∧ row (some bb) 66 3 cap (rwV (l')) :: H = H') := by
  refine Gives.enter Tryz.func107 rfl (by exact Tryz.ntmps107) rfl ?_
  refine Tri.seq (Tri.region ?_)
  refine TOps.move rfl rfl ?_
  refine TOps.move rfl rfl ?_
  refine TOps.sub (r := ((m - p : Nat) : Int)) rfl rfl (by rw [wrapI (by omega) (by omega)]; omega) rfl ?_
  refine TOps.assign rfl rfl ?_
  refine TOps.next ?_
  refine Tri.seq (Tri.region ?_)
  refine TOps.move rfl rfl ?_
  refine TOps.move rfl rfl ?_
  refine TOps.sub (r := ((q - m : Nat) : Int)) rfl rfl (by rw [wrapI (by omega) (by omega)]; omega) rfl ?_
  refine TOps.assign rfl rfl ?_
  refine TOps.next ?_
  refine Tri.seq ?_
  refine Tri.block ?_
  refine Tri.loop (X := Nat × Nat × List Rw) (fun x => [(0, slV (some bb) 0 N cap), (2, natV m), (4, .func (.func 71) #[] #[]), (10, natV x.1), (11, natV x.2.1)]) (fun x => row (some bb) 66 3 cap (rwV (x.2.2)) :: H) (fun x => RotI p m q x.1 x.2.1 l x.2.2) (fun x => x.1 + x.2.1) (m - p, q - m, l) (RotI.start h1 h2) ⟨rfl, rfl, rfl, rfl, rfl, trivial⟩ (by repeat (first | exact Le.refl _ | assumption | apply Le.drop)) (fun x hp => ?_)
  obtain ⟨i, j, z⟩ := x
  dsimp only at hp ⊢
  have hzl : z.length = N := hp.len.trans hl
  have q1 := hp.i1
  have q2 := hp.j1
  have q3 := hp.im
  have q4 := hp.ia
  have q5 := hp.jb
  refine Tri.seq ?_
  refine Tri.seq (Tri.region ?_)
  refine TOps.move rfl rfl ?_
  refine TOps.move rfl rfl ?_
  refine TOps.neqI rfl rfl rfl ?_
  refine TOps.next ?_
  refine Tri.cond rfl (fun hc1 => ?_) (fun hc1 => ?_)
  · try simp only [decide_eq_true_eq, decide_eq_false_iff_not, Bool.and_eq_true, Bool.or_eq_true, Bool.not_eq_true', Bool.and_eq_false_iff, Bool.or_eq_false_iff, Bool.not_eq_false', Int.not_lt, Int.not_le, ne_eq, Decidable.not_not, Option.isSome_iff_ne_none, Option.isNone_iff_eq_none] at hc1
    refine Tri.fin ?_
    refine Nrm.next ?_
    refine Tri.block ?_
    refine Tri.seq (Tri.region ?_)
    refine TOps.move rfl rfl ?_
    refine TOps.move rfl rfl ?_
    refine TOps.gtr rfl rfl rfl ?_
    refine TOps.next ?_
    refine Tri.cond rfl (fun hc2 => ?_) (fun hc2 => ?_)
    · try simp only [decide_eq_true_eq, decide_eq_false_iff_not, Bool.and_eq_true, Bool.or_eq_true, Bool.not_eq_true', Bool.and_eq_false_iff, Bool.or_eq_false_iff, Bool.not_eq_false', Int.not_lt, Int.not_le, ne_eq, Decidable.not_not, Option.isSome_iff_ne_none, Option.isNone_iff_eq_none] at hc2
      refine Tri.seq (Tri.region ?_)
      refine TOps.move rfl rfl ?_
      refine TOps.move rfl rfl ?_
      refine TOps.move rfl rfl ?_
      refine TOps.sub (r := ((m - i : Nat) : Int)) rfl rfl (by rw [wrapI (by omega) (by omega)]; omega) rfl ?_
      refine TOps.move rfl rfl ?_
      refine TOps.move rfl rfl ?_
      refine TOps.move rfl rfl ?_
      refine TOps.call (vs := [_, _, _, _, _]) Tryz.call108 ⟨rfl, rfl, rfl, rfl, rfl, trivial⟩ (swapRange_g (p := m - i) (q := m) (m := j) hzl hN (by omega) (by omega)) rfl ?_
      rintro _ _ ⟨rfl, z2, hs, rfl⟩
      refine TOps.next ?_
      refine Tri.region ?_
      refine TOps.move rfl rfl ?_
      refine TOps.move rfl rfl ?_
      refine TOps.sub (r := ((i - j : Nat) : Int)) rfl rfl (by rw [wrapI (by omega) (by omega)]; omega) rfl ?_
      refine TOps.assign rfl rfl ?_
      refine TOps.fin ?_
      refine Nrm.unB ?_
      first
       | refine Nrm.loop (i - j, j, z2) (hp.left (by omega) hs) (by simp only; omega) ⟨rfl, rfl, rfl, rfl, rfl, trivial⟩ (by repeat (first | exact Le.refl _ | assumption | apply Le.drop))
       | refine Nrm.loop (i, j - i, z2) (hp.right (by omega) hs) (by simp only; omega) ⟨rfl, rfl, rfl, rfl, rfl, trivial⟩ (by repeat (first | exact Le.refl _ | assumption | apply Le.drop))
    try simp only [decide_eq_true_eq, decide_eq_false_iff_not, Bool.and_eq_true, Bool.or_eq_true, Bool.not_eq_true', Bool.and_eq_false_iff, Bool.or_eq_false_iff, Bool.not_eq_false', Int.not_lt, Int.not_le, ne_eq, Decidable.not_not, Option.isSome_iff_ne_none, Option.isNone_iff_eq_none] at hc2
    refine Tri.seq (Tri.region ?_)
    refine TOps.move rfl rfl ?_
    refine TOps.move rfl rfl ?_
    refine TOps.move rfl rfl ?_
    refine TOps.sub (r := ((m - i : Nat) : Int)) rfl rfl (by rw [wrapI (by omega) (by omega)]; omega) rfl ?_
    refine TOps.move rfl rfl ?_
    refine TOps.move rfl rfl ?_
    refine TOps.add (r := ((m + j : Nat) : Int)) rfl rfl (by rw [wrapI (by omega) (by omega)]; omega) rfl ?_
    refine TOps.move rfl rfl ?_
    refine TOps.sub (r := ((m + j - i : Nat) : Int)) rfl rfl (by rw [wrapI (by omega) (by omega)]; omega) rfl ?_
    refine TOps.move rfl rfl ?_
    refine TOps.move rfl rfl ?_
    refine TOps.call (vs := [_, _, _, _, _]) Tryz.call108 ⟨rfl, rfl, rfl, rfl, rfl, trivial⟩ (swapRange_g (p := m - i) (q := m + j - i) (m := i) hzl hN (by omega) (by omega)) rfl ?_
    rintro _ _ ⟨rfl, z2, hs, rfl⟩
    refine TOps.next ?_
    refine Tri.region ?_
    refine TOps.move rfl rfl ?_
    refine TOps.move rfl rfl ?_
    refine TOps.sub (r := ((j - i : Nat) : Int)) rfl rfl (by rw [wrapI (by omega) (by omega)]; omega) rfl ?_
    refine TOps.assign rfl rfl ?_
    refine TOps.fin ?_
    refine Nrm.unB ?_
    first
     | refine Nrm.loop (i - j, j, z2) (hp.left (by omega) hs) (by simp only; omega) ⟨rfl, rfl, rfl, rfl, rfl, trivial⟩ (by repeat (first | exact Le.refl _ | assumption | apply Le.drop))
     | refine Nrm.loop (i, j - i, z2) (hp.right (by omega) hs) (by simp only; omega) ⟨rfl, rfl, rfl, rfl, rfl, trivial⟩ (by repeat (first | exact Le.refl _ | assumption | apply Le.drop))
  try simp only [decide_eq_true_eq, decide_eq_false_iff_not, Bool.and_eq_true, Bool.or_eq_true, Bool.not_eq_true', Bool.and_eq_false_iff, Bool.or_eq_false_iff, Bool.not_eq_false', Int.not_lt, Int.not_le, ne_eq, Decidable.not_not, Option.isSome_iff_ne_none, Option.isNone_iff_eq_none] at hc1
  obtain rfl : i = j := by omega
  first | refine Tri.exitW ?_ | (refine Tri.exitTo ?_; repeat (with_reducible first | refine ExitTo.blk ?_ | refine ExitTo.blkNe rfl ?_ | refine ExitTo.body ?_ | refine ExitTo.brk rfl ?_ | refine ExitTo.bodyNe rfl rfl ?_ | refine ExitTo.seq ?_ | refine ExitTo.loop ?_))
  refine Nrm.next ?_
  refine Tri.region ?_
  refine TOps.move rfl rfl ?_
  refine TOps.move rfl rfl ?_
  refine TOps.move rfl rfl ?_
  refine TOps.sub (r := ((m - i : Nat) : Int)) rfl rfl (by rw [wrapI (by omega) (by omega)]; omega) rfl ?_
  refine TOps.move rfl rfl ?_
  refine TOps.move rfl rfl ?_
  refine TOps.move rfl rfl ?_
  refine TOps.call (vs := [_, _, _, _, _]) Tryz.call108 ⟨rfl, rfl, rfl, rfl, rfl, trivial⟩ (swapRange_g (p := m - i) (q := m) (m := i) hzl hN (by omega) (by omega)) rfl ?_
  rintro _ _ ⟨rfl, z2, hs, rfl⟩
  refine TOps.fin ?_
  exact Nrm.ret0 (H' := row (some bb) 66 3 cap (rwV (z2)) :: H) Tryz.results107 (Le.refl _) ⟨rfl, z2, hp.fin hs, rfl⟩
theorem SOn.mono' {key : Rw → Int} {a b b' : Nat} {l : List Rw} (h : SOn key a b l) (hb : b' ≤ b) : SOn key a b' l := fun i j h1 h2 h3 => h i j h1 h2 (by omega)
set_option maxHeartbeats 1000000 in
theorem insRows_g {H : List Ent} {bb cap N p q : Nat} {l : List Rw} (hl : l.length = N) (hN : N ≤ 1000000) (hpq : p ≤ q) (hqN : q ≤ N) (hev0 : ∀ r ∈ l, r.ev < 16777216) :
    Gives Tryz.prog 103 [slV (some bb) 0 N cap, natV p, natV q, .func (.func 71) #[] #[]] (row (some bb) 66 3 cap (rwV (l)) :: H) (fun u H' => u = .tuple (List.toArray []) ∧ ∃ l', POn p q l l' ∧ SOn ((fun r => (szR r : Int))) p q l' ∧ row (some bb) 66 3 cap (rwV (l')) :: H = H') := by
  refine Gives.enter Tryz.func103 rfl (by exact Tryz.ntmps103) rfl ?_
  refine Tri.seq (Tri.region ?_)
  refine TOps.move rfl rfl ?_
  refine TOps.add (r := ((p + 1 : Nat) : Int)) rfl rfl (by rw [wrapI (by omega) (by omega)]; omega) rfl ?_
  refine TOps.assign rfl rfl ?_
  refine TOps.next ?_
  refine Tri.block ?_
  refine Tri.loop (X := Nat × List Rw) (fun x => [(0, slV (some bb) 0 N cap), (1, natV p), (2, natV q), (3, .func (.func 71) #[] #[]), (8, natV x.1)]) (fun x => row (some bb) 66 3 cap (rwV (x.2)) :: H) (fun x => p + 1 ≤ x.1 ∧ (x.1 ≤ q ∨ x.1 = p + 1) ∧ SOn ((fun r => (szR r : Int))) p x.1 x.2 ∧ POn p q l x.2) (fun x => q - x.1) (p + 1, l) ⟨Nat.le_refl _, .inr rfl, SOn.one, POn.refl _ _ _⟩ ⟨rfl, rfl, rfl, rfl, rfl, trivial⟩ (by repeat (first | exact Le.refl _ | assumption | apply Le.drop)) (fun x hp => ?_)
  obtain ⟨i, z⟩ := x
  obtain ⟨hp1, hp2, hp3, hp4⟩ := hp
  dsimp only at hp1 hp2 hp3 hp4 ⊢
  have hzl : z.length = N := hp4.len.trans hl
  refine Tri.seq ?_
  refine Tri.seq (Tri.region ?_)
  refine TOps.move rfl rfl ?_
  refine TOps.move rfl rfl ?_
  refine TOps.lss rfl rfl rfl ?_
  refine TOps.next ?_
  refine Tri.cond rfl (fun hc1 => ?_) (fun hc1 => ?_)
  · try simp only [decide_eq_true_eq, decide_eq_false_iff_not, Bool.and_eq_true, Bool.or_eq_true, Bool.not_eq_true', Bool.and_eq_false_iff, Bool.or_eq_false_iff, Bool.not_eq_false', Int.not_lt, Int.not_le, ne_eq, Decidable.not_not, Option.isSome_iff_ne_none, Option.isNone_iff_eq_none] at hc1
    refine Tri.fin ?_
    refine Nrm.next ?_
    refine Tri.seq ?_
    refine Tri.block ?_
    refine Tri.seq (Tri.region ?_)
    refine TOps.move rfl rfl ?_
    refine TOps.assign rfl rfl ?_
    refine TOps.next ?_
    refine Tri.block ?_
    refine Tri.loop (X := Nat × List Rw) (fun x => [(0, slV (some bb) 0 N cap), (1, natV p), (2, natV q), (3, .func (.func 71) #[] #[]), (8, natV i), (9, natV x.1)]) (fun x => row (some bb) 66 3 cap (rwV (x.2)) :: H) (fun x => p ≤ x.1 ∧ x.1 ≤ i ∧ InsI ((fun r => (szR r : Int))) p i x.1 x.2 ∧ POn p q l x.2) (fun x => x.1) (i, z) ⟨by omega, Nat.le_refl _, InsI.start hp3, hp4⟩ ⟨rfl, rfl, rfl, rfl, rfl, rfl, trivial⟩ (by repeat (first | exact Le.refl _ | assumption | apply Le.drop)) (fun x hp => ?_)
    obtain ⟨j, z2⟩ := x
    obtain ⟨hq1, hq2, hq3, hq4⟩ := hp
    dsimp only at hq1 hq2 hq3 hq4 ⊢
    have hzl2 : z2.length = N := hq4.len.trans hl
    have hev : ∀ r ∈ z2, r.ev < 16777216 := fun r hr => hev0 r (hq4.perm.mem_iff.1 hr)
    refine Tri.seq ?_
    refine Tri.seq ?_
    rcases Nat.lt_or_ge p j with hpj | hpj; rotate_left
    · skip
      have hcA : decide ((p : Int) < (j : Int)) = false := decide_eq_false (by omega)
      refine Tri.drawC rfl [(0, slV (some bb) 0 N cap), (1, natV p), (2, natV q), (3, .func (.func 71) #[] #[]), (8, natV i), (9, natV j)] [] [_, _, _, _, _, _, _, _, _, _, _, _, _, _, _, _, _] (row (some bb) 66 3 cap (rwV (z2)) :: H) [16] rfl ⟨rfl, rfl, rfl, rfl, rfl, rfl, trivial⟩ trivial (by repeat (first | exact Le.refl _ | assumption | apply Le.drop)) (by
        refine ⟨?_, ?_, ?_, ?_, ?_, ?_, ?_, ?_, ?_, ?_, ?_, ?_, ?_, ?_, ?_, ?_, ?_, trivial⟩
        · refine ⟨fun x S c he hw hd hc hcu hm _ => ?_, trivial⟩
          refine TOps.move (he _ _ rfl) rfl ?_
          exact TOps.fd x rfl rfl
        · refine ⟨fun x S c he hw hd hc hcu hm _ => ?_, trivial⟩
          refine TOps.move (he _ _ rfl) rfl ?_
          exact TOps.fd x rfl rfl
        · refine ⟨fun x S c he hw hd hc hcu hm _ => ?_, trivial⟩
          obtain ⟨h0, h1, -⟩ := hd
          first | refine TOps.gtrr (r := false) h0 h1 hcA rfl ?_ | refine TOps.gtrr (r := true) h0 h1 hcA rfl ?_
          exact TOps.fd x rfl rfl
        · refine ⟨fun x S c he hw hd hc hcu hm _ => ?_, trivial⟩
          obtain ⟨h2, -⟩ := hd
          refine TOps.move h2 rfl ?_
          exact TOps.fd x rfl rfl
        · refine ⟨fun x S c he hw hd hc hcu hm hgd => ?_, ⟨_, rfl⟩, .inl ⟨rfl, fun x => .inr ⟨.inl rfl, rfl⟩⟩⟩
          exact absurd hgd (by first | (intro h; cases h; done) | simp_all)
        · refine ⟨fun x S c he hw hd hc hcu hm hgd => ?_, ⟨_, rfl⟩, .inl ⟨rfl, fun x => .inr ⟨.inl rfl, rfl⟩⟩⟩
          exact absurd hgd (by first | (intro h; cases h; done) | simp_all)
        · refine ⟨fun x S c he hw hd hc hcu hm hgd => ?_, ⟨_, rfl⟩, .inl ⟨rfl, fun x => .inr ⟨.inl rfl, rfl⟩⟩⟩
          exact absurd hgd (by first | (intro h; cases h; done) | simp_all)
        · refine ⟨fun x S c he hw hd hc hcu hm hgd => ?_, ⟨_, rfl⟩, .inl ⟨rfl, fun x => .inr ⟨.inl rfl, rfl⟩⟩⟩
          exact absurd hgd (by first | (intro h; cases h; done) | simp_all)
        · refine ⟨fun x S c he hw hd hc hcu hm hgd => ?_, ⟨_, rfl⟩, .inl ⟨rfl, fun x => .inr ⟨.inl rfl, rfl⟩⟩⟩
          exact absurd hgd (by first | (intro h; cases h; done) | simp_all)
        · refine ⟨fun x S c he hw hd hc hcu hm hgd => ?_, ⟨_, rfl⟩, .inl ⟨rfl, fun x => .inr ⟨.inl rfl, rfl⟩⟩⟩
          exact absurd hgd (by first | (intro h; cases h; done) | simp_all)
        · refine ⟨fun x S c he hw hd hc hcu hm hgd => ?_, ⟨_, rfl⟩, .inl ⟨rfl, fun x => .inr ⟨.inl rfl, rfl⟩⟩⟩
          exact absurd hgd (by first | (intro h; cases h; done) | simp_all)
        · refine ⟨fun x S c he hw hd hc hcu hm hgd => ?_, ⟨_, rfl⟩, .inl ⟨rfl, fun x => .inr ⟨.inl rfl, rfl⟩⟩⟩
          exact absurd hgd (by first | (intro h; cases h; done) | simp_all)
        · refine ⟨fun x S c he hw hd hc hcu hm hgd => ?_, ⟨_, rfl⟩, .inl ⟨rfl, fun x => .inr ⟨.inl rfl, rfl⟩⟩⟩
          exact absurd hgd (by first | (intro h; cases h; done) | simp_all)
        · refine ⟨fun x S c he hw hd hc hcu hm hgd => ?_, ⟨_, rfl⟩, .inl ⟨rfl, fun x => .inr ⟨.inl rfl, rfl⟩⟩⟩
          exact absurd hgd (by first | (intro h; cases h; done) | simp_all)
        · refine ⟨fun x S c he hw hd hc hcu hm hgd => ?_, ⟨_, rfl⟩, .inl ⟨rfl, fun x => .inr ⟨.inl rfl, rfl⟩⟩⟩
          exact absurd hgd (by first | (intro h; cases h; done) | simp_all)
        · refine ⟨fun x S c he hw hd hc hcu hm hgd => ?_, ⟨_, rfl⟩, .inl ⟨rfl, fun x => .inr ⟨.inl rfl, rfl⟩⟩⟩
          exact absurd hgd (by first | (intro h; cases h; done) | simp_all)
        · refine ⟨fun x S c he hw hd hc hcu hm _ => ?_, trivial⟩
          obtain ⟨h3, h15, -⟩ := hd
          refine TOps.pick h3 h15 rfl rfl ?_
          exact TOps.fd x rfl rfl
        ) ?_
      refine Nrm.next ?_
      refine Tri.cond rfl (fun hc2 => ?_) (fun hc2 => ?_)
      · try simp only [decide_eq_true_eq, decide_eq_false_iff_not, Bool.and_eq_true, Bool.or_eq_true, Bool.not_eq_true', Bool.and_eq_false_iff, Bool.or_eq_false_iff, Bool.not_eq_false', Int.not_lt, Int.not_le, ne_eq, Decidable.not_not, Option.isSome_iff_ne_none, Option.isNone_iff_eq_none] at hc2
        exact absurd hc2 (by simp)
      try simp only [decide_eq_true_eq, decide_eq_false_iff_not, Bool.and_eq_true, Bool.or_eq_true, Bool.not_eq_true', Bool.and_eq_false_iff, Bool.or_eq_false_iff, Bool.not_eq_false', Int.not_lt, Int.not_le, ne_eq, Decidable.not_not, Option.isSome_iff_ne_none, Option.isNone_iff_eq_none] at hc2
      have hfin : SOn ((fun r => (szR r : Int))) p (i + 1) z2 := hq3.fin (by first | (left; omega) | (right; show (szR _ : Int) ≤ szR _; omega)) hq1
      first | refine Tri.exitW ?_ | (refine Tri.exitTo ?_; repeat (with_reducible first | refine ExitTo.blk ?_ | refine ExitTo.blkNe rfl ?_ | refine ExitTo.body ?_ | refine ExitTo.brk rfl ?_ | refine ExitTo.bodyNe rfl rfl ?_ | refine ExitTo.seq ?_ | refine ExitTo.loop ?_))
      refine Nrm.unB ?_
      refine Nrm.next ?_
      refine Tri.region ?_
      refine TOps.move rfl rfl ?_
      refine TOps.add (r := ((i + 1 : Nat) : Int)) rfl rfl (by rw [wrapI (by omega) (by omega)]; omega) rfl ?_
      refine TOps.assign rfl rfl ?_
      refine TOps.fin ?_
      refine Nrm.loop (i + 1, z2) ⟨by omega, .inl (by omega), hfin, hq4⟩ (by simp only; omega) ⟨rfl, rfl, rfl, rfl, rfl, trivial⟩ (by repeat (first | exact Le.refl _ | assumption | apply Le.drop))
    · skip
      have hcA : decide ((p : Int) < (j : Int)) = true := decide_eq_true (by omega)
      refine Tri.drawC rfl [(0, slV (some bb) 0 N cap), (1, natV p), (2, natV q), (3, .func (.func 71) #[] #[]), (8, natV i), (9, natV j)] [] [_, _, _, _, _, _, _, _, _, _, _, _, _, _, _, _, _] (row (some bb) 66 3 cap (rwV (z2)) :: H) [16] rfl ⟨rfl, rfl, rfl, rfl, rfl, rfl, trivial⟩ trivial (by repeat (first | exact Le.refl _ | assumption | apply Le.drop)) (by
        refine ⟨?_, ?_, ?_, ?_, ?_, ?_, ?_, ?_, ?_, ?_, ?_, ?_, ?_, ?_, ?_, ?_, ?_, trivial⟩
        · refine ⟨fun x S c he hw hd hc hcu hm _ => ?_, trivial⟩
          refine TOps.move (he _ _ rfl) rfl ?_
          exact TOps.fd x rfl rfl
        · refine ⟨fun x S c he hw hd hc hcu hm _ => ?_, trivial⟩
          refine TOps.move (he _ _ rfl) rfl ?_
          exact TOps.fd x rfl rfl
        · refine ⟨fun x S c he hw hd hc hcu hm _ => ?_, trivial⟩
          obtain ⟨h0, h1, -⟩ := hd
          first | refine TOps.gtrr (r := false) h0 h1 hcA rfl ?_ | refine TOps.gtrr (r := true) h0 h1 hcA rfl ?_
          exact TOps.fd x rfl rfl
        · refine ⟨fun x S c he hw hd hc hcu hm _ => ?_, trivial⟩
          obtain ⟨h2, -⟩ := hd
          refine TOps.move h2 rfl ?_
          exact TOps.fd x rfl rfl
        · refine ⟨fun x S c he hw hd hc hcu hm hgd => ?_, ⟨_, rfl⟩, .inl ⟨rfl, fun x => .inl rfl⟩⟩
          obtain ⟨h3, -⟩ := hd
          refine TOps.move (he _ _ rfl) rfl ?_
          exact TOps.fd x rfl rfl
        · refine ⟨fun x S c he hw hd hc hcu hm hgd => ?_, ⟨_, rfl⟩, .inl ⟨rfl, fun x => .inl rfl⟩⟩
          obtain ⟨h3, -⟩ := hd
          refine TOps.move (he _ _ rfl) rfl ?_
          exact TOps.fd x rfl rfl
        · refine ⟨fun x S c he hw hd hc hcu hm hgd => ?_, ⟨_, rfl⟩, .inl ⟨rfl, fun x => .inl rfl⟩⟩
          obtain ⟨h3, -⟩ := hd
          refine TOps.move (he _ _ rfl) rfl ?_
          exact TOps.fd x rfl rfl
        · refine ⟨fun x S c he hw hd hc hcu hm hgd => ?_, ⟨_, rfl⟩, .inl ⟨rfl, fun x => .inl rfl⟩⟩
          obtain ⟨h5, h6, h3, -⟩ := hd
          refine TOps.indexAddr (b := bb) (off := 0) (m := N) (cap := cap) (off' := j * 3) h5 h6 Tryz.underlying60 ti66 (by omega) (by omega) (by rw [Int.toNat_natCast]; omega) rfl ?_
          exact TOps.fd x rfl rfl
        · refine ⟨fun x S c he hw hd hc hcu hm hgd => ?_, ⟨_, rfl⟩, .inl ⟨rfl, fun x => .inl rfl⟩⟩
          obtain ⟨h7, h3, -⟩ := hd
          refine TOps.loadN (vs := (gL z2 j).cells) h7 ti66 (rwV_rd (List.Mem.head _) (by omega)) rfl rfl ?_
          exact TOps.fd x rfl rfl
        · refine ⟨fun x S c he hw hd hc hcu hm hgd => ?_, ⟨_, rfl⟩, .inl ⟨rfl, fun x => .inl rfl⟩⟩
          obtain ⟨h3, -⟩ := hd
          refine TOps.move (he _ _ rfl) rfl ?_
          exact TOps.fd x rfl rfl
        · refine ⟨fun x S c he hw hd hc hcu hm hgd => ?_, ⟨_, rfl⟩, .inl ⟨rfl, fun x => .inl rfl⟩⟩
          obtain ⟨h3, -⟩ := hd
          refine TOps.move (he _ _ rfl) rfl ?_
          exact TOps.fd x rfl rfl
        · refine ⟨fun x S c he hw hd hc hcu hm hgd => ?_, ⟨_, rfl⟩, .inl ⟨rfl, fun x => .inl rfl⟩⟩
          obtain ⟨h10, h3, -⟩ := hd
          refine TOps.sub (r := (((j - 1) : Nat) : Int)) h10 rfl (by rw [wrapI (by omega) (by omega)]; omega) rfl ?_
          exact TOps.fd x rfl rfl
        · refine ⟨fun x S c he hw hd hc hcu hm hgd => ?_, ⟨_, rfl⟩, .inl ⟨rfl, fun x => .inl rfl⟩⟩
          obtain ⟨h9, h11, h3, -⟩ := hd
          refine TOps.indexAddr (b := bb) (off := 0) (m := N) (cap := cap) (off' := (j - 1) * 3) h9 h11 Tryz.underlying60 ti66 (by omega) (by omega) (by rw [Int.toNat_natCast]; omega) rfl ?_
          exact TOps.fd x rfl rfl
        · refine ⟨fun x S c he hw hd hc hcu hm hgd => ?_, ⟨_, rfl⟩, .inl ⟨rfl, fun x => .inl rfl⟩⟩
          obtain ⟨h12, h3, -⟩ := hd
          refine TOps.loadN (vs := (gL z2 (j - 1)).cells) h12 ti66 (rwV_rd (List.Mem.head _) (by omega)) rfl rfl ?_
          exact TOps.fd x rfl rfl
        · refine ⟨fun x S c he hw hd hc hcu hm hgd => ?_, ⟨_, rfl⟩, .inl ⟨rfl, fun x => .inl rfl⟩⟩
          obtain ⟨h4, h8, h13, h3, _, -⟩ := hd
          refine TOps.callV (caps := []) (vs := [_, _]) h4 Tryz.call71 ⟨h8, h13, trivial⟩ (least1_g (gL_ev hev _) (gL_ev hev _)) rfl ?_
          rintro _ _ ⟨rfl, rfl⟩
          exact TOps.fd x rfl rfl
        · refine ⟨fun x S c he hw hd hc hcu hm hgd => ?_, ⟨_, rfl⟩, .inl ⟨rfl, fun x => .inl rfl⟩⟩
          obtain ⟨h14, h3, -⟩ := hd
          refine TOps.lss h14 rfl rfl ?_
          exact TOps.fd x rfl rfl
        · refine ⟨fun x S c he hw hd hc hcu hm _ => ?_, trivial⟩
          obtain ⟨h3, h15, -⟩ := hd
          refine TOps.pick h3 h15 rfl rfl ?_
          exact TOps.fd x rfl rfl
        ) ?_
      refine Nrm.next ?_
      refine Tri.cond rfl (fun hc2 => ?_) (fun hc2 => ?_)
      · try simp only [decide_eq_true_eq, decide_eq_false_iff_not, Bool.and_eq_true, Bool.or_eq_true, Bool.not_eq_true', Bool.and_eq_false_iff, Bool.or_eq_false_iff, Bool.not_eq_false', Int.not_lt, Int.not_le, ne_eq, Decidable.not_not, Option.isSome_iff_ne_none, Option.isNone_iff_eq_none] at hc2
        refine Tri.fin ?_
        refine Nrm.next ?_
        refine Tri.seq ?_
        refine Tri.block ?_
        refine Tri.drawX (X := Unit) rfl [(0, slV (some bb) 0 N cap), (1, natV p), (2, natV q), (3, .func (.func 71) #[] #[]), (8, natV i), (9, natV j)] [] (fun x => [_, _, _, _, _, _, _, _, _, _, _, _, _, _, _, undef, _, undef]) (fun x c => match c with | 0 => row (some bb) 66 3 cap (rwV (z2)) :: H | 1 => row (some bb) 66 3 cap (rwV (z2.set j (gL z2 (j - 1)))) :: H | _ + 2 => row (some bb) 66 3 cap (rwV (swapL z2 j (j - 1))) :: H) [15, 17] () [] rfl rfl ⟨rfl, rfl, rfl, rfl, rfl, rfl, trivial⟩ trivial (by repeat (first | exact Le.refl _ | assumption | apply Le.drop)) (by
          refine ⟨?_, ?_, ?_, ?_, ?_, ?_, ?_, ?_, ?_, ?_, ?_, ?_, ?_, ?_, ?_, ?_, ?_, ?_, trivial⟩
          · refine ⟨fun x S c he hw hd hc hcu hm _ => ?_, trivial⟩
            refine TOps.move (he _ _ rfl) rfl ?_
            exact TOps.fd x rfl rfl
          · refine ⟨fun x S c he hw hd hc hcu hm _ => ?_, trivial⟩
            refine TOps.move (he _ _ rfl) rfl ?_
            exact TOps.fd x rfl rfl
          · refine ⟨fun x S c he hw hd hc hcu hm _ => ?_, trivial⟩
            refine TOps.move (he _ _ rfl) rfl ?_
            exact TOps.fd x rfl rfl
          · refine ⟨fun x S c he hw hd hc hcu hm _ => ?_, trivial⟩
            refine TOps.move (he _ _ rfl) rfl ?_
            exact TOps.fd x rfl rfl
          · refine ⟨fun x S c he hw hd hc hcu hm _ => ?_, trivial⟩
            obtain ⟨h3, -⟩ := hd
            refine TOps.sub (r := (((j - 1) : Nat) : Int)) h3 rfl (by rw [wrapI (by omega) (by omega)]; omega) rfl ?_
            exact TOps.fd x rfl rfl
          · refine ⟨fun x S c he hw hd hc hcu hm _ => ?_, trivial⟩
            refine TOps.move (he _ _ rfl) rfl ?_
            exact TOps.fd x rfl rfl
          · refine ⟨fun x S c he hw hd hc hcu hm _ => ?_, trivial⟩
            refine TOps.move (he _ _ rfl) rfl ?_
            exact TOps.fd x rfl rfl
          · refine ⟨fun x S c he hw hd hc hcu hm _ => ?_, trivial⟩
            obtain ⟨h6, -⟩ := hd
            refine TOps.sub (r := (((j - 1) : Nat) : Int)) h6 rfl (by rw [wrapI (by omega) (by omega)]; omega) rfl ?_
            exact TOps.fd x rfl rfl
          · refine ⟨fun x S c he hw hd hc hcu hm _ => ?_, trivial⟩
            obtain ⟨h5, h7, -⟩ := hd
            refine TOps.indexAddr (b := bb) (off := 0) (m := N) (cap := cap) (off' := (j - 1) * 3) h5 h7 Tryz.underlying60 ti66 (by omega) (by omega) (by rw [Int.toNat_natCast]; omega) rfl ?_
            exact TOps.fd x rfl rfl
          · refine ⟨fun x S c he hw hd hc hcu hm _ => ?_, trivial⟩
            obtain ⟨h8, -⟩ := hd
            obtain rfl : c = 0 := by have : c ≤ 0 := hcu; omega
            refine TOps.loadN (vs := (gL z2 (j - 1)).cells) h8 ti66 (rwV_rd (List.Mem.head _) (by omega)) rfl rfl ?_
            exact TOps.fd x rfl rfl
          · refine ⟨fun x S c he hw hd hc hcu hm _ => ?_, trivial⟩
            refine TOps.move (he _ _ rfl) rfl ?_
            exact TOps.fd x rfl rfl
          · refine ⟨fun x S c he hw hd hc hcu hm _ => ?_, trivial⟩
            refine TOps.move (he _ _ rfl) rfl ?_
            exact TOps.fd x rfl rfl
          · refine ⟨fun x S c he hw hd hc hcu hm _ => ?_, trivial⟩
            obtain ⟨h10, h11, -⟩ := hd
            refine TOps.indexAddr (b := bb) (off := 0) (m := N) (cap := cap) (off' := j * 3) h10 h11 Tryz.underlying60 ti66 (by omega) (by omega) (by rw [Int.toNat_natCast]; omega) rfl ?_
            exact TOps.fd x rfl rfl
          · refine ⟨fun x S c he hw hd hc hcu hm _ => ?_, trivial⟩
            obtain ⟨h12, -⟩ := hd
            obtain rfl : c = 0 := by have : c ≤ 0 := hcu; omega
            refine TOps.loadN (vs := (gL z2 j).cells) h12 ti66 (rwV_rd (List.Mem.head _) (by omega)) rfl rfl ?_
            exact TOps.fd x rfl rfl
          · refine ⟨fun x S c he hw hd hc hcu hm _ => ?_, trivial⟩
            obtain ⟨h0, h1, _, _, h5, h6, h7, h8, h9, h13, -⟩ := hd
            refine TOps.indexAddr (b := bb) (off := 0) (m := N) (cap := cap) (off' := j * 3) h0 h1 Tryz.underlying60 ti66 (by omega) (by omega) (by rw [Int.toNat_natCast]; omega) rfl ?_
            exact TOps.fd x rfl rfl
          · refine ⟨fun x S c he hw hd hc hcu hm _ => ?_, trivial⟩
            obtain ⟨h14, h9, h0, h1, h5, h6, h7, h8, _, h13, -⟩ := hd
            obtain rfl : c = 0 := hm rfl
            refine TOps.storeN h14 h9 ti66 rfl rfl Upd.here (by rw [rwV_length]; (try simp only [List.length_set]); omega) ?_
            rw [rwV_set _ _ _ (by (try simp only [List.length_set]); omega)]
            exact TOps.fin (Nrm.draw x (fun _ _ _ => rfl) rfl (Le.refl _))
          · refine ⟨fun x S c he hw hd hc hcu hm _ => ?_, trivial⟩
            obtain ⟨h2, h4, h0, h1, _, h3, _, h5, h6, h7, h8, h9, h10, h11, h12, h13, h14, h15, -⟩ := hd
            refine TOps.indexAddr (b := bb) (off := 0) (m := N) (cap := cap) (off' := (j - 1) * 3) h2 h4 Tryz.underlying60 ti66 (by omega) (by omega) (by rw [Int.toNat_natCast]; omega) rfl ?_
            exact TOps.fd x rfl rfl
          · refine ⟨fun x S c he hw hd hc hcu hm _ => ?_, trivial⟩
            obtain ⟨h16, h13, h15, h0, h1, h2, h3, h4, h5, h6, h7, h8, h9, h10, h11, h12, _, h14, _, -⟩ := hd
            obtain rfl : c = 1 := hm rfl
            refine TOps.storeN h16 h13 ti66 rfl rfl Upd.here (by rw [rwV_length]; (try simp only [List.length_set]); omega) ?_
            rw [rwV_set _ _ _ (by (try simp only [List.length_set]); omega)]
            exact TOps.fin (Nrm.draw x (fun _ _ _ => rfl) rfl (Le.refl _))
          ) (fun x => ?_)
        refine Nrm.unB ?_
        refine Nrm.next ?_
        refine Tri.region ?_
        refine TOps.move rfl rfl ?_
        refine TOps.sub (r := ((j - 1 : Nat) : Int)) rfl rfl (by rw [wrapI (by omega) (by omega)]; omega) rfl ?_
        refine TOps.assign rfl rfl ?_
        refine TOps.fin ?_
        have hnext : p ≤ j - 1 ∧ j - 1 ≤ i ∧ InsI ((fun r => (szR r : Int))) p i (j - 1) (swapL z2 j (j - 1)) ∧ POn p q l (swapL z2 j (j - 1)) := by obtain ⟨j', rfl⟩ : ∃ j', j = j' + 1 := ⟨j - 1, by omega⟩; rw [Nat.add_sub_cancel] at hc2 ⊢; exact ⟨by omega, by omega, hq3.step (by omega) hq2 (by omega) (by show (szR _ : Int) < szR _; omega), hq4.trans (POn.swap (by omega) (by omega) (by omega) (by omega) (by omega))⟩
        refine Nrm.loop (j - 1, swapL z2 j (j - 1)) hnext (by simp only; omega) ⟨rfl, rfl, rfl, rfl, rfl, rfl, trivial⟩ (by repeat (first | exact Le.refl _ | assumption | apply Le.drop))
      try simp only [decide_eq_true_eq, decide_eq_false_iff_not, Bool.and_eq_true, Bool.or_eq_true, Bool.not_eq_true', Bool.and_eq_false_iff, Bool.or_eq_false_iff, Bool.not_eq_false', Int.not_lt, Int.not_le, ne_eq, Decidable.not_not, Option.isSome_iff_ne_none, Option.isNone_iff_eq_none] at hc2
      have hfin : SOn ((fun r => (szR r : Int))) p (i + 1) z2 := hq3.fin (by first | (left; omega) | (right; show (szR _ : Int) ≤ szR _; omega)) hq1
      first | refine Tri.exitW ?_ | (refine Tri.exitTo ?_; repeat (with_reducible first | refine ExitTo.blk ?_ | refine ExitTo.blkNe rfl ?_ | refine ExitTo.body ?_ | refine ExitTo.brk rfl ?_ | refine ExitTo.bodyNe rfl rfl ?_ | refine ExitTo.seq ?_ | refine ExitTo.loop ?_))
      refine Nrm.unB ?_
      refine Nrm.next ?_
      refine Tri.region ?_
      refine TOps.move rfl rfl ?_
      refine TOps.add (r := ((i + 1 : Nat) : Int)) rfl rfl (by rw [wrapI (by omega) (by omega)]; omega) rfl ?_
      refine TOps.assign rfl rfl ?_
      refine TOps.fin ?_
      refine Nrm.loop (i + 1, z2) ⟨by omega, .inl (by omega), hfin, hq4⟩ (by simp only; omega) ⟨rfl, rfl, rfl, rfl, rfl, trivial⟩ (by repeat (first | exact Le.refl _ | assumption | apply Le.drop))
  try simp only [decide_eq_true_eq, decide_eq_false_iff_not, Bool.and_eq_true, Bool.or_eq_true, Bool.not_eq_true', Bool.and_eq_false_iff, Bool.or_eq_false_iff, Bool.not_eq_false', Int.not_lt, Int.not_le, ne_eq, Decidable.not_not, Option.isSome_iff_ne_none, Option.isNone_iff_eq_none] at hc1
  first | refine Tri.exitW ?_ | (refine Tri.exitTo ?_; repeat (with_reducible first | refine ExitTo.blk ?_ | refine ExitTo.blkNe rfl ?_ | refine ExitTo.body ?_ | refine ExitTo.brk rfl ?_ | refine ExitTo.bodyNe rfl rfl ?_ | refine ExitTo.seq ?_ | refine ExitTo.loop ?_))
  exact Nrm.ret0 (H' := row (some bb) 66 3 cap (rwV (z)) :: H) Tryz.results103 (Le.refl _) ⟨rfl, z, hp4, SOn.mono' hp3 (by omega), rfl⟩
end Go.Proofs
namespace Go.Proofs
open Go.GL
set_option linter.unusedVariables false
set_option linter.unusedSimpArgs false
set_option maxHeartbeats 1000000 in
theorem symMerge_g {bb cap N : Nat} (hN : N ≤ 1000000) : ∀ (K : Nat) {H : List Ent} {p m q : Nat} {l : List Rw}, q - p < K → l.length = N → p < m → m < q → q ≤ N → (∀ r ∈ l, r.ev < 16777216) → SOn ((fun r => (szR r : Int))) p m l → SOn ((fun r => (szR r : Int))) m q l →
    Gives Tryz.prog 104 [slV (some bb) 0 N cap, natV p, natV m, natV q, .func (.func 71) #[] #[]] (row (some bb) 66 3 cap (rwV (l)) :: H) (fun u H' => u = .tuple (List.toArray []) ∧ ∃ l', POn p q l l' ∧ SOn ((fun r => (szR r : Int))) p q l' ∧ row (some bb) 66 3 cap (rwV (l')) :: H = H') := by
  intro K
  induction K with
  | zero => intro H p m q l h; omega
  | succ K ih =>
  intro H p m q l hK hl hpm hmq hqN hev hL hR
  refine Gives.enter Tryz.func104 rfl (by exact Tryz.ntmps104) rfl ?_
  refine Tri.seq ?_
  refine Tri.seq (Tri.region ?_)
  refine TOps.move rfl rfl ?_
  refine TOps.move rfl rfl ?_
  refine TOps.sub (r := ((m - p : Nat) : Int)) rfl rfl (by rw [wrapI (by omega) (by omega)]; omega) rfl ?_
  refine TOps.eqlI rfl rfl rfl ?_
  refine TOps.next ?_
  refine Tri.cond rfl (fun hc1 => ?_) (fun hc1 => ?_)
  · try simp only [decide_eq_true_eq, decide_eq_false_iff_not, Bool.and_eq_true, Bool.or_eq_true, Bool.not_eq_true', Bool.and_eq_false_iff, Bool.or_eq_false_iff, Bool.not_eq_false', Int.not_lt, Int.not_le, ne_eq, Decidable.not_not, Option.isSome_iff_ne_none, Option.isNone_iff_eq_none] at hc1
    obtain rfl : m = p + 1 := by omega
    refine Tri.seq (Tri.region ?_)
    refine TOps.move rfl rfl ?_
    refine TOps.assign rfl rfl ?_
    refine TOps.next ?_
    refine Tri.seq (Tri.region ?_)
    refine TOps.move rfl rfl ?_
    refine TOps.assign rfl rfl ?_
    refine TOps.next ?_
    refine Tri.seq ?_
    refine Tri.block ?_
    refine Tri.loop (X := Nat × Nat) (fun x => [(0, slV (some bb) 0 N cap), (1, natV p), (4, .func (.func 71) #[] #[]), (10, natV x.1), (11, natV x.2)]) (fun x => row (some bb) 66 3 cap (rwV (l)) :: H) (fun x => p + 1 ≤ x.1 ∧ x.1 ≤ x.2 ∧ x.2 ≤ q ∧ (x.1 = p + 1 ∨ (szR (gL l (x.1 - 1)) : Int) < (szR (gL l (p)) : Int)) ∧ (x.2 = q ∨ (szR (gL l (p)) : Int) ≤ (szR (gL l (x.2)) : Int))) (fun x => x.2 - x.1) (p + 1, q) ⟨Nat.le_refl _, by simp only; omega, Nat.le_refl _, .inl rfl, .inl rfl⟩ ⟨rfl, rfl, rfl, rfl, rfl, trivial⟩ (by repeat (first | exact Le.refl _ | assumption | apply Le.drop)) (fun x hp => ?_)
    obtain ⟨i, j⟩ := x
    obtain ⟨u1, u2, u3, u4, u5⟩ := hp
    dsimp only at u1 u2 u3 u4 u5 ⊢
    refine Tri.seq ?_
    refine Tri.seq (Tri.region ?_)
    refine TOps.move rfl rfl ?_
    refine TOps.move rfl rfl ?_
    refine TOps.lss rfl rfl rfl ?_
    refine TOps.next ?_
    refine Tri.cond rfl (fun hc2 => ?_) (fun hc2 => ?_)
    · try simp only [decide_eq_true_eq, decide_eq_false_iff_not, Bool.and_eq_true, Bool.or_eq_true, Bool.not_eq_true', Bool.and_eq_false_iff, Bool.or_eq_false_iff, Bool.not_eq_false', Int.not_lt, Int.not_le, ne_eq, Decidable.not_not, Option.isSome_iff_ne_none, Option.isNone_iff_eq_none] at hc2
      refine Tri.fin ?_
      refine Nrm.next ?_
      refine Tri.block ?_
      refine Tri.seq (Tri.region ?_)
      refine TOps.move rfl rfl ?_
      refine TOps.move rfl rfl ?_
      refine TOps.add (r := ((i + j : Nat) : Int)) rfl rfl (by rw [wrapI (by omega) (by omega)]; omega) rfl ?_
      refine TOps.convI (r := (((i + j) : Nat) : Int)) rfl Tryz.underlying3 Tryz.underlying88 (wrapU _ (by omega) (by omega)) rfl ?_
      refine TOps.shrU (r := (((i + j) / 2 : Nat) : Int)) rfl rfl (by decide) (by rw [show ((1 : Int)).toNat = 1 from rfl, ishr_nat (by omega), Nat.shiftRight_eq_div_pow]) rfl ?_
      refine TOps.convI (r := (((i + j) / 2 : Nat) : Int)) rfl Tryz.underlying88 Tryz.underlying3 (wrapI (by omega) (by omega)) rfl ?_
      refine TOps.assign rfl rfl ?_
      obtain ⟨h, hh⟩ : ∃ h, h = (i + j) / 2 := ⟨_, rfl⟩
      rw [← hh]
      refine TOps.next ?_
      refine Tri.seq ?_
      refine Tri.drawC rfl [(0, slV (some bb) 0 N cap), (1, natV p), (4, .func (.func 71) #[] #[]), (10, natV i), (11, natV j), (12, natV h)] [] [_, _, _, _, _, _, _, _, _, _, _] (row (some bb) 66 3 cap (rwV (l)) :: H) [10] rfl ⟨rfl, rfl, rfl, rfl, rfl, rfl, trivial⟩ trivial (by repeat (first | exact Le.refl _ | assumption | apply Le.drop)) (by
        refine ⟨?_, ?_, ?_, ?_, ?_, ?_, ?_, ?_, ?_, ?_, ?_, trivial⟩
        · refine ⟨fun x S c he hw hd hc hcu hm _ => ?_, trivial⟩
          refine TOps.move (he _ _ rfl) rfl ?_
          exact TOps.fd x rfl rfl
        · refine ⟨fun x S c he hw hd hc hcu hm _ => ?_, trivial⟩
          refine TOps.move (he _ _ rfl) rfl ?_
          exact TOps.fd x rfl rfl
        · refine ⟨fun x S c he hw hd hc hcu hm _ => ?_, trivial⟩
          refine TOps.move (he _ _ rfl) rfl ?_
          exact TOps.fd x rfl rfl
        · refine ⟨fun x S c he hw hd hc hcu hm _ => ?_, trivial⟩
          obtain ⟨h1, h2, -⟩ := hd
          refine TOps.indexAddr (b := bb) (off := 0) (m := N) (cap := cap) (off' := h * 3) h1 h2 Tryz.underlying60 ti66 (by omega) (by omega) (by rw [Int.toNat_natCast]; omega) rfl ?_
          exact TOps.fd x rfl rfl
        · refine ⟨fun x S c he hw hd hc hcu hm _ => ?_, trivial⟩
          obtain ⟨h3, -⟩ := hd
          refine TOps.loadN (vs := (gL l h).cells) h3 ti66 (rwV_rd (List.Mem.head _) (by omega)) rfl rfl ?_
          exact TOps.fd x rfl rfl
        · refine ⟨fun x S c he hw hd hc hcu hm _ => ?_, trivial⟩
          refine TOps.move (he _ _ rfl) rfl ?_
          exact TOps.fd x rfl rfl
        · refine ⟨fun x S c he hw hd hc hcu hm _ => ?_, trivial⟩
          refine TOps.move (he _ _ rfl) rfl ?_
          exact TOps.fd x rfl rfl
        · refine ⟨fun x S c he hw hd hc hcu hm _ => ?_, trivial⟩
          obtain ⟨h5, h6, -⟩ := hd
          refine TOps.indexAddr (b := bb) (off := 0) (m := N) (cap := cap) (off' := p * 3) h5 h6 Tryz.underlying60 ti66 (by omega) (by omega) (by rw [Int.toNat_natCast]; omega) rfl ?_
          exact TOps.fd x rfl rfl
        · refine ⟨fun x S c he hw hd hc hcu hm _ => ?_, trivial⟩
          obtain ⟨h7, -⟩ := hd
          refine TOps.loadN (vs := (gL l p).cells) h7 ti66 (rwV_rd (List.Mem.head _) (by omega)) rfl rfl ?_
          exact TOps.fd x rfl rfl
        · refine ⟨fun x S c he hw hd hc hcu hm _ => ?_, trivial⟩
          obtain ⟨h0, h4, h8, -⟩ := hd
          refine TOps.callV (caps := []) (vs := [_, _]) h0 Tryz.call71 ⟨h4, h8, trivial⟩ (least1_g (gL_ev hev _) (gL_ev hev _)) rfl ?_
          rintro _ _ ⟨rfl, rfl⟩
          exact TOps.fd x rfl rfl
        · refine ⟨fun x S c he hw hd hc hcu hm _ => ?_, trivial⟩
          obtain ⟨h9, -⟩ := hd
          refine TOps.lss h9 rfl rfl ?_
          exact TOps.fd x rfl rfl
        ) ?_
      refine Nrm.next ?_
      refine Tri.cond rfl (fun hc3 => ?_) (fun hc3 => ?_)
      · try simp only [decide_eq_true_eq, decide_eq_false_iff_not, Bool.and_eq_true, Bool.or_eq_true, Bool.not_eq_true', Bool.and_eq_false_iff, Bool.or_eq_false_iff, Bool.not_eq_false', Int.not_lt, Int.not_le, ne_eq, Decidable.not_not, Option.isSome_iff_ne_none, Option.isNone_iff_eq_none] at hc3
        refine Tri.region ?_
        refine TOps.move rfl rfl ?_
        refine TOps.add (r := ((h + 1 : Nat) : Int)) rfl rfl (by rw [wrapI (by omega) (by omega)]; omega) rfl ?_
        refine TOps.assign rfl rfl ?_
        refine TOps.fin ?_
        refine Nrm.unB ?_
        first
         | refine Nrm.loop (h + 1, j) ⟨by simp only; omega, by simp only; omega, u3, .inr (by simp only [Nat.add_sub_cancel]; omega), u5⟩ (by simp only; omega) ⟨rfl, rfl, rfl, rfl, rfl, trivial⟩ (by repeat (first | exact Le.refl _ | assumption | apply Le.drop))
         | refine Nrm.loop (i, h) ⟨u1, by simp only; omega, by simp only; omega, u4, .inr (by simp only; omega)⟩ (by simp only; omega) ⟨rfl, rfl, rfl, rfl, rfl, trivial⟩ (by repeat (first | exact Le.refl _ | assumption | apply Le.drop))
      try simp only [decide_eq_true_eq, decide_eq_false_iff_not, Bool.and_eq_true, Bool.or_eq_true, Bool.not_eq_true', Bool.and_eq_false_iff, Bool.or_eq_false_iff, Bool.not_eq_false', Int.not_lt, Int.not_le, ne_eq, Decidable.not_not, Option.isSome_iff_ne_none, Option.isNone_iff_eq_none] at hc3
      refine Tri.region ?_
      refine TOps.move rfl rfl ?_
      refine TOps.assign rfl rfl ?_
      refine TOps.fin ?_
      refine Nrm.unB ?_
      first
       | refine Nrm.loop (h + 1, j) ⟨by simp only; omega, by simp only; omega, u3, .inr (by simp only [Nat.add_sub_cancel]; omega), u5⟩ (by simp only; omega) ⟨rfl, rfl, rfl, rfl, rfl, trivial⟩ (by repeat (first | exact Le.refl _ | assumption | apply Le.drop))
       | refine Nrm.loop (i, h) ⟨u1, by simp only; omega, by simp only; omega, u4, .inr (by simp only; omega)⟩ (by simp only; omega) ⟨rfl, rfl, rfl, rfl, rfl, trivial⟩ (by repeat (first | exact Le.refl _ | assumption | apply Le.drop))
    try simp only [decide_eq_true_eq, decide_eq_false_iff_not, Bool.and_eq_true, Bool.or_eq_true, Bool.not_eq_true', Bool.and_eq_false_iff, Bool.or_eq_false_iff, Bool.not_eq_false', Int.not_lt, Int.not_le, ne_eq, Decidable.not_not, Option.isSome_iff_ne_none, Option.isNone_iff_eq_none] at hc2
    obtain rfl : i = j := by omega
    first | refine Tri.exitW ?_ | (refine Tri.exitTo ?_; repeat (with_reducible first | refine ExitTo.blk ?_ | refine ExitTo.blkNe rfl ?_ | refine ExitTo.body ?_ | refine ExitTo.brk rfl ?_ | refine ExitTo.bodyNe rfl rfl ?_ | refine ExitTo.seq ?_ | refine ExitTo.loop ?_))
    refine Nrm.next ?_
    refine Tri.seq ?_
    refine Tri.seq (Tri.region ?_)
    refine TOps.move rfl rfl ?_
    refine TOps.assign rfl rfl ?_
    refine TOps.next ?_
    refine Tri.block ?_
    refine Tri.loop (X := Nat × List Rw) (fun x => [(0, slV (some bb) 0 N cap), (10, natV i), (13, natV x.1)]) (fun x => row (some bb) 66 3 cap (rwV (x.2)) :: H) (fun x => p ≤ x.1 ∧ x.1 ≤ i - 1 ∧ MvU p x.1 l x.2) (fun x => i - x.1) (p, l) ⟨Nat.le_refl _, by simp only; omega, MvU.start⟩ ⟨rfl, rfl, rfl, trivial⟩ (by repeat (first | exact Le.refl _ | assumption | apply Le.drop)) (fun x hp => ?_)
    obtain ⟨k, z⟩ := x
    obtain ⟨v1, v2, v3⟩ := hp
    dsimp only at v1 v2 v3 ⊢
    have hzl : z.length = N := v3.len.trans hl
    refine Tri.seq ?_
    refine Tri.seq (Tri.region ?_)
    refine TOps.move rfl rfl ?_
    refine TOps.move rfl rfl ?_
    refine TOps.sub (r := ((i - 1 : Nat) : Int)) rfl rfl (by rw [wrapI (by omega) (by omega)]; omega) rfl ?_
    refine TOps.lss rfl rfl rfl ?_
    refine TOps.next ?_
    refine Tri.cond rfl (fun hc4 => ?_) (fun hc4 => ?_)
    · try simp only [decide_eq_true_eq, decide_eq_false_iff_not, Bool.and_eq_true, Bool.or_eq_true, Bool.not_eq_true', Bool.and_eq_false_iff, Bool.or_eq_false_iff, Bool.not_eq_false', Int.not_lt, Int.not_le, ne_eq, Decidable.not_not, Option.isSome_iff_ne_none, Option.isNone_iff_eq_none] at hc4
      refine Tri.fin ?_
      refine Nrm.next ?_
      refine Tri.seq ?_
      refine Tri.block ?_
      refine Tri.drawX (X := Unit) rfl [(0, slV (some bb) 0 N cap), (10, natV i), (13, natV k)] [] (fun x => [_, _, _, _, _, _, _, _, _, _, _, _, _, _, _, undef, _, undef]) (fun x c => match c with | 0 => row (some bb) 66 3 cap (rwV (z)) :: H | 1 => row (some bb) 66 3 cap (rwV (z.set k (gL z (k + 1)))) :: H | _ + 2 => row (some bb) 66 3 cap (rwV (swapL z k (k + 1))) :: H) [15, 17] () [] rfl rfl ⟨rfl, rfl, rfl, trivial⟩ trivial (by repeat (first | exact Le.refl _ | assumption | apply Le.drop)) (by
        refine ⟨?_, ?_, ?_, ?_, ?_, ?_, ?_, ?_, ?_, ?_, ?_, ?_, ?_, ?_, ?_, ?_, ?_, ?_, trivial⟩
        · refine ⟨fun x S c he hw hd hc hcu hm _ => ?_, trivial⟩
          refine TOps.move (he _ _ rfl) rfl ?_
          exact TOps.fd x rfl rfl
        · refine ⟨fun x S c he hw hd hc hcu hm _ => ?_, trivial⟩
          refine TOps.move (he _ _ rfl) rfl ?_
          exact TOps.fd x rfl rfl
        · refine ⟨fun x S c he hw hd hc hcu hm _ => ?_, trivial⟩
          refine TOps.move (he _ _ rfl) rfl ?_
          exact TOps.fd x rfl rfl
        · refine ⟨fun x S c he hw hd hc hcu hm _ => ?_, trivial⟩
          refine TOps.move (he _ _ rfl) rfl ?_
          exact TOps.fd x rfl rfl
        · refine ⟨fun x S c he hw hd hc hcu hm _ => ?_, trivial⟩
          obtain ⟨h3, -⟩ := hd
          refine TOps.add (r := (((k + 1) : Nat) : Int)) h3 rfl (by rw [wrapI (by omega) (by omega)]; omega) rfl ?_
          exact TOps.fd x rfl rfl
        · refine ⟨fun x S c he hw hd hc hcu hm _ => ?_, trivial⟩
          refine TOps.move (he _ _ rfl) rfl ?_
          exact TOps.fd x rfl rfl
        · refine ⟨fun x S c he hw hd hc hcu hm _ => ?_, trivial⟩
          refine TOps.move (he _ _ rfl) rfl ?_
          exact TOps.fd x rfl rfl
        · refine ⟨fun x S c he hw hd hc hcu hm _ => ?_, trivial⟩
          obtain ⟨h6, -⟩ := hd
          refine TOps.add (r := (((k + 1) : Nat) : Int)) h6 rfl (by rw [wrapI (by omega) (by omega)]; omega) rfl ?_
          exact TOps.fd x rfl rfl
        · refine ⟨fun x S c he hw hd hc hcu hm _ => ?_, trivial⟩
          obtain ⟨h5, h7, -⟩ := hd
          refine TOps.indexAddr (b := bb) (off := 0) (m := N) (cap := cap) (off' := (k + 1) * 3) h5 h7 Tryz.underlying60 ti66 (by omega) (by omega) (by rw [Int.toNat_natCast]; omega) rfl ?_
          exact TOps.fd x rfl rfl
        · refine ⟨fun x S c he hw hd hc hcu hm _ => ?_, trivial⟩
          obtain ⟨h8, -⟩ := hd
          obtain rfl : c = 0 := by have : c ≤ 0 := hcu; omega
          refine TOps.loadN (vs := (gL z (k + 1)).cells) h8 ti66 (rwV_rd (List.Mem.head _) (by omega)) rfl rfl ?_
          exact TOps.fd x rfl rfl
        · refine ⟨fun x S c he hw hd hc hcu hm _ => ?_, trivial⟩
          refine TOps.move (he _ _ rfl) rfl ?_
          exact TOps.fd x rfl rfl
        · refine ⟨fun x S c he hw hd hc hcu hm _ => ?_, trivial⟩
          refine TOps.move (he _ _ rfl) rfl ?_
          exact TOps.fd x rfl rfl
        · refine ⟨fun x S c he hw hd hc hcu hm _ => ?_, trivial⟩
          obtain ⟨h10, h11, -⟩ := hd
          refine TOps.indexAddr (b := bb) (off := 0) (m := N) (cap := cap) (off' := k * 3) h10 h11 Tryz.underlying60 ti66 (by omega) (by omega) (by rw [Int.toNat_natCast]; omega) rfl ?_
          exact TOps.fd x rfl rfl
        · refine ⟨fun x S c he hw hd hc hcu hm _ => ?_, trivial⟩
          obtain ⟨h12, -⟩ := hd
          obtain rfl : c = 0 := by have : c ≤ 0 := hcu; omega
          refine TOps.loadN (vs := (gL z k).cells) h12 ti66 (rwV_rd (List.Mem.head _) (by omega)) rfl rfl ?_
          exact TOps.fd x rfl rfl
        · refine ⟨fun x S c he hw hd hc hcu hm _ => ?_, trivial⟩
          obtain ⟨h0, h1, _, _, h5, h6, h7, h8, h9, h13, -⟩ := hd
          refine TOps.indexAddr (b := bb) (off := 0) (m := N) (cap := cap) (off' := k * 3) h0 h1 Tryz.underlying60 ti66 (by omega) (by omega) (by rw [Int.toNat_natCast]; omega) rfl ?_
          exact TOps.fd x rfl rfl
        · refine ⟨fun x S c he hw hd hc hcu hm _ => ?_, trivial⟩
          obtain ⟨h14, h9, h0, h1, h5, h6, h7, h8, _, h13, -⟩ := hd
          obtain rfl : c = 0 := hm rfl
          refine TOps.storeN h14 h9 ti66 rfl rfl Upd.here (by rw [rwV_length]; (try simp only [List.length_set]); omega) ?_
          rw [rwV_set _ _ _ (by (try simp only [List.length_set]); omega)]
          exact TOps.fin (Nrm.draw x (fun _ _ _ => rfl) rfl (Le.refl _))
        · refine ⟨fun x S c he hw hd hc hcu hm _ => ?_, trivial⟩
          obtain ⟨h2, h4, h0, h1, _, h3, _, h5, h6, h7, h8, h9, h10, h11, h12, h13, h14, h15, -⟩ := hd
          refine TOps.indexAddr (b := bb) (off := 0) (m := N) (cap := cap) (off' := (k + 1) * 3) h2 h4 Tryz.underlying60 ti66 (by omega) (by omega) (by rw [Int.toNat_natCast]; omega) rfl ?_
          exact TOps.fd x rfl rfl
        · refine ⟨fun x S c he hw hd hc hcu hm _ => ?_, trivial⟩
          obtain ⟨h16, h13, h15, h0, h1, h2, h3, h4, h5, h6, h7, h8, h9, h10, h11, h12, _, h14, _, -⟩ := hd
          obtain rfl : c = 1 := hm rfl
          refine TOps.storeN h16 h13 ti66 rfl rfl Upd.here (by rw [rwV_length]; (try simp only [List.length_set]); omega) ?_
          rw [rwV_set _ _ _ (by (try simp only [List.length_set]); omega)]
          exact TOps.fin (Nrm.draw x (fun _ _ _ => rfl) rfl (Le.refl _))
        ) (fun x => ?_)
      refine Nrm.unB ?_
      refine Nrm.next ?_
      refine Tri.region ?_
      refine TOps.move rfl rfl ?_
      refine TOps.add (r := ((k + 1 : Nat) : Int)) rfl rfl (by rw [wrapI (by omega) (by omega)]; omega) rfl ?_
      refine TOps.assign rfl rfl ?_
      refine TOps.fin ?_
      refine Nrm.loop (k + 1, swapL z k (k + 1)) ⟨by simp only; omega, by simp only; omega, v3.step (by omega) v1⟩ (by simp only; omega) ⟨rfl, rfl, rfl, trivial⟩ (by repeat (first | exact Le.refl _ | assumption | apply Le.drop))
    try simp only [decide_eq_true_eq, decide_eq_false_iff_not, Bool.and_eq_true, Bool.or_eq_true, Bool.not_eq_true', Bool.and_eq_false_iff, Bool.or_eq_false_iff, Bool.not_eq_false', Int.not_lt, Int.not_le, ne_eq, Decidable.not_not, Option.isSome_iff_ne_none, Option.isNone_iff_eq_none] at hc4
    obtain rfl : k = i - 1 := by omega
    first | refine Tri.exitW ?_ | (refine Tri.exitTo ?_; repeat (with_reducible first | refine ExitTo.blk ?_ | refine ExitTo.blkNe rfl ?_ | refine ExitTo.body ?_ | refine ExitTo.brk rfl ?_ | refine ExitTo.bodyNe rfl rfl ?_ | refine ExitTo.seq ?_ | refine ExitTo.loop ?_))
    refine Nrm.next ?_
    refine Tri.ret0 (H' := row (some bb) 66 3 cap (rwV (z)) :: H) Tryz.results104 (fun _ _ h => h) (Le.refl _) ⟨rfl, z, v3.pon v1 (by omega), v3.sorted u1 u3 hR u4 u5, rfl⟩
  try simp only [decide_eq_true_eq, decide_eq_false_iff_not, Bool.and_eq_true, Bool.or_eq_true, Bool.not_eq_true', Bool.and_eq_false_iff, Bool.or_eq_false_iff, Bool.not_eq_false', Int.not_lt, Int.not_le, ne_eq, Decidable.not_not, Option.isSome_iff_ne_none, Option.isNone_iff_eq_none] at hc1
  refine Tri.fin ?_
  refine Nrm.next ?_
  refine Tri.seq ?_
  refine Tri.seq (Tri.region ?_)
  refine TOps.move rfl rfl ?_
  refine TOps.move rfl rfl ?_
  refine TOps.sub (r := ((q - m : Nat) : Int)) rfl rfl (by rw [wrapI (by omega) (by omega)]; omega) rfl ?_
  refine TOps.eqlI rfl rfl rfl ?_
  refine TOps.next ?_
  refine Tri.cond rfl (fun hc5 => ?_) (fun hc5 => ?_)
  · try simp only [decide_eq_true_eq, decide_eq_false_iff_not, Bool.and_eq_true, Bool.or_eq_true, Bool.not_eq_true', Bool.and_eq_false_iff, Bool.or_eq_false_iff, Bool.not_eq_false', Int.not_lt, Int.not_le, ne_eq, Decidable.not_not, Option.isSome_iff_ne_none, Option.isNone_iff_eq_none] at hc5
    obtain rfl : q = m + 1 := by omega
    refine Tri.seq (Tri.region ?_)
    refine TOps.move rfl rfl ?_
    refine TOps.assign rfl rfl ?_
    refine TOps.next ?_
    refine Tri.seq (Tri.region ?_)
    refine TOps.move rfl rfl ?_
    refine TOps.assign rfl rfl ?_
    refine TOps.next ?_
    refine Tri.seq ?_
    refine Tri.block ?_
    refine Tri.loop (X := Nat × Nat) (fun x => [(0, slV (some bb) 0 N cap), (2, natV m), (4, .func (.func 71) #[] #[]), (14, natV x.1), (15, natV x.2)]) (fun x => row (some bb) 66 3 cap (rwV (l)) :: H) (fun x => p ≤ x.1 ∧ x.1 ≤ x.2 ∧ x.2 ≤ m ∧ (x.1 = p ∨ (szR (gL l (x.1 - 1)) : Int) ≤ (szR (gL l (m)) : Int)) ∧ (x.2 = m ∨ (szR (gL l (m)) : Int) < (szR (gL l (x.2)) : Int))) (fun x => x.2 - x.1) (p, m) ⟨Nat.le_refl _, by simp only; omega, Nat.le_refl _, .inl rfl, .inl rfl⟩ ⟨rfl, rfl, rfl, rfl, rfl, trivial⟩ (by repeat (first | exact Le.refl _ | assumption | apply Le.drop)) (fun x hp => ?_)
    obtain ⟨i, j⟩ := x
    obtain ⟨u1, u2, u3, u4, u5⟩ := hp
    dsimp only at u1 u2 u3 u4 u5 ⊢
    refine Tri.seq ?_
    refine Tri.seq (Tri.region ?_)
    refine TOps.move rfl rfl ?_
    refine TOps.move rfl rfl ?_
    refine TOps.lss rfl rfl rfl ?_
    refine TOps.next ?_
    refine Tri.cond rfl (fun hc6 => ?_) (fun hc6 => ?_)
    · try simp only [decide_eq_true_eq, decide_eq_false_iff_not, Bool.and_eq_true, Bool.or_eq_true, Bool.not_eq_true', Bool.and_eq_false_iff, Bool.or_eq_false_iff, Bool.not_eq_false', Int.not_lt, Int.not_le, ne_eq, Decidable.not_not, Option.isSome_iff_ne_none, Option.isNone_iff_eq_none] at hc6
      refine Tri.fin ?_
      refine Nrm.next ?_
      refine Tri.block ?_
      refine Tri.seq (Tri.region ?_)
      refine TOps.move rfl rfl ?_
      refine TOps.move rfl rfl ?_
      refine TOps.add (r := ((i + j : Nat) : Int)) rfl rfl (by rw [wrapI (by omega) (by omega)]; omega) rfl ?_
      refine TOps.convI (r := (((i + j) : Nat) : Int)) rfl Tryz.underlying3 Tryz.underlying88 (wrapU _ (by omega) (by omega)) rfl ?_
      refine TOps.shrU (r := (((i + j) / 2 : Nat) : Int)) rfl rfl (by decide) (by rw [show ((1 : Int)).toNat = 1 from rfl, ishr_nat (by omega), Nat.shiftRight_eq_div_pow]) rfl ?_
      refine TOps.convI (r := (((i + j) / 2 : Nat) : Int)) rfl Tryz.underlying88 Tryz.underlying3 (wrapI (by omega) (by omega)) rfl ?_
      refine TOps.assign rfl rfl ?_
      obtain ⟨h, hh⟩ : ∃ h, h = (i + j) / 2 := ⟨_, rfl⟩
      rw [← hh]
      refine TOps.next ?_
      refine Tri.seq ?_
      refine Tri.drawC rfl [(0, slV (some bb) 0 N cap), (2, natV m), (4, .func (.func 71) #[] #[]), (14, natV i), (15, natV j), (16, natV h)] [] [_, _, _, _, _, _, _, _, _, _, _, _] (row (some bb) 66 3 cap (rwV (l)) :: H) [11] rfl ⟨rfl, rfl, rfl, rfl, rfl, rfl, trivial⟩ trivial (by repeat (first | exact Le.refl _ | assumption | apply Le.drop)) (by
        refine ⟨?_, ?_, ?_, ?_, ?_, ?_, ?_, ?_, ?_, ?_, ?_, ?_, trivial⟩
        · refine ⟨fun x S c he hw hd hc hcu hm _ => ?_, trivial⟩
          refine TOps.move (he _ _ rfl) rfl ?_
          exact TOps.fd x rfl rfl
        · refine ⟨fun x S c he hw hd hc hcu hm _ => ?_, trivial⟩
          refine TOps.move (he _ _ rfl) rfl ?_
          exact TOps.fd x rfl rfl
        · refine ⟨fun x S c he hw hd hc hcu hm _ => ?_, trivial⟩
          refine TOps.move (he _ _ rfl) rfl ?_
          exact TOps.fd x rfl rfl
        · refine ⟨fun x S c he hw hd hc hcu hm _ => ?_, trivial⟩
          obtain ⟨h1, h2, -⟩ := hd
          refine TOps.indexAddr (b := bb) (off := 0) (m := N) (cap := cap) (off' := m * 3) h1 h2 Tryz.underlying60 ti66 (by omega) (by omega) (by rw [Int.toNat_natCast]; omega) rfl ?_
          exact TOps.fd x rfl rfl
        · refine ⟨fun x S c he hw hd hc hcu hm _ => ?_, trivial⟩
          obtain ⟨h3, -⟩ := hd
          refine TOps.loadN (vs := (gL l m).cells) h3 ti66 (rwV_rd (List.Mem.head _) (by omega)) rfl rfl ?_
          exact TOps.fd x rfl rfl
        · refine ⟨fun x S c he hw hd hc hcu hm _ => ?_, trivial⟩
          refine TOps.move (he _ _ rfl) rfl ?_
          exact TOps.fd x rfl rfl
        · refine ⟨fun x S c he hw hd hc hcu hm _ => ?_, trivial⟩
          refine TOps.move (he _ _ rfl) rfl ?_
          exact TOps.fd x rfl rfl
        · refine ⟨fun x S c he hw hd hc hcu hm _ => ?_, trivial⟩
          obtain ⟨h5, h6, -⟩ := hd
          refine TOps.indexAddr (b := bb) (off := 0) (m := N) (cap := cap) (off' := h * 3) h5 h6 Tryz.underlying60 ti66 (by omega) (by omega) (by rw [Int.toNat_natCast]; omega) rfl ?_
          exact TOps.fd x rfl rfl
        · refine ⟨fun x S c he hw hd hc hcu hm _ => ?_, trivial⟩
          obtain ⟨h7, -⟩ := hd
          refine TOps.loadN (vs := (gL l h).cells) h7 ti66 (rwV_rd (List.Mem.head _) (by omega)) rfl rfl ?_
          exact TOps.fd x rfl rfl
        · refine ⟨fun x S c he hw hd hc hcu hm _ => ?_, trivial⟩
          obtain ⟨h0, h4, h8, -⟩ := hd
          refine TOps.callV (caps := []) (vs := [_, _]) h0 Tryz.call71 ⟨h4, h8, trivial⟩ (least1_g (gL_ev hev _) (gL_ev hev _)) rfl ?_
          rintro _ _ ⟨rfl, rfl⟩
          exact TOps.fd x rfl rfl
        · refine ⟨fun x S c he hw hd hc hcu hm _ => ?_, trivial⟩
          obtain ⟨h9, -⟩ := hd
          refine TOps.lss h9 rfl rfl ?_
          exact TOps.fd x rfl rfl
        · refine ⟨fun x S c he hw hd hc hcu hm _ => ?_, trivial⟩
          obtain ⟨h10, -⟩ := hd
          refine TOps.not h10 rfl ?_
          exact TOps.fd x rfl rfl
        ) ?_
      refine Nrm.next ?_
      refine Tri.cond rfl (fun hc7 => ?_) (fun hc7 => ?_)
      · try simp only [decide_eq_true_eq, decide_eq_false_iff_not, Bool.and_eq_true, Bool.or_eq_true, Bool.not_eq_true', Bool.and_eq_false_iff, Bool.or_eq_false_iff, Bool.not_eq_false', Int.not_lt, Int.not_le, ne_eq, Decidable.not_not, Option.isSome_iff_ne_none, Option.isNone_iff_eq_none] at hc7
        refine Tri.region ?_
        refine TOps.move rfl rfl ?_
        refine TOps.add (r := ((h + 1 : Nat) : Int)) rfl rfl (by rw [wrapI (by omega) (by omega)]; omega) rfl ?_
        refine TOps.assign rfl rfl ?_
        refine TOps.fin ?_
        refine Nrm.unB ?_
        first
         | refine Nrm.loop (h + 1, j) ⟨by simp only; omega, by simp only; omega, u3, .inr (by simp only [Nat.add_sub_cancel]; omega), u5⟩ (by simp only; omega) ⟨rfl, rfl, rfl, rfl, rfl, trivial⟩ (by repeat (first | exact Le.refl _ | assumption | apply Le.drop))
         | refine Nrm.loop (i, h) ⟨u1, by simp only; omega, by simp only; omega, u4, .inr (by simp only; omega)⟩ (by simp only; omega) ⟨rfl, rfl, rfl, rfl, rfl, trivial⟩ (by repeat (first | exact Le.refl _ | assumption | apply Le.drop))
      try simp only [decide_eq_true_eq, decide_eq_false_iff_not, Bool.and_eq_true, Bool.or_eq_true, Bool.not_eq_true', Bool.and_eq_false_iff, Bool.or_eq_false_iff, Bool.not_eq_false', Int.not_lt, Int.not_le, ne_eq, Decidable.not_not, Option.isSome_iff_ne_none, Option.isNone_iff_eq_none] at hc7
      refine Tri.region ?_
      refine TOps.move rfl rfl ?_
      refine TOps.assign rfl rfl ?_
      refine TOps.fin ?_
      refine Nrm.unB ?_
      first
       | refine Nrm.loop (h + 1, j) ⟨by simp only; omega, by simp only; omega, u3, .inr (by simp only [Nat.add_sub_cancel]; omega), u5⟩ (by simp only; omega) ⟨rfl, rfl, rfl, rfl, rfl, trivial⟩ (by repeat (first | exact Le.refl _ | assumption | apply Le.drop))
       | refine Nrm.loop (i, h) ⟨u1, by simp only; omega, by simp only; omega, u4, .inr (by simp only; omega)⟩ (by simp only; omega) ⟨rfl, rfl, rfl, rfl, rfl, trivial⟩ (by repeat (first | exact Le.refl _ | assumption | apply Le.drop))
    try simp only [decide_eq_true_eq, decide_eq_false_iff_not, Bool.and_eq_true, Bool.or_eq_true, Bool.not_eq_true', Bool.and_eq_false_iff, Bool.or_eq_false_iff, Bool.not_eq_false', Int.not_lt, Int.not_le, ne_eq, Decidable.not_not, Option.isSome_iff_ne_none, Option.isNone_iff_eq_none] at hc6
    obtain rfl : i = j := by omega
    first | refine Tri.exitW ?_ | (refine Tri.exitTo ?_; repeat (with_reducible first | refine ExitTo.blk ?_ | refine ExitTo.blkNe rfl ?_ | refine ExitTo.body ?_ | refine ExitTo.brk rfl ?_ | refine ExitTo.bodyNe rfl rfl ?_ | refine ExitTo.seq ?_ | refine ExitTo.loop ?_))
    refine Nrm.next ?_
    refine Tri.seq ?_
    refine Tri.seq (Tri.region ?_)
    refine TOps.move rfl rfl ?_
    refine TOps.assign rfl rfl ?_
    refine TOps.next ?_
    refine Tri.block ?_
    refine Tri.loop (X := Nat × List Rw) (fun x => [(0, slV (some bb) 0 N cap), (14, natV i), (17, natV x.1)]) (fun x => row (some bb) 66 3 cap (rwV (x.2)) :: H) (fun x => i ≤ x.1 ∧ x.1 ≤ m ∧ MvD m x.1 l x.2) (fun x => x.1) (m, l) ⟨by simp only; omega, Nat.le_refl _, MvD.start⟩ ⟨rfl, rfl, rfl, trivial⟩ (by repeat (first | exact Le.refl _ | assumption | apply Le.drop)) (fun x hp => ?_)
    obtain ⟨k, z⟩ := x
    obtain ⟨v1, v2, v3⟩ := hp
    dsimp only at v1 v2 v3 ⊢
    have hzl : z.length = N := v3.len.trans hl
    refine Tri.seq ?_
    refine Tri.seq (Tri.region ?_)
    refine TOps.move rfl rfl ?_
    refine TOps.move rfl rfl ?_
    refine TOps.gtr rfl rfl rfl ?_
    refine TOps.next ?_
    refine Tri.cond rfl (fun hc8 => ?_) (fun hc8 => ?_)
    · try simp only [decide_eq_true_eq, decide_eq_false_iff_not, Bool.and_eq_true, Bool.or_eq_true, Bool.not_eq_true', Bool.and_eq_false_iff, Bool.or_eq_false_iff, Bool.not_eq_false', Int.not_lt, Int.not_le, ne_eq, Decidable.not_not, Option.isSome_iff_ne_none, Option.isNone_iff_eq_none] at hc8
      refine Tri.fin ?_
      refine Nrm.next ?_
      refine Tri.seq ?_
      refine Tri.block ?_
      refine Tri.drawX (X := Unit) rfl [(0, slV (some bb) 0 N cap), (14, natV i), (17, natV k)] [] (fun x => [_, _, _, _, _, _, _, _, _, _, _, _, _, _, _, undef, _, undef]) (fun x c => match c with | 0 => row (some bb) 66 3 cap (rwV (z)) :: H | 1 => row (some bb) 66 3 cap (rwV (z.set k (gL z (k - 1)))) :: H | _ + 2 => row (some bb) 66 3 cap (rwV (swapL z k (k - 1))) :: H) [15, 17] () [] rfl rfl ⟨rfl, rfl, rfl, trivial⟩ trivial (by repeat (first | exact Le.refl _ | assumption | apply Le.drop)) (by
        refine ⟨?_, ?_, ?_, ?_, ?_, ?_, ?_, ?_, ?_, ?_, ?_, ?_, ?_, ?_, ?_, ?_, ?_, ?_, trivial⟩
        · refine ⟨fun x S c he hw hd hc hcu hm _ => ?_, trivial⟩
          refine TOps.move (he _ _ rfl) rfl ?_
          exact TOps.fd x rfl rfl
        · refine ⟨fun x S c he hw hd hc hcu hm _ => ?_, trivial⟩
          refine TOps.move (he _ _ rfl) rfl ?_
          exact TOps.fd x rfl rfl
        · refine ⟨fun x S c he hw hd hc hcu hm _ => ?_, trivial⟩
          refine TOps.move (he _ _ rfl) rfl ?_
          exact TOps.fd x rfl rfl
        · refine ⟨fun x S c he hw hd hc hcu hm _ => ?_, trivial⟩
          refine TOps.move (he _ _ rfl) rfl ?_
          exact TOps.fd x rfl rfl
        · refine ⟨fun x S c he hw hd hc hcu hm _ => ?_, trivial⟩
          obtain ⟨h3, -⟩ := hd
          refine TOps.sub (r := (((k - 1) : Nat) : Int)) h3 rfl (by rw [wrapI (by omega) (by omega)]; omega) rfl ?_
          exact TOps.fd x rfl rfl
        · refine ⟨fun x S c he hw hd hc hcu hm _ => ?_, trivial⟩
          refine TOps.move (he _ _ rfl) rfl ?_
          exact TOps.fd x rfl rfl
        · refine ⟨fun x S c he hw hd hc hcu hm _ => ?_, trivial⟩
          refine TOps.move (he _ _ rfl) rfl ?_
          exact TOps.fd x rfl rfl
        · refine ⟨fun x S c he hw hd hc hcu hm _ => ?_, trivial⟩
          obtain ⟨h6, -⟩ := hd
          refine TOps.sub (r := (((k - 1) : Nat) : Int)) h6 rfl (by rw [wrapI (by omega) (by omega)]; omega) rfl ?_
          exact TOps.fd x rfl rfl
        · refine ⟨fun x S c he hw hd hc hcu hm _ => ?_, trivial⟩
          obtain ⟨h5, h7, -⟩ := hd
          refine TOps.indexAddr (b := bb) (off := 0) (m := N) (cap := cap) (off' := (k - 1) * 3) h5 h7 Tryz.underlying60 ti66 (by omega) (by omega) (by rw [Int.toNat_natCast]; omega) rfl ?_
          exact TOps.fd x rfl rfl
        · refine ⟨fun x S c he hw hd hc hcu hm _ => ?_, trivial⟩
          obtain ⟨h8, -⟩ := hd
          obtain rfl : c = 0 := by have : c ≤ 0 := hcu; omega
          refine TOps.loadN (vs := (gL z (k - 1)).cells) h8 ti66 (rwV_rd (List.Mem.head _) (by omega)) rfl rfl ?_
          exact TOps.fd x rfl rfl
        · refine ⟨fun x S c he hw hd hc hcu hm _ => ?_, trivial⟩
          refine TOps.move (he _ _ rfl) rfl ?_
          exact TOps.fd x rfl rfl
        · refine ⟨fun x S c he hw hd hc hcu hm _ => ?_, trivial⟩
          refine TOps.move (he _ _ rfl) rfl ?_
          exact TOps.fd x rfl rfl
        · refine ⟨fun x S c he hw hd hc hcu hm _ => ?_, trivial⟩
          obtain ⟨h10, h11, -⟩ := hd
          refine TOps.indexAddr (b := bb) (off := 0) (m := N) (cap := cap) (off' := k * 3) h10 h11 Tryz.underlying60 ti66 (by omega) (by omega) (by rw [Int.toNat_natCast]; omega) rfl ?_
          exact TOps.fd x rfl rfl
        · refine ⟨fun x S c he hw hd hc hcu hm _ => ?_, trivial⟩
          obtain ⟨h12, -⟩ := hd
          obtain rfl : c = 0 := by have : c ≤ 0 := hcu; omega
          refine TOps.loadN (vs := (gL z k).cells) h12 ti66 (rwV_rd (List.Mem.head _) (by omega)) rfl rfl ?_
          exact TOps.fd x rfl rfl
        · refine ⟨fun x S c he hw hd hc hcu hm _ => ?_, trivial⟩
          obtain ⟨h0, h1, _, _, h5, h6, h7, h8, h9, h13, -⟩ := hd
          refine TOps.indexAddr (b := bb) (off := 0) (m := N) (cap := cap) (off' := k * 3) h0 h1 Tryz.underlying60 ti66 (by omega) (by omega) (by rw [Int.toNat_natCast]; omega) rfl ?_
          exact TOps.fd x rfl rfl
        · refine ⟨fun x S c he hw hd hc hcu hm _ => ?_, trivial⟩
          obtain ⟨h14, h9, h0, h1, h5, h6, h7, h8, _, h13, -⟩ := hd
          obtain rfl : c = 0 := hm rfl
          refine TOps.storeN h14 h9 ti66 rfl rfl Upd.here (by rw [rwV_length]; (try simp only [List.length_set]); omega) ?_
          rw [rwV_set _ _ _ (by (try simp only [List.length_set]); omega)]
          exact TOps.fin (Nrm.draw x (fun _ _ _ => rfl) rfl (Le.refl _))
        · refine ⟨fun x S c he hw hd hc hcu hm _ => ?_, trivial⟩
          obtain ⟨h2, h4, h0, h1, _, h3, _, h5, h6, h7, h8, h9, h10, h11, h12, h13, h14, h15, -⟩ := hd
          refine TOps.indexAddr (b := bb) (off := 0) (m := N) (cap := cap) (off' := (k - 1) * 3) h2 h4 Tryz.underlying60 ti66 (by omega) (by omega) (by rw [Int.toNat_natCast]; omega) rfl ?_
          exact TOps.fd x rfl rfl
        · refine ⟨fun x S c he hw hd hc hcu hm _ => ?_, trivial⟩
          obtain ⟨h16, h13, h15, h0, h1, h2, h3, h4, h5, h6, h7, h8, h9, h10, h11, h12, _, h14, _, -⟩ := hd
          obtain rfl : c = 1 := hm rfl
          refine TOps.storeN h16 h13 ti66 rfl rfl Upd.here (by rw [rwV_length]; (try simp only [List.length_set]); omega) ?_
          rw [rwV_set _ _ _ (by (try simp only [List.length_set]); omega)]
          exact TOps.fin (Nrm.draw x (fun _ _ _ => rfl) rfl (Le.refl _))
        ) (fun x => ?_)
      refine Nrm.unB ?_
      refine Nrm.next ?_
      refine Tri.region ?_
      refine TOps.move rfl rfl ?_
      refine TOps.sub (r := ((k - 1 : Nat) : Int)) rfl rfl (by rw [wrapI (by omega) (by omega)]; omega) rfl ?_
      refine TOps.assign rfl rfl ?_
      refine TOps.fin ?_
      have hnext : i ≤ k - 1 ∧ k - 1 ≤ m ∧ MvD m (k - 1) l (swapL z k (k - 1)) := by obtain ⟨k', rfl⟩ : ∃ k', k = k' + 1 := ⟨k - 1, by omega⟩; rw [Nat.add_sub_cancel]; exact ⟨by omega, by omega, v3.step v2 (by omega)⟩
      refine Nrm.loop (k - 1, swapL z k (k - 1)) hnext (by simp only; omega) ⟨rfl, rfl, rfl, trivial⟩ (by repeat (first | exact Le.refl _ | assumption | apply Le.drop))
    try simp only [decide_eq_true_eq, decide_eq_false_iff_not, Bool.and_eq_true, Bool.or_eq_true, Bool.not_eq_true', Bool.and_eq_false_iff, Bool.or_eq_false_iff, Bool.not_eq_false', Int.not_lt, Int.not_le, ne_eq, Decidable.not_not, Option.isSome_iff_ne_none, Option.isNone_iff_eq_none] at hc8
    obtain rfl : k = i := by omega
    first | refine Tri.exitW ?_ | (refine Tri.exitTo ?_; repeat (with_reducible first | refine ExitTo.blk ?_ | refine ExitTo.blkNe rfl ?_ | refine ExitTo.body ?_ | refine ExitTo.brk rfl ?_ | refine ExitTo.bodyNe rfl rfl ?_ | refine ExitTo.seq ?_ | refine ExitTo.loop ?_))
    refine Nrm.next ?_
    refine Tri.ret0 (H' := row (some bb) 66 3 cap (rwV (z)) :: H) Tryz.results104 (fun _ _ h => h) (Le.refl _) ⟨rfl, z, v3.pon u1 v2 (by omega), v3.sorted u1 u3 hL u4 u5, rfl⟩
  try simp only [decide_eq_true_eq, decide_eq_false_iff_not, Bool.and_eq_true, Bool.or_eq_true, Bool.not_eq_true', Bool.and_eq_false_iff, Bool.or_eq_false_iff, Bool.not_eq_false', Int.not_lt, Int.not_le, ne_eq, Decidable.not_not, Option.isSome_iff_ne_none, Option.isNone_iff_eq_none] at hc5
  have hmid1 : (p + q) / 2 < q := by omega
  refine Tri.fin ?_
  refine Nrm.next ?_
  refine Tri.seq (Tri.region ?_)
  refine TOps.move rfl rfl ?_
  refine TOps.move rfl rfl ?_
  refine TOps.add (r := ((p + q : Nat) : Int)) rfl rfl (by rw [wrapI (by omega) (by omega)]; omega) rfl ?_
  refine TOps.convI (r := (((p + q) : Nat) : Int)) rfl Tryz.underlying3 Tryz.underlying88 (wrapU _ (by omega) (by omega)) rfl ?_
  refine TOps.shrU (r := (((p + q) / 2 : Nat) : Int)) rfl rfl (by decide) (by rw [show ((1 : Int)).toNat = 1 from rfl, ishr_nat (by omega), Nat.shiftRight_eq_div_pow]) rfl ?_
  refine TOps.convI (r := (((p + q) / 2 : Nat) : Int)) rfl Tryz.underlying88 Tryz.underlying3 (wrapI (by omega) (by omega)) rfl ?_
  refine TOps.assign rfl rfl ?_
  obtain ⟨mid, hmd⟩ : ∃ mid, mid = (p + q) / 2 := ⟨_, rfl⟩
  rw [← hmd]
  obtain ⟨s0, hs0⟩ : ∃ s0, s0 = if mid < m then mid + m - q else p := ⟨_, rfl⟩
  obtain ⟨r0, hr0⟩ : ∃ r0, r0 = if mid < m then mid else m := ⟨_, rfl⟩
  have h0 : (mid < m ∧ s0 = mid + m - q ∧ r0 = mid) ∨ (m ≤ mid ∧ s0 = p ∧ r0 = m) := by rcases Nat.lt_or_ge mid m with hx | hx; (rw [if_pos hx] at hs0 hr0; exact .inl ⟨hx, hs0, hr0⟩); (rw [if_neg (by omega)] at hs0 hr0; exact .inr ⟨hx, hs0, hr0⟩)
  have hmidp : p < mid := by omega
  have hmidq : mid < q := by omega
  refine TOps.next ?_
  refine Tri.seq (Tri.region ?_)
  refine TOps.move rfl rfl ?_
  refine TOps.move rfl rfl ?_
  refine TOps.add (r := ((mid + m : Nat) : Int)) rfl rfl (by rw [wrapI (by omega) (by omega)]; omega) rfl ?_
  refine TOps.assign rfl rfl ?_
  refine TOps.next ?_
  refine Tri.seq (Tri.region ?_)
  refine TOps.assign rfl rfl ?_
  refine TOps.assign rfl rfl ?_
  refine TOps.next ?_
  refine Tri.seqMid (X := Unit) (fun y => [(0, slV (some bb) 0 N cap), (1, natV p), (2, natV m), (3, natV q), (4, .func (.func 71) #[] #[]), (18, natV mid), (19, natV (mid + m)), (20, natV s0), (21, natV r0)]) (fun y => row (some bb) 66 3 cap (rwV (l)) :: H) (fun y => True) ?_ (fun y hmid => ?_)
  · skip
    refine Tri.seq (Tri.region ?_)
    refine TOps.move rfl rfl ?_
    refine TOps.move rfl rfl ?_
    refine TOps.gtr rfl rfl rfl ?_
    refine TOps.next ?_
    refine Tri.cond rfl (fun hc9 => ?_) (fun hc9 => ?_)
    · try simp only [decide_eq_true_eq, decide_eq_false_iff_not, Bool.and_eq_true, Bool.or_eq_true, Bool.not_eq_true', Bool.and_eq_false_iff, Bool.or_eq_false_iff, Bool.not_eq_false', Int.not_lt, Int.not_le, ne_eq, Decidable.not_not, Option.isSome_iff_ne_none, Option.isNone_iff_eq_none] at hc9
      refine Tri.seq (Tri.region ?_)
      refine TOps.move rfl rfl ?_
      refine TOps.move rfl rfl ?_
      refine TOps.sub (r := ((mid + m - q : Nat) : Int)) rfl rfl (by rw [wrapI (by omega) (by omega)]; omega) rfl ?_
      refine TOps.assign rfl rfl ?_
      refine TOps.next ?_
      refine Tri.region ?_
      refine TOps.move rfl rfl ?_
      refine TOps.assign rfl rfl ?_
      refine TOps.fin ?_
      refine Nrm.mid () trivial (by exact ⟨rfl, rfl, rfl, rfl, rfl, rfl, rfl, by first | (rw [show s0 = mid + m - q by omega]; rfl) | (rw [show s0 = p by omega]; rfl), by first | (rw [show r0 = mid by omega]; rfl) | (rw [show r0 = m by omega]; rfl), trivial⟩) (by repeat (first | exact Le.refl _ | assumption | apply Le.drop))
    try simp only [decide_eq_true_eq, decide_eq_false_iff_not, Bool.and_eq_true, Bool.or_eq_true, Bool.not_eq_true', Bool.and_eq_false_iff, Bool.or_eq_false_iff, Bool.not_eq_false', Int.not_lt, Int.not_le, ne_eq, Decidable.not_not, Option.isSome_iff_ne_none, Option.isNone_iff_eq_none] at hc9
    refine Tri.seq (Tri.region ?_)
    refine TOps.move rfl rfl ?_
    refine TOps.assign rfl rfl ?_
    refine TOps.next ?_
    refine Tri.region ?_
    refine TOps.move rfl rfl ?_
    refine TOps.assign rfl rfl ?_
    refine TOps.fin ?_
    refine Nrm.mid () trivial (by exact ⟨rfl, rfl, rfl, rfl, rfl, rfl, rfl, by first | (rw [show s0 = mid + m - q by omega]; rfl) | (rw [show s0 = p by omega]; rfl), by first | (rw [show r0 = mid by omega]; rfl) | (rw [show r0 = m by omega]; rfl), trivial⟩) (by repeat (first | exact Le.refl _ | assumption | apply Le.drop))
  refine Tri.seq (Tri.region ?_)
  refine TOps.move rfl rfl ?_
  refine TOps.sub (r := ((mid + m - 1 : Nat) : Int)) rfl rfl (by rw [wrapI (by omega) (by omega)]; omega) rfl ?_
  refine TOps.assign rfl rfl ?_
  refine TOps.next ?_
  refine Tri.seq ?_
  refine Tri.block ?_
  refine Tri.loop (X := Nat × Nat) (fun x => [(0, slV (some bb) 0 N cap), (1, natV p), (2, natV m), (3, natV q), (4, .func (.func 71) #[] #[]), (18, natV mid), (19, natV (mid + m)), (20, natV x.1), (21, natV x.2), (22, natV (mid + m - 1))]) (fun x => row (some bb) 66 3 cap (rwV (l)) :: H) (fun x => Srch ((fun r => (szR r : Int))) l (mid + m - 1) s0 r0 x.1 x.2) (fun x => x.2 - x.1) (s0, r0) ⟨Nat.le_refl _, by simp only; omega, Nat.le_refl _, .inl rfl, .inl rfl⟩ ⟨rfl, rfl, rfl, rfl, rfl, rfl, rfl, rfl, rfl, rfl, trivial⟩ (by repeat (first | exact Le.refl _ | assumption | apply Le.drop)) (fun x hp => ?_)
  obtain ⟨st, r⟩ := x
  dsimp only at hp ⊢
  have u1 := hp.a1
  have u2 := hp.a2
  have u3 := hp.a3
  refine Tri.seq ?_
  refine Tri.seq (Tri.region ?_)
  refine TOps.move rfl rfl ?_
  refine TOps.move rfl rfl ?_
  refine TOps.lss rfl rfl rfl ?_
  refine TOps.next ?_
  refine Tri.cond rfl (fun hc10 => ?_) (fun hc10 => ?_)
  · try simp only [decide_eq_true_eq, decide_eq_false_iff_not, Bool.and_eq_true, Bool.or_eq_true, Bool.not_eq_true', Bool.and_eq_false_iff, Bool.or_eq_false_iff, Bool.not_eq_false', Int.not_lt, Int.not_le, ne_eq, Decidable.not_not, Option.isSome_iff_ne_none, Option.isNone_iff_eq_none] at hc10
    refine Tri.fin ?_
    refine Nrm.next ?_
    refine Tri.block ?_
    refine Tri.seq (Tri.region ?_)
    refine TOps.move rfl rfl ?_
    refine TOps.move rfl rfl ?_
    refine TOps.add (r := ((st + r : Nat) : Int)) rfl rfl (by rw [wrapI (by omega) (by omega)]; omega) rfl ?_
    refine TOps.convI (r := (((st + r) : Nat) : Int)) rfl Tryz.underlying3 Tryz.underlying88 (wrapU _ (by omega) (by omega)) rfl ?_
    refine TOps.shrU (r := (((st + r) / 2 : Nat) : Int)) rfl rfl (by decide) (by rw [show ((1 : Int)).toNat = 1 from rfl, ishr_nat (by omega), Nat.shiftRight_eq_div_pow]) rfl ?_
    refine TOps.convI (r := (((st + r) / 2 : Nat) : Int)) rfl Tryz.underlying88 Tryz.underlying3 (wrapI (by omega) (by omega)) rfl ?_
    refine TOps.assign rfl rfl ?_
    obtain ⟨e, hh⟩ : ∃ e, e = (st + r) / 2 := ⟨_, rfl⟩
    rw [← hh]
    refine TOps.next ?_
    refine Tri.seq ?_
    refine Tri.drawC rfl [(0, slV (some bb) 0 N cap), (1, natV p), (2, natV m), (3, natV q), (4, .func (.func 71) #[] #[]), (18, natV mid), (19, natV (mid + m)), (20, natV st), (21, natV r), (22, natV (mid + m - 1)), (23, natV e)] [] [_, _, _, _, _, _, _, _, _, _, _, _, _, _] (row (some bb) 66 3 cap (rwV (l)) :: H) [13] rfl ⟨rfl, rfl, rfl, rfl, rfl, rfl, rfl, rfl, rfl, rfl, rfl, trivial⟩ trivial (by repeat (first | exact Le.refl _ | assumption | apply Le.drop)) (by
      refine ⟨?_, ?_, ?_, ?_, ?_, ?_, ?_, ?_, ?_, ?_, ?_, ?_, ?_, ?_, trivial⟩
      · refine ⟨fun x S c he hw hd hc hcu hm _ => ?_, trivial⟩
        refine TOps.move (he _ _ rfl) rfl ?_
        exact TOps.fd x rfl rfl
      · refine ⟨fun x S c he hw hd hc hcu hm _ => ?_, trivial⟩
        refine TOps.move (he _ _ rfl) rfl ?_
        exact TOps.fd x rfl rfl
      · refine ⟨fun x S c he hw hd hc hcu hm _ => ?_, trivial⟩
        refine TOps.move (he _ _ rfl) rfl ?_
        exact TOps.fd x rfl rfl
      · refine ⟨fun x S c he hw hd hc hcu hm _ => ?_, trivial⟩
        refine TOps.move (he _ _ rfl) rfl ?_
        exact TOps.fd x rfl rfl
      · refine ⟨fun x S c he hw hd hc hcu hm _ => ?_, trivial⟩
        obtain ⟨h2, h3, -⟩ := hd
        refine TOps.sub (r := ((((mid + m - 1) - e) : Nat) : Int)) h2 h3 (by rw [wrapI (by omega) (by omega)]; omega) rfl ?_
        exact TOps.fd x rfl rfl
      · refine ⟨fun x S c he hw hd hc hcu hm _ => ?_, trivial⟩
        obtain ⟨h1, h4, -⟩ := hd
        refine TOps.indexAddr (b := bb) (off := 0) (m := N) (cap := cap) (off' := ((mid + m - 1) - e) * 3) h1 h4 Tryz.underlying60 ti66 (by omega) (by omega) (by rw [Int.toNat_natCast]; omega) rfl ?_
        exact TOps.fd x rfl rfl
      · refine ⟨fun x S c he hw hd hc hcu hm _ => ?_, trivial⟩
        obtain ⟨h5, -⟩ := hd
        refine TOps.loadN (vs := (gL l ((mid + m - 1) - e)).cells) h5 ti66 (rwV_rd (List.Mem.head _) (by omega)) rfl rfl ?_
        exact TOps.fd x rfl rfl
      · refine ⟨fun x S c he hw hd hc hcu hm _ => ?_, trivial⟩
        refine TOps.move (he _ _ rfl) rfl ?_
        exact TOps.fd x rfl rfl
      · refine ⟨fun x S c he hw hd hc hcu hm _ => ?_, trivial⟩
        refine TOps.move (he _ _ rfl) rfl ?_
        exact TOps.fd x rfl rfl
      · refine ⟨fun x S c he hw hd hc hcu hm _ => ?_, trivial⟩
        obtain ⟨h7, h8, -⟩ := hd
        refine TOps.indexAddr (b := bb) (off := 0) (m := N) (cap := cap) (off' := e * 3) h7 h8 Tryz.underlying60 ti66 (by omega) (by omega) (by rw [Int.toNat_natCast]; omega) rfl ?_
        exact TOps.fd x rfl rfl
      · refine ⟨fun x S c he hw hd hc hcu hm _ => ?_, trivial⟩
        obtain ⟨h9, -⟩ := hd
        refine TOps.loadN (vs := (gL l e).cells) h9 ti66 (rwV_rd (List.Mem.head _) (by omega)) rfl rfl ?_
        exact TOps.fd x rfl rfl
      · refine ⟨fun x S c he hw hd hc hcu hm _ => ?_, trivial⟩
        obtain ⟨h0, h6, h10, -⟩ := hd
        refine TOps.callV (caps := []) (vs := [_, _]) h0 Tryz.call71 ⟨h6, h10, trivial⟩ (least1_g (gL_ev hev _) (gL_ev hev _)) rfl ?_
        rintro _ _ ⟨rfl, rfl⟩
        exact TOps.fd x rfl rfl
      · refine ⟨fun x S c he hw hd hc hcu hm _ => ?_, trivial⟩
        obtain ⟨h11, -⟩ := hd
        refine TOps.lss h11 rfl rfl ?_
        exact TOps.fd x rfl rfl
      · refine ⟨fun x S c he hw hd hc hcu hm _ => ?_, trivial⟩
        obtain ⟨h12, -⟩ := hd
        refine TOps.not h12 rfl ?_
        exact TOps.fd x rfl rfl
      ) ?_
    refine Nrm.next ?_
    refine Tri.cond rfl (fun hc11 => ?_) (fun hc11 => ?_)
    · try simp only [decide_eq_true_eq, decide_eq_false_iff_not, Bool.and_eq_true, Bool.or_eq_true, Bool.not_eq_true', Bool.and_eq_false_iff, Bool.or_eq_false_iff, Bool.not_eq_false', Int.not_lt, Int.not_le, ne_eq, Decidable.not_not, Option.isSome_iff_ne_none, Option.isNone_iff_eq_none] at hc11
      refine Tri.region ?_
      refine TOps.move rfl rfl ?_
      refine TOps.add (r := ((e + 1 : Nat) : Int)) rfl rfl (by rw [wrapI (by omega) (by omega)]; omega) rfl ?_
      refine TOps.assign rfl rfl ?_
      refine TOps.fin ?_
      refine Nrm.unB ?_
      first
       | refine Nrm.loop (e + 1, r) (hp.up (by omega) (by omega) (by show (szR _ : Int) ≤ szR _; omega)) (by simp only; omega) ⟨rfl, rfl, rfl, rfl, rfl, rfl, rfl, rfl, rfl, rfl, trivial⟩ (by repeat (first | exact Le.refl _ | assumption | apply Le.drop))
       | refine Nrm.loop (st, e) (hp.down (c := e) (by omega) (by omega) (by show (szR (gL l (mid + m - 1 - e)) : Int) < szR (gL l e); omega)) (by simp only; omega) ⟨rfl, rfl, rfl, rfl, rfl, rfl, rfl, rfl, rfl, rfl, trivial⟩ (by repeat (first | exact Le.refl _ | assumption | apply Le.drop))
    try simp only [decide_eq_true_eq, decide_eq_false_iff_not, Bool.and_eq_true, Bool.or_eq_true, Bool.not_eq_true', Bool.and_eq_false_iff, Bool.or_eq_false_iff, Bool.not_eq_false', Int.not_lt, Int.not_le, ne_eq, Decidable.not_not, Option.isSome_iff_ne_none, Option.isNone_iff_eq_none] at hc11
    refine Tri.region ?_
    refine TOps.move rfl rfl ?_
    refine TOps.assign rfl rfl ?_
    refine TOps.fin ?_
    refine Nrm.unB ?_
    first
     | refine Nrm.loop (e + 1, r) (hp.up (by omega) (by omega) (by show (szR _ : Int) ≤ szR _; omega)) (by simp only; omega) ⟨rfl, rfl, rfl, rfl, rfl, rfl, rfl, rfl, rfl, rfl, trivial⟩ (by repeat (first | exact Le.refl _ | assumption | apply Le.drop))
     | refine Nrm.loop (st, e) (hp.down (c := e) (by omega) (by omega) (by show (szR (gL l (mid + m - 1 - e)) : Int) < szR (gL l e); omega)) (by simp only; omega) ⟨rfl, rfl, rfl, rfl, rfl, rfl, rfl, rfl, rfl, rfl, trivial⟩ (by repeat (first | exact Le.refl _ | assumption | apply Le.drop))
  try simp only [decide_eq_true_eq, decide_eq_false_iff_not, Bool.and_eq_true, Bool.or_eq_true, Bool.not_eq_true', Bool.and_eq_false_iff, Bool.or_eq_false_iff, Bool.not_eq_false', Int.not_lt, Int.not_le, ne_eq, Decidable.not_not, Option.isSome_iff_ne_none, Option.isNone_iff_eq_none] at hc10
  obtain rfl : st = r := by omega
  obtain ⟨e, hE⟩ : ∃ e, e = mid + m - st := ⟨_, rfl⟩
  have hb1 : m ≤ e ∧ e ≤ q ∧ p ≤ st ∧ st ≤ m ∧ st ≤ mid := by omega
  first | refine Tri.exitW ?_ | (refine Tri.exitTo ?_; repeat (with_reducible first | refine ExitTo.blk ?_ | refine ExitTo.blkNe rfl ?_ | refine ExitTo.body ?_ | refine ExitTo.brk rfl ?_ | refine ExitTo.bodyNe rfl rfl ?_ | refine ExitTo.seq ?_ | refine ExitTo.loop ?_))
  refine Nrm.next ?_
  refine Tri.seq (Tri.region ?_)
  refine TOps.move rfl rfl ?_
  refine TOps.move rfl rfl ?_
  refine TOps.sub (r := (e : Int)) rfl rfl (by rw [wrapI (by omega) (by omega)]; omega) rfl ?_
  refine TOps.assign rfl rfl ?_
  refine TOps.next ?_
  refine Tri.seqMid (X := List Rw) (fun y => [(0, slV (some bb) 0 N cap), (1, natV p), (3, natV q), (4, .func (.func 71) #[] #[]), (18, natV mid), (20, natV st), (24, natV e)]) (fun y => row (some bb) 66 3 cap (rwV (y)) :: H) (fun y => Rot st m e l y) ?_ (fun y hmid => ?_)
  · skip
    refine Tri.seq (Tri.region ?_)
    refine TOps.move rfl rfl ?_
    refine TOps.move rfl rfl ?_
    refine TOps.lss rfl rfl rfl ?_
    refine TOps.move rfl rfl ?_
    refine' TOps.andB 3 rfl rfl rfl rfl (fun hg39_3 => ?_) ?_; rotate_left
    · have hg39_3' := hg39_3
      try simp only [decide_eq_true_eq, decide_eq_false_iff_not, Bool.and_eq_true, Bool.or_eq_true, Bool.not_eq_true', Bool.and_eq_false_iff, Bool.or_eq_false_iff, Bool.not_eq_false', Int.not_lt, Int.not_le, ne_eq, Decidable.not_not] at hg39_3'
      refine TOps.strip 3 true rfl rfl hg39_3 rfl ?_
      refine TOps.move rfl rfl ?_
      refine TOps.move rfl rfl ?_
      refine TOps.lss rfl rfl rfl ?_
      refine TOps.blk rfl (by repeat (first | exact Ext.refl _ | refine Ext.cons rfl ?_)) (by repeat (first | exact Le.refl _ | apply Le.drop))
    refine TOps.next ?_
    refine Tri.cond rfl (fun hc12 => ?_) (fun hc12 => ?_)
    · try simp only [decide_eq_true_eq, decide_eq_false_iff_not, Bool.and_eq_true, Bool.or_eq_true, Bool.not_eq_true', Bool.and_eq_false_iff, Bool.or_eq_false_iff, Bool.not_eq_false', Int.not_lt, Int.not_le, ne_eq, Decidable.not_not, Option.isSome_iff_ne_none, Option.isNone_iff_eq_none] at hc12
      refine Tri.region ?_
      refine TOps.move rfl rfl ?_
      refine TOps.move rfl rfl ?_
      refine TOps.move rfl rfl ?_
      refine TOps.move rfl rfl ?_
      refine TOps.move rfl rfl ?_
      refine TOps.call (vs := [_, _, _, _, _]) Tryz.call107 ⟨rfl, rfl, rfl, rfl, rfl, trivial⟩ (rotate_g (p := st) (m := m) (q := e) hl hN (by omega) (by omega) (by omega)) rfl ?_
      rintro _ _ ⟨rfl, z2, hrot, rfl⟩
      refine TOps.fin ?_
      refine Nrm.mid z2 hrot (by exact ⟨rfl, rfl, rfl, rfl, rfl, rfl, rfl, trivial⟩) (by first | exact Le.refl _ | (rw [hz2]; exact Le.refl _))
    try simp only [decide_eq_true_eq, decide_eq_false_iff_not, Bool.and_eq_true, Bool.or_eq_true, Bool.not_eq_true', Bool.and_eq_false_iff, Bool.or_eq_false_iff, Bool.not_eq_false', Int.not_lt, Int.not_le, ne_eq, Decidable.not_not, Option.isSome_iff_ne_none, Option.isNone_iff_eq_none] at hc12
    obtain ⟨z2, hz2⟩ : ∃ z2, z2 = l := ⟨_, rfl⟩
    have hrot : Rot st m e l z2 := by rw [hz2]; exact Rot.same (by omega) (by omega) (by omega)
    refine Tri.fin ?_
    refine Nrm.mid z2 hrot (by exact ⟨rfl, rfl, rfl, rfl, rfl, rfl, rfl, trivial⟩) (by first | exact Le.refl _ | (rw [hz2]; exact Le.refl _))
  obtain ⟨z3, hz3⟩ : ∃ z3, z3 = y := ⟨_, rfl⟩
  rw [← hz3] at hmid ⊢
  obtain ⟨w1, w2, w3, w4, w5, w6, hHalf⟩ := srch_half hpm hmq hmd h0 hL hR hp hE hmid
  have hrot := hmid
  have hzl3 : z3.length = N := hrot.len.trans hl
  have hev3 : ∀ r ∈ z3, r.ev < 16777216 := fun r hr => hev r (hrot.perm.mem_iff.1 hr)
  refine Tri.seqMid (X := List Rw) (fun y => [(0, slV (some bb) 0 N cap), (3, natV q), (4, .func (.func 71) #[] #[]), (18, natV mid), (24, natV e)]) (fun y => row (some bb) 66 3 cap (rwV (y)) :: H) (fun y => POn p mid z3 y ∧ SOn ((fun r => (szR r : Int))) p mid y) ?_ (fun y hmid => ?_)
  · skip
    refine Tri.seq (Tri.region ?_)
    refine TOps.move rfl rfl ?_
    refine TOps.move rfl rfl ?_
    refine TOps.lss rfl rfl rfl ?_
    refine TOps.move rfl rfl ?_
    refine' TOps.andB 3 rfl rfl rfl rfl (fun hg41_3 => ?_) ?_; rotate_left
    · have hg41_3' := hg41_3
      try simp only [decide_eq_true_eq, decide_eq_false_iff_not, Bool.and_eq_true, Bool.or_eq_true, Bool.not_eq_true', Bool.and_eq_false_iff, Bool.or_eq_false_iff, Bool.not_eq_false', Int.not_lt, Int.not_le, ne_eq, Decidable.not_not] at hg41_3'
      refine TOps.strip 3 true rfl rfl hg41_3 rfl ?_
      refine TOps.move rfl rfl ?_
      refine TOps.move rfl rfl ?_
      refine TOps.lss rfl rfl rfl ?_
      refine TOps.blk rfl (by repeat (first | exact Ext.refl _ | refine Ext.cons rfl ?_)) (by repeat (first | exact Le.refl _ | apply Le.drop))
    refine TOps.next ?_
    refine Tri.cond rfl (fun hc13 => ?_) (fun hc13 => ?_)
    · try simp only [decide_eq_true_eq, decide_eq_false_iff_not, Bool.and_eq_true, Bool.or_eq_true, Bool.not_eq_true', Bool.and_eq_false_iff, Bool.or_eq_false_iff, Bool.not_eq_false', Int.not_lt, Int.not_le, ne_eq, Decidable.not_not, Option.isSome_iff_ne_none, Option.isNone_iff_eq_none] at hc13
      refine Tri.region ?_
      refine TOps.move rfl rfl ?_
      refine TOps.move rfl rfl ?_
      refine TOps.move rfl rfl ?_
      refine TOps.move rfl rfl ?_
      refine TOps.move rfl rfl ?_
      refine TOps.call (vs := [_, _, _, _, _]) Tryz.call104 ⟨rfl, rfl, rfl, rfl, rfl, trivial⟩ (ih (p := p) (m := st) (q := mid) (l := z3) (by omega) hzl3 (by omega) (by omega) (by omega) hev3 hHalf.h1 hHalf.h2) rfl ?_
      rintro _ _ ⟨rfl, z4, hp4, hs4, rfl⟩
      refine TOps.fin ?_
      refine Nrm.mid z4 ⟨hp4, hs4⟩ (by exact ⟨rfl, rfl, rfl, rfl, rfl, trivial⟩) (by first | exact Le.refl _ | (rw [hz4]; exact Le.refl _))
    try simp only [decide_eq_true_eq, decide_eq_false_iff_not, Bool.and_eq_true, Bool.or_eq_true, Bool.not_eq_true', Bool.and_eq_false_iff, Bool.or_eq_false_iff, Bool.not_eq_false', Int.not_lt, Int.not_le, ne_eq, Decidable.not_not, Option.isSome_iff_ne_none, Option.isNone_iff_eq_none] at hc13
    obtain ⟨z4, hz4⟩ : ∃ z4, z4 = z3 := ⟨_, rfl⟩
    have hp4 : POn p mid z3 z4 := by rw [hz4]; exact POn.refl _ _ _
    have hs4 : SOn ((fun r => (szR r : Int))) p mid z4 := by rw [hz4]; rcases Nat.lt_or_ge p st with hx | hx; (obtain rfl : mid = st := (by omega); exact hHalf.h1); (obtain rfl : p = st := (by omega); exact hHalf.h2)
    refine Tri.fin ?_
    refine Nrm.mid z4 ⟨hp4, hs4⟩ (by exact ⟨rfl, rfl, rfl, rfl, rfl, trivial⟩) (by first | exact Le.refl _ | (rw [hz4]; exact Le.refl _))
  refine Tri.seq (Tri.region ?_)
  obtain ⟨z5, hz5⟩ : ∃ z5, z5 = y := ⟨_, rfl⟩
  rw [← hz5] at hmid ⊢
  obtain ⟨hp5, hs5⟩ := hmid
  have hzl5 : z5.length = N := hp5.len.trans hzl3
  have hev5 : ∀ r ∈ z5, r.ev < 16777216 := fun r hr => hev3 r (hp5.perm.mem_iff.1 hr)
  have t3 : SOn ((fun r => (szR r : Int))) mid e z5 := fun i j h1 h2 h3 => by rw [hp5.out i (by omega), hp5.out j (by omega)]; exact hHalf.h3 i j h1 h2 h3
  have t4 : SOn ((fun r => (szR r : Int))) e q z5 := fun i j h1 h2 h3 => by rw [hp5.out i (by omega), hp5.out j (by omega)]; exact hHalf.h4 i j h1 h2 h3
  refine TOps.move rfl rfl ?_
  refine TOps.move rfl rfl ?_
  refine TOps.lss rfl rfl rfl ?_
  refine TOps.move rfl rfl ?_
  refine' TOps.andB 3 rfl rfl rfl rfl (fun hg43_3 => ?_) ?_; rotate_left
  · have hg43_3' := hg43_3
    try simp only [decide_eq_true_eq, decide_eq_false_iff_not, Bool.and_eq_true, Bool.or_eq_true, Bool.not_eq_true', Bool.and_eq_false_iff, Bool.or_eq_false_iff, Bool.not_eq_false', Int.not_lt, Int.not_le, ne_eq, Decidable.not_not] at hg43_3'
    refine TOps.strip 3 true rfl rfl hg43_3 rfl ?_
    refine TOps.move rfl rfl ?_
    refine TOps.move rfl rfl ?_
    refine TOps.lss rfl rfl rfl ?_
    refine TOps.blk rfl (by repeat (first | exact Ext.refl _ | refine Ext.cons rfl ?_)) (by repeat (first | exact Le.refl _ | apply Le.drop))
  refine TOps.next ?_
  refine Tri.cond rfl (fun hc14 => ?_) (fun hc14 => ?_)
  · try simp only [decide_eq_true_eq, decide_eq_false_iff_not, Bool.and_eq_true, Bool.or_eq_true, Bool.not_eq_true', Bool.and_eq_false_iff, Bool.or_eq_false_iff, Bool.not_eq_false', Int.not_lt, Int.not_le, ne_eq, Decidable.not_not, Option.isSome_iff_ne_none, Option.isNone_iff_eq_none] at hc14
    refine Tri.region ?_
    refine TOps.move rfl rfl ?_
    refine TOps.move rfl rfl ?_
    refine TOps.move rfl rfl ?_
    refine TOps.move rfl rfl ?_
    refine TOps.move rfl rfl ?_
    refine TOps.call (vs := [_, _, _, _, _]) Tryz.call104 ⟨rfl, rfl, rfl, rfl, rfl, trivial⟩ (ih (p := mid) (m := e) (q := q) (l := z5) (by omega) hzl5 (by omega) (by omega) hqN hev5 t3 t4) rfl ?_
    rintro _ _ ⟨rfl, z6, hp6, hs6, rfl⟩
    refine TOps.fin ?_
    first | exact Nrm.ret0 (H' := row (some bb) 66 3 cap (rwV (z6)) :: H) Tryz.results104 (Le.refl _) ⟨rfl, z6, (((hrot.pon w2 w3).mono w1 w4).trans (hp5.mono (Nat.le_refl _) (by omega))).trans (hp6.mono (by omega) (Nat.le_refl _)), half_join hHalf (by omega) (by omega) hp5 hs5 hp6 hs6, rfl⟩ | exact Nrm.ret0 (H' := row (some bb) 66 3 cap (rwV (z5)) :: H) Tryz.results104 (Le.refl _) ⟨rfl, z5, (((hrot.pon w2 w3).mono w1 w4).trans (hp5.mono (Nat.le_refl _) (by omega))).trans (hp6.mono (by omega) (Nat.le_refl _)), half_join hHalf (by omega) (by omega) hp5 hs5 hp6 hs6, rfl⟩
  try simp only [decide_eq_true_eq, decide_eq_false_iff_not, Bool.and_eq_true, Bool.or_eq_true, Bool.not_eq_true', Bool.and_eq_false_iff, Bool.or_eq_false_iff, Bool.not_eq_false', Int.not_lt, Int.not_le, ne_eq, Decidable.not_not, Option.isSome_iff_ne_none, Option.isNone_iff_eq_none] at hc14
  have hp6 : POn mid q z5 z5 := POn.refl _ _ _
  have hs6 : SOn ((fun r => (szR r : Int))) mid q z5 := by rcases Nat.lt_or_ge mid e with hx | hx; (obtain rfl : q = e := (by omega); exact t3); (obtain rfl : mid = e := (by omega); exact t4)
  refine Tri.fin ?_
  first | exact Nrm.ret0 (H' := row (some bb) 66 3 cap (rwV (z6)) :: H) Tryz.results104 (Le.refl _) ⟨rfl, z6, (((hrot.pon w2 w3).mono w1 w4).trans (hp5.mono (Nat.le_refl _) (by omega))).trans (hp6.mono (by omega) (Nat.le_refl _)), half_join hHalf (by omega) (by omega) hp5 hs5 hp6 hs6, rfl⟩ | exact Nrm.ret0 (H' := row (some bb) 66 3 cap (rwV (z5)) :: H) Tryz.results104 (Le.refl _) ⟨rfl, z5, (((hrot.pon w2 w3).mono w1 w4).trans (hp5.mono (Nat.le_refl _) (by omega))).trans (hp6.mono (by omega) (Nat.le_refl _)), half_join hHalf (by omega) (by omega) hp5 hs5 hp6 hs6, rfl⟩
end Go.Proofs
namespace Go.Proofs
open Go.GL
set_option linter.unusedVariables false
set_option linter.unusedSimpArgs false
set_option maxHeartbeats 1000000 in
theorem stable_g {H : List Ent} {bb cap N : Nat} {l : List Rw} (hl : l.length = N) (hN : N ≤ 1000000) (hev : ∀ r ∈ l, r.ev < 16777216) :
    Gives Tryz.prog 92 [slV (some bb) 0 N cap, natV N, .func (.func 71) #[] #[]] (row (some bb) 66 3 cap (rwV (l)) :: H) (fun u H' => u = .tuple (List.toArray []) ∧ ∃ l', POn 0 N l l' ∧ SOn ((fun r => (szR r : Int))) 0 N l' ∧ row (some bb) 66 3 cap (rwV (l')) :: H = H') := by
  have hevP : ∀ {z : List Rw}, POn 0 N l z → ∀ r ∈ z, r.ev < 16777216 := fun h r hr => hev r (h.perm.mem_iff.1 hr)
  refine Gives.enter Tryz.func92 rfl (by exact Tryz.ntmps92) rfl ?_
  refine Tri.seq (Tri.region ?_)
  refine TOps.assign rfl rfl ?_
  refine TOps.next ?_
  refine Tri.seq (Tri.region ?_)
  refine TOps.move rfl rfl ?_
  refine TOps.assign rfl rfl ?_
  refine TOps.assign rfl rfl ?_
  refine TOps.next ?_
  refine Tri.seq ?_
  refine Tri.block ?_
  refine Tri.loop (X := Nat × Nat × List Rw) (fun x => [(0, slV (some bb) 0 N cap), (1, natV N), (2, .func (.func 71) #[] #[]), (6, natV 20), (7, natV x.2.1), (8, natV (x.2.1 + 20))]) (fun x => row (some bb) 66 3 cap (rwV (x.2.2)) :: H) (fun x => Blk0 ((fun r => (szR r : Int))) x.1 x.2.2 ∧ POn 0 N l x.2.2 ∧ x.2.1 = x.1 * 20 ∧ x.2.1 ≤ N) (fun x => N - x.2.1) (0, 0, l) ⟨fun k hk => absurd hk (Nat.not_lt_zero k), POn.refl _ _ _, rfl, Nat.zero_le _⟩ ⟨rfl, rfl, rfl, rfl, rfl, rfl, trivial⟩ (by repeat (first | exact Le.refl _ | assumption | apply Le.drop)) (fun x hp => ?_)
  obtain ⟨c, a, z⟩ := x
  obtain ⟨u1, u2, u3, u4⟩ := hp
  dsimp only at u1 u2 u3 u4 ⊢
  have hzl : z.length = N := u2.len.trans hl
  refine Tri.seq ?_
  refine Tri.seq (Tri.region ?_)
  refine TOps.move rfl rfl ?_
  refine TOps.move rfl rfl ?_
  refine TOps.leq rfl rfl rfl ?_
  refine TOps.next ?_
  refine Tri.cond rfl (fun hc1 => ?_) (fun hc1 => ?_)
  · try simp only [decide_eq_true_eq, decide_eq_false_iff_not, Bool.and_eq_true, Bool.or_eq_true, Bool.not_eq_true', Bool.and_eq_false_iff, Bool.or_eq_false_iff, Bool.not_eq_false', Int.not_lt, Int.not_le, ne_eq, Decidable.not_not, Option.isSome_iff_ne_none, Option.isNone_iff_eq_none] at hc1
    refine Tri.fin ?_
    refine Nrm.next ?_
    refine Tri.block ?_
    refine Tri.seq (Tri.region ?_)
    refine TOps.move rfl rfl ?_
    refine TOps.move rfl rfl ?_
    refine TOps.move rfl rfl ?_
    refine TOps.move rfl rfl ?_
    refine TOps.call (vs := [_, _, _, _]) Tryz.call103 ⟨rfl, rfl, rfl, rfl, trivial⟩ (insRows_g (p := a) (q := a + 20) hzl hN (by omega) (by omega) (hevP u2)) rfl ?_
    rintro _ _ ⟨rfl, z2, v1, v2, rfl⟩
    refine TOps.next ?_
    refine Tri.seq (Tri.region ?_)
    refine TOps.move rfl rfl ?_
    refine TOps.assign rfl rfl ?_
    refine TOps.next ?_
    refine Tri.region ?_
    refine TOps.move rfl rfl ?_
    refine TOps.move rfl rfl ?_
    refine TOps.add (r := ((a + 20 + 20 : Nat) : Int)) rfl rfl (by rw [wrapI (by omega) (by omega)]; omega) rfl ?_
    refine TOps.assign rfl rfl ?_
    refine TOps.fin ?_
    refine Nrm.unB ?_
    refine Nrm.loop (c + 1, a + 20, z2) ⟨by subst u3; exact u1.step v1 v2, u2.trans (v1.mono (Nat.zero_le _) (by omega)), by simp only; omega, by simp only; omega⟩ (by simp only; omega) ⟨rfl, rfl, rfl, rfl, rfl, rfl, trivial⟩ (by repeat (first | exact Le.refl _ | assumption | apply Le.drop))
  try simp only [decide_eq_true_eq, decide_eq_false_iff_not, Bool.and_eq_true, Bool.or_eq_true, Bool.not_eq_true', Bool.and_eq_false_iff, Bool.or_eq_false_iff, Bool.not_eq_false', Int.not_lt, Int.not_le, ne_eq, Decidable.not_not, Option.isSome_iff_ne_none, Option.isNone_iff_eq_none] at hc1
  first | refine Tri.exitW ?_ | (refine Tri.exitTo ?_; repeat (with_reducible first | refine ExitTo.blk ?_ | refine ExitTo.blkNe rfl ?_ | refine ExitTo.body ?_ | refine ExitTo.brk rfl ?_ | refine ExitTo.bodyNe rfl rfl ?_ | refine ExitTo.seq ?_ | refine ExitTo.loop ?_))
  refine Nrm.next ?_
  refine Tri.seq (Tri.region ?_)
  refine TOps.move rfl rfl ?_
  refine TOps.move rfl rfl ?_
  refine TOps.move rfl rfl ?_
  refine TOps.move rfl rfl ?_
  refine TOps.call (vs := [_, _, _, _]) Tryz.call103 ⟨rfl, rfl, rfl, rfl, trivial⟩ (insRows_g (p := a) (q := N) hzl hN u4 (Nat.le_refl _) (hevP u2)) rfl ?_
  rintro _ _ ⟨rfl, z2, v1, v2, rfl⟩
  have hB0 : Blk ((fun r => (szR r : Int))) 20 N z2 := by subst u3; exact u1.last u4 (by omega) v1 v2
  have hP0 : POn 0 N l z2 := u2.trans (v1.mono (Nat.zero_le _) (Nat.le_refl _))
  refine TOps.next ?_
  refine Tri.block ?_
  refine Tri.loop (X := Nat × List Rw) (fun x => [(0, slV (some bb) 0 N cap), (1, natV N), (2, .func (.func 71) #[] #[]), (6, natV x.1)]) (fun x => row (some bb) 66 3 cap (rwV (x.2)) :: H) (fun x => Blk ((fun r => (szR r : Int))) x.1 N x.2 ∧ POn 0 N l x.2 ∧ 20 ≤ x.1 ∧ x.1 ≤ 2000000) (fun x => N - x.1) (20, z2) ⟨hB0, hP0, Nat.le_refl _, by simp only; omega⟩ ⟨rfl, rfl, rfl, rfl, trivial⟩ (by repeat (first | exact Le.refl _ | assumption | apply Le.drop)) (fun x hp => ?_)
  obtain ⟨bs, z⟩ := x
  obtain ⟨w1, w2, w3, w4⟩ := hp
  dsimp only at w1 w2 w3 w4 ⊢
  refine Tri.seq ?_
  refine Tri.seq (Tri.region ?_)
  refine TOps.move rfl rfl ?_
  refine TOps.move rfl rfl ?_
  refine TOps.lss rfl rfl rfl ?_
  refine TOps.next ?_
  refine Tri.cond rfl (fun hc2 => ?_) (fun hc2 => ?_)
  · try simp only [decide_eq_true_eq, decide_eq_false_iff_not, Bool.and_eq_true, Bool.or_eq_true, Bool.not_eq_true', Bool.and_eq_false_iff, Bool.or_eq_false_iff, Bool.not_eq_false', Int.not_lt, Int.not_le, ne_eq, Decidable.not_not, Option.isSome_iff_ne_none, Option.isNone_iff_eq_none] at hc2
    refine Tri.fin ?_
    refine Nrm.next ?_
    refine Tri.block ?_
    refine Tri.seq (Tri.region ?_)
    refine TOps.move rfl rfl ?_
    refine TOps.mul (r := ((2 * bs : Nat) : Int)) rfl rfl (by rw [wrapI (by omega) (by omega)]; omega) rfl ?_
    refine TOps.assign rfl rfl ?_
    refine TOps.assign rfl rfl ?_
    refine TOps.next ?_
    refine Tri.seq ?_
    refine Tri.block ?_
    refine Tri.loop (X := Nat × Nat × List Rw) (fun x => [(0, slV (some bb) 0 N cap), (1, natV N), (2, .func (.func 71) #[] #[]), (6, natV bs), (7, natV x.2.1), (8, natV (x.2.1 + 2 * bs))]) (fun x => row (some bb) 66 3 cap (rwV (x.2.2)) :: H) (fun x => Blks ((fun r => (szR r : Int))) bs N x.1 x.2.2 ∧ POn 0 N l x.2.2 ∧ x.2.1 = x.1 * (2 * bs) ∧ x.2.1 ≤ N) (fun x => N - x.2.1) (0, 0, z) ⟨Blks.start w1, w2, (Nat.zero_mul _).symm, Nat.zero_le _⟩ (by refine ⟨rfl, rfl, rfl, rfl, rfl, ?_, trivial⟩; simp only [Nat.zero_add]; rfl) (by repeat (first | exact Le.refl _ | assumption | apply Le.drop)) (fun x hp => ?_)
    obtain ⟨c, a, z3⟩ := x
    obtain ⟨t1, t2, t3, t4⟩ := hp
    dsimp only at t1 t2 t3 t4 ⊢
    have hzl3 : z3.length = N := t2.len.trans hl
    refine Tri.seq ?_
    refine Tri.seq (Tri.region ?_)
    refine TOps.move rfl rfl ?_
    refine TOps.move rfl rfl ?_
    refine TOps.leq rfl rfl rfl ?_
    refine TOps.next ?_
    refine Tri.cond rfl (fun hc3 => ?_) (fun hc3 => ?_)
    · try simp only [decide_eq_true_eq, decide_eq_false_iff_not, Bool.and_eq_true, Bool.or_eq_true, Bool.not_eq_true', Bool.and_eq_false_iff, Bool.or_eq_false_iff, Bool.not_eq_false', Int.not_lt, Int.not_le, ne_eq, Decidable.not_not, Option.isSome_iff_ne_none, Option.isNone_iff_eq_none] at hc3
      refine Tri.fin ?_
      refine Nrm.next ?_
      refine Tri.block ?_
      refine Tri.seq (Tri.region ?_)
      refine TOps.move rfl rfl ?_
      refine TOps.move rfl rfl ?_
      refine TOps.move rfl rfl ?_
      refine TOps.move rfl rfl ?_
      refine TOps.add (r := ((a + bs : Nat) : Int)) rfl rfl (by rw [wrapI (by omega) (by omega)]; omega) rfl ?_
      refine TOps.move rfl rfl ?_
      refine TOps.move rfl rfl ?_
      refine TOps.call (vs := [_, _, _, _, _]) Tryz.call104 ⟨rfl, rfl, rfl, rfl, rfl, trivial⟩ (symMerge_g hN (N + 1) (p := a) (m := a + bs) (q := a + 2 * bs) (l := z3) (by omega) hzl3 (by omega) (by omega) (by omega) (hevP t2) (by have := t1.left (by omega); rw [← t3] at this; exact this) (by have := t1.right (b := a + 2 * bs) (by rw [← t3, Nat.min_eq_left (by omega)]); rw [← t3] at this; exact this)) rfl ?_
      rintro _ _ ⟨rfl, z4, v3, v4, rfl⟩
      refine TOps.next ?_
      refine Tri.seq (Tri.region ?_)
      refine TOps.move rfl rfl ?_
      refine TOps.assign rfl rfl ?_
      refine TOps.next ?_
      refine Tri.region ?_
      refine TOps.move rfl rfl ?_
      refine TOps.move rfl rfl ?_
      refine TOps.mul (r := ((2 * bs : Nat) : Int)) rfl rfl (by rw [wrapI (by omega) (by omega)]; omega) rfl ?_
      refine TOps.add (r := ((a + 2 * bs + 2 * bs : Nat) : Int)) rfl rfl (by rw [wrapI (by omega) (by omega)]; omega) rfl ?_
      refine TOps.assign rfl rfl ?_
      refine TOps.fin ?_
      refine Nrm.unB ?_
      refine Nrm.loop (c + 1, a + 2 * bs, z4) ⟨t1.step t3 v3 v4, t2.trans (v3.mono (Nat.zero_le _) (by omega)), by show a + 2 * bs = (c + 1) * (2 * bs); rw [Nat.succ_mul c (2 * bs), ← t3], by simp only; omega⟩ (by simp only; omega) ⟨rfl, rfl, rfl, rfl, rfl, rfl, trivial⟩ (by repeat (first | exact Le.refl _ | assumption | apply Le.drop))
    try simp only [decide_eq_true_eq, decide_eq_false_iff_not, Bool.and_eq_true, Bool.or_eq_true, Bool.not_eq_true', Bool.and_eq_false_iff, Bool.or_eq_false_iff, Bool.not_eq_false', Int.not_lt, Int.not_le, ne_eq, Decidable.not_not, Option.isSome_iff_ne_none, Option.isNone_iff_eq_none] at hc3
    first | refine Tri.exitW ?_ | (refine Tri.exitTo ?_; repeat (with_reducible first | refine ExitTo.blk ?_ | refine ExitTo.blkNe rfl ?_ | refine ExitTo.body ?_ | refine ExitTo.brk rfl ?_ | refine ExitTo.bodyNe rfl rfl ?_ | refine ExitTo.seq ?_ | refine ExitTo.loop ?_))
    refine Nrm.next ?_
    refine Tri.seqMid (X := List Rw) (fun y => [(0, slV (some bb) 0 N cap), (1, natV N), (2, .func (.func 71) #[] #[]), (6, natV bs)]) (fun y => row (some bb) 66 3 cap (rwV (y)) :: H) (fun y => POn a N z3 y ∧ SOn ((fun r => (szR r : Int))) a N y) ?_ (fun y hmid => ?_)
    · skip
      refine Tri.seq (Tri.region ?_)
      refine TOps.move rfl rfl ?_
      refine TOps.move rfl rfl ?_
      refine TOps.add (r := ((a + bs : Nat) : Int)) rfl rfl (by rw [wrapI (by omega) (by omega)]; omega) rfl ?_
      refine TOps.assign rfl rfl ?_
      refine TOps.next ?_
      refine Tri.seq (Tri.region ?_)
      refine TOps.move rfl rfl ?_
      refine TOps.move rfl rfl ?_
      refine TOps.lss rfl rfl rfl ?_
      refine TOps.next ?_
      refine Tri.cond rfl (fun hc4 => ?_) (fun hc4 => ?_)
      · try simp only [decide_eq_true_eq, decide_eq_false_iff_not, Bool.and_eq_true, Bool.or_eq_true, Bool.not_eq_true', Bool.and_eq_false_iff, Bool.or_eq_false_iff, Bool.not_eq_false', Int.not_lt, Int.not_le, ne_eq, Decidable.not_not, Option.isSome_iff_ne_none, Option.isNone_iff_eq_none] at hc4
        refine Tri.region ?_
        refine TOps.move rfl rfl ?_
        refine TOps.move rfl rfl ?_
        refine TOps.move rfl rfl ?_
        refine TOps.move rfl rfl ?_
        refine TOps.move rfl rfl ?_
        refine TOps.call (vs := [_, _, _, _, _]) Tryz.call104 ⟨rfl, rfl, rfl, rfl, rfl, trivial⟩ (symMerge_g hN (N + 1) (p := a) (m := a + bs) (q := N) (l := z3) (by omega) hzl3 (by omega) (by omega) (by omega) (hevP t2) (by have := t1.left (by omega); rw [← t3] at this; exact this) (by have := t1.right (b := N) (by rw [← t3, Nat.min_eq_right (by omega)]); rw [← t3] at this; exact this)) rfl ?_
        rintro _ _ ⟨rfl, z5, v5, v6, rfl⟩
        refine TOps.fin ?_
        refine Nrm.mid z5 ⟨v5, v6⟩ (by exact ⟨rfl, rfl, rfl, rfl, trivial⟩) (by first | exact Le.refl _ | (rw [hz5]; exact Le.refl _))
      try simp only [decide_eq_true_eq, decide_eq_false_iff_not, Bool.and_eq_true, Bool.or_eq_true, Bool.not_eq_true', Bool.and_eq_false_iff, Bool.or_eq_false_iff, Bool.not_eq_false', Int.not_lt, Int.not_le, ne_eq, Decidable.not_not, Option.isSome_iff_ne_none, Option.isNone_iff_eq_none] at hc4
      obtain ⟨z5, hz5⟩ : ∃ z5, z5 = z3 := ⟨_, rfl⟩
      have v5 : POn a N z3 z5 := by rw [hz5]; exact POn.refl _ _ _
      have v6 : SOn ((fun r => (szR r : Int))) a N z5 := by rw [hz5]; exact t1.rest t3 (by omega)
      refine Tri.fin ?_
      refine Nrm.mid z5 ⟨v5, v6⟩ (by exact ⟨rfl, rfl, rfl, rfl, trivial⟩) (by first | exact Le.refl _ | (rw [hz5]; exact Le.refl _))
    refine Tri.region ?_
    refine TOps.move rfl rfl ?_
    refine TOps.mul (r := ((2 * bs : Nat) : Int)) rfl rfl (by rw [wrapI (by omega) (by omega)]; omega) rfl ?_
    refine TOps.assign rfl rfl ?_
    refine TOps.fin ?_
    refine Nrm.unB ?_
    refine Nrm.loop (2 * bs, y) ⟨t1.last t3 (by omega) hmid.1 hmid.2, t2.trans (hmid.1.mono (Nat.zero_le _) (Nat.le_refl _)), by simp only; omega, by simp only; omega⟩ (by simp only; omega) ⟨rfl, rfl, rfl, rfl, trivial⟩ (by repeat (first | exact Le.refl _ | assumption | apply Le.drop))
  try simp only [decide_eq_true_eq, decide_eq_false_iff_not, Bool.and_eq_true, Bool.or_eq_true, Bool.not_eq_true', Bool.and_eq_false_iff, Bool.or_eq_false_iff, Bool.not_eq_false', Int.not_lt, Int.not_le, ne_eq, Decidable.not_not, Option.isSome_iff_ne_none, Option.isNone_iff_eq_none] at hc2
  first | refine Tri.exitW ?_ | (refine Tri.exitTo ?_; repeat (with_reducible first | refine ExitTo.blk ?_ | refine ExitTo.blkNe rfl ?_ | refine ExitTo.body ?_ | refine ExitTo.brk rfl ?_ | refine ExitTo.bodyNe rfl rfl ?_ | refine ExitTo.seq ?_ | refine ExitTo.loop ?_))
  exact Nrm.ret0 (H' := row (some bb) 66 3 cap (rwV (z)) :: H) Tryz.results92 (Le.refl _) ⟨rfl, z, w2, w1.all (by omega), rfl⟩
theorem sortStable_g {H : List Ent} {bb cap N : Nat} {l : List Rw} (hl : l.length = N) (hN : N ≤ 1000000) (hev : ∀ r ∈ l, r.ev < 16777216) :
    Gives Tryz.prog 70 [slV (some bb) 0 N cap, .func (.func 71) #[] #[]] (row (some bb) 66 3 cap (rwV (l)) :: H) (fun u H' => u = .tuple (List.toArray []) ∧ ∃ l', POn 0 N l l' ∧ SOn ((fun r => (szR r : Int))) 0 N l' ∧ row (some bb) 66 3 cap (rwV (l')) :: H = H') := by
  refine Gives.enter Tryz.func70 rfl (by exact Tryz.ntmps70) rfl ?_
  refine Tri.region ?_
  refine TOps.move rfl rfl ?_
  refine TOps.move rfl rfl ?_
  refine TOps.len rfl Tryz.underlying60 rfl ?_
  refine TOps.move rfl rfl ?_
  refine TOps.call (vs := [_, _, _]) Tryz.call92 ⟨rfl, rfl, rfl, trivial⟩ (stable_g hl hN hev) rfl ?_
  rintro _ _ ⟨rfl, l', h1, h2, rfl⟩
  refine TOps.fin ?_
  exact Nrm.ret0 (H' := row (some bb) 66 3 cap (rwV (l')) :: H) Tryz.results70 (Le.refl _) ⟨rfl, l', h1, h2, rfl⟩
end Go.Proofs
namespace Go.Proofs
open Go.GL
set_option linter.unusedVariables false
set_option linter.unusedSimpArgs false
theorem has_g {H : List Ent} {r : Rw} {v i : Nat} (hr : r.Fit v) (hi : i < 128) : Gives Tryz.prog 46 [.agg (List.toArray r.cells), natV i] H (R1 (.bool (r.has i)) H) := by
  have hword := hr.word (i := i)
  refine Gives.enter Tryz.func46 rfl (by exact Tryz.ntmps46) rfl ?_
  refine Tri.seq (Tri.region ?_)
  refine TOps.boxN rfl ti66 rfl rfl (fun b2 => ?_)
  refine TOps.hide (fun H1 l1 s1 r1 => ?_)
  have rw1 : Rd H1 b2 (0 + (1 + i / 64)) [.int .u64 (r.word (i / 64))] := Rd.part r1 _ (r.word_at hi)
  rw [Nat.zero_add] at rw1
  refine TOps.assign rfl rfl ?_
  refine TOps.next ?_
  refine Tri.seq (Tri.region ?_)
  refine TOps.move rfl rfl ?_
  refine TOps.quo (r := ((i / 64 : Nat) : Int)) rfl rfl (by decide) (by rw [show ((i : Int)).tdiv 64 = ((i / 64 : Nat) : Int) by rw [Int.tdiv_eq_ediv_of_nonneg (by omega)]; omega, wrapI (by omega) (by omega)]) rfl ?_
  first | refine TOps.fieldB 1 rfl Tryz.underlying66 rfl rfl ti64 rfl rfl rfl ?_ | refine TOps.fieldN 1 rfl Tryz.underlying66 rfl rfl ti64 rfl rfl rfl ?_
  refine TOps.indexAddrA (off' := 1 + i / 64) rfl rfl Tryz.underlying64 ti63 (by omega) (by omega) (by rw [Int.toNat_natCast]; omega) rfl ?_
  refine TOps.load1 rfl ti63 rw1 rfl ?_
  refine TOps.move rfl rfl ?_
  refine TOps.rem (r := ((i % 64 : Nat) : Int)) rfl rfl (by decide) (by rw [Int.tmod_eq_emod_of_nonneg (by omega)]; omega) rfl ?_
  refine TOps.shrU (r := ((r.word (i / 64) >>> (i % 64) : Nat) : Int)) rfl rfl (by omega) (by rw [Int.toNat_natCast]; exact ishr_nat (by omega)) rfl ?_
  refine TOps.andU (r := ((r.word (i / 64) >>> (i % 64) &&& 1 : Nat) : Int)) rfl rfl (uand_nat (b := 1) (Nat.lt_of_le_of_lt (Nat.shiftRight_le _ _) hword) (by decide)) rfl ?_
  refine TOps.eqlIr (r := r.has i) rfl rfl (by rw [bitU_one, r.has_word hi]) rfl ?_
  refine TOps.assign rfl rfl ?_
  refine TOps.next ?_
  refine Tri.ret1 (H' := H) Tryz.results46 (fun _ _ h => h) (.tmp rfl) l1 ⟨rfl, rfl⟩
theorem without_g {H : List Ent} {r : Rw} {v i : Nat} (hr : r.Fit v) (hi : i < 128) : Gives Tryz.prog 67 [.agg (List.toArray r.cells), natV i] H (R1 (.agg (List.toArray (r.del i).cells)) H) := by
  have hword := hr.word (i := i)
  have hp : 2 ^ (i % 64) < 2 ^ 64 := Nat.pow_lt_pow_right (by decide) (by omega)
  refine Gives.enter Tryz.func67 rfl (by exact Tryz.ntmps67) rfl ?_
  refine Tri.seq (Tri.region ?_)
  refine TOps.boxN rfl ti66 rfl rfl (fun b2 => ?_)
  refine TOps.le (H' := row (some b2) 66 3 1 r.cells :: H) (Le.refl _) ?_
  refine TOps.alloc ti66 rfl (fun b4 => ?_)
  refine TOps.le Le.swap ?_
  refine TOps.next ?_
  refine Tri.seq ?_
  have rw1 : ∀ K : List Ent, Rd (row (some b2) 66 3 1 r.cells :: K) b2 (1 + i / 64) [.int .u64 (r.word (i / 64))] := fun K => by have h := Rd.part (Rd.all (H := row (some b2) 66 3 1 r.cells :: K) (List.Mem.head _)) _ (r.word_at hi); rw [Nat.zero_add] at h; exact h
  refine Tri.drawX (X := Unit) rfl [(1, natV i), (2, .pointer (some ⟨b2, 0, none⟩)), (4, .pointer (some ⟨b4, 0, none⟩))] [] (fun x => [_, _, _, _, _, _, _, _, _, _, _, undef]) (fun x c => match c with | 0 => row (some b2) 66 3 1 r.cells :: row (some b4) 66 3 1 [.int .i64 0, .int .u64 0, .int .u64 0] :: H | _ + 1 => row (some b2) 66 3 1 (r.del i).cells :: row (some b4) 66 3 1 [.int .i64 0, .int .u64 0, .int .u64 0] :: H) [11] () [] rfl rfl ⟨rfl, rfl, rfl, trivial⟩ trivial (by repeat (first | exact Le.refl _ | assumption | apply Le.drop)) (by
    refine ⟨?_, ?_, ?_, ?_, ?_, ?_, ?_, ?_, ?_, ?_, ?_, ?_, trivial⟩
    · refine ⟨fun x S c he hw hd hc hcu hm _ => ?_, trivial⟩
      refine TOps.move (he _ _ rfl) rfl ?_
      exact TOps.fd x rfl rfl
    · refine ⟨fun x S c he hw hd hc hcu hm _ => ?_, trivial⟩
      obtain ⟨h0, -⟩ := hd
      refine TOps.quo (r := ((i / 64 : Nat) : Int)) h0 rfl (by decide) (by rw [show ((i : Int)).tdiv 64 = ((i / 64 : Nat) : Int) by rw [Int.tdiv_eq_ediv_of_nonneg (by omega)]; omega, wrapI (by omega) (by omega)]) rfl ?_
      exact TOps.fd x rfl rfl
    · refine ⟨fun x S c he hw hd hc hcu hm _ => ?_, trivial⟩
      first | refine TOps.fieldB 1 (he _ _ rfl) Tryz.underlying66 rfl rfl ti64 rfl rfl rfl ?_ | refine TOps.fieldN 1 (he _ _ rfl) Tryz.underlying66 rfl rfl ti64 rfl rfl rfl ?_
      exact TOps.fd x rfl rfl
    · refine ⟨fun x S c he hw hd hc hcu hm _ => ?_, trivial⟩
      obtain ⟨h2, h1, -⟩ := hd
      refine TOps.indexAddrA (off' := 1 + i / 64) h2 h1 Tryz.underlying64 ti63 (by omega) (by omega) (by rw [Int.toNat_natCast]; omega) rfl ?_
      exact TOps.fd x rfl rfl
    · refine ⟨fun x S c he hw hd hc hcu hm _ => ?_, trivial⟩
      obtain ⟨h3, -⟩ := hd
      obtain rfl : c = 0 := by have : c ≤ 0 := hcu; omega
      refine TOps.load1 h3 ti63 (rw1 _) rfl ?_
      exact TOps.fd x rfl rfl
    · refine ⟨fun x S c he hw hd hc hcu hm _ => ?_, trivial⟩
      refine TOps.move (he _ _ rfl) rfl ?_
      exact TOps.fd x rfl rfl
    · refine ⟨fun x S c he hw hd hc hcu hm _ => ?_, trivial⟩
      obtain ⟨h5, -⟩ := hd
      refine TOps.rem (r := ((i % 64 : Nat) : Int)) h5 rfl (by decide) (by rw [Int.tmod_eq_emod_of_nonneg (by omega)]; omega) rfl ?_
      exact TOps.fd x rfl rfl
    · refine ⟨fun x S c he hw hd hc hcu hm _ => ?_, trivial⟩
      obtain ⟨h6, -⟩ := hd
      refine TOps.shlU (r := ((2 ^ (i % 64) : Nat) : Int)) rfl h6 (by omega) (by rw [Int.toNat_natCast]; exact ushl_one (by omega)) rfl ?_
      exact TOps.fd x rfl rfl
    · refine ⟨fun x S c he hw hd hc hcu hm _ => ?_, trivial⟩
      obtain ⟨h4, h7, -⟩ := hd
      refine TOps.andNotU (r := ((r.word (i / 64) ^^^ (r.word (i / 64) &&& 2 ^ (i % 64)) : Nat) : Int)) h4 h7 (uandn_nat hword hp) rfl ?_
      exact TOps.fd x rfl rfl
    · refine ⟨fun x S c he hw hd hc hcu hm _ => ?_, trivial⟩
      first | refine TOps.fieldB 1 (he _ _ rfl) Tryz.underlying66 rfl rfl ti64 rfl rfl rfl ?_ | refine TOps.fieldN 1 (he _ _ rfl) Tryz.underlying66 rfl rfl ti64 rfl rfl rfl ?_
      exact TOps.fd x rfl rfl
    · refine ⟨fun x S c he hw hd hc hcu hm _ => ?_, trivial⟩
      obtain ⟨h9, h1, h0, _, h2, h3, h4, h5, h6, h7, h8, -⟩ := hd
      refine TOps.indexAddrA (off' := 1 + i / 64) h9 h1 Tryz.underlying64 ti63 (by omega) (by omega) (by rw [Int.toNat_natCast]; omega) rfl ?_
      exact TOps.fd x rfl rfl
    · refine ⟨fun x S c he hw hd hc hcu hm _ => ?_, trivial⟩
      obtain ⟨h10, h8, h0, h1, h2, h3, h4, h5, h6, h7, _, -⟩ := hd
      obtain rfl : c = 0 := hm rfl
      refine TOps.store1 h10 h8 ti63 rfl rfl Upd.here (by simp [Rw.cells]; omega) ?_
      exact TOps.fin (Nrm.draw x (fun _ _ _ => rfl) rfl (Le.rowEq (r.set_del hi)))
    ) (fun u0 => ?_)
  refine Nrm.next ?_
  refine Tri.seq (Tri.region ?_)
  refine TOps.loadN (vs := (r.del i).cells) rfl ti66 (Rd.all (List.Mem.head _)) rfl rfl ?_
  refine TOps.storeN rfl rfl ti66 rfl rfl (by repeat (first | exact Upd.here | apply Upd.there)) (by first | decide | (simp; done) | (simp; omega)) ?_
  refine TOps.next ?_
  refine Tri.ret1 (H' := H) Tryz.results67 (fun _ _ h => h) (.cellN rfl rfl ti66 (Rd.all (by repeat (first | exact List.Mem.head _ | apply List.Mem.tail))) rfl) (Le.drop (Le.drop (Le.refl _))) ⟨rfl, rfl⟩
theorem with_g {H : List Ent} {r : Rw} {v a : Nat} {nv tv : Value} (hr : r.Fit v) (hv : v ≤ 24) (ha : a < v + 128) : Gives Tryz.prog 44 [.agg (List.toArray r.cells), .agg (List.toArray [natV v, nv, tv]), natV a] H (R1 (.agg (List.toArray (r.arg v a).cells)) H) := by
  have hev : r.ev < 2 ^ 24 := Nat.lt_of_lt_of_le hr.e (Nat.pow_le_pow_right (by decide) hv)
  have h24 : (2 : Nat) ^ 24 = 16777216 := rfl
  refine Gives.enter Tryz.func44 rfl (by exact Tryz.ntmps44) rfl ?_
  refine Tri.seq (Tri.region ?_)
  refine TOps.boxN rfl ti66 rfl rfl (fun b3 => ?_)
  refine TOps.boxN rfl ti24 rfl rfl (fun b4 => ?_)
  refine TOps.hide2 (fun H1 l1 s1 r4 => ?_)
  refine TOps.le (H' := row (some b3) 66 3 1 (r.cells) :: H1) (Le.refl _) ?_
  refine TOps.alloc ti66 rfl (fun b6 => ?_)
  refine TOps.le Le.swap ?_
  refine TOps.next ?_
  refine Tri.seq ?_
  refine Tri.seq (Tri.region ?_)
  refine TOps.move rfl rfl ?_
  refine TOps.field0 rfl Tryz.underlying24 rfl rfl ti3 rfl rfl rfl ?_
  refine TOps.load1 rfl ti3 (Rd.fld r4.up.up 0 rfl) rfl ?_
  refine TOps.lss rfl rfl rfl ?_
  refine TOps.next ?_
  refine Tri.cond rfl (fun hc1 => ?_) (fun hc1 => ?_)
  · try simp only [decide_eq_true_eq, decide_eq_false_iff_not, Bool.and_eq_true, Bool.or_eq_true, Bool.not_eq_true', Bool.and_eq_false_iff, Bool.or_eq_false_iff, Bool.not_eq_false', Int.not_lt, Int.not_le, ne_eq, Decidable.not_not, Option.isSome_iff_ne_none, Option.isNone_iff_eq_none] at hc1
    have hav : a < v := by omega
    have hpa : 2 ^ a < 2 ^ 24 := Nat.pow_lt_pow_right (by decide) (by omega)
    refine Tri.seq ?_
    refine Tri.drawX (X := Unit) rfl [(2, natV a), (3, .pointer (some ⟨b3, 0, none⟩)), (4, .pointer (some ⟨b4, 0, none⟩)), (6, .pointer (some ⟨b6, 0, none⟩))] [] (fun x => [_, _, _, _, _, _, undef]) (fun x c => match c with | 0 => row (some b3) 66 3 1 (r.cells) :: row (some b6) 66 3 1 [.int .i64 0, .int .u64 0, .int .u64 0] :: H1 | _ + 1 => row (some b3) 66 3 1 ((r.addE a).cells) :: row (some b6) 66 3 1 [.int .i64 0, .int .u64 0, .int .u64 0] :: H1) [6] () [] rfl rfl ⟨rfl, rfl, rfl, rfl, trivial⟩ trivial (by repeat (first | exact Le.refl _ | assumption | apply Le.drop)) (by
      refine ⟨?_, ?_, ?_, ?_, ?_, ?_, ?_, trivial⟩
      · refine ⟨fun x S c he hw hd hc hcu hm _ => ?_, trivial⟩
        refine TOps.field0 (he _ _ rfl) Tryz.underlying66 rfl rfl ti3 rfl rfl rfl ?_
        exact TOps.fd x rfl rfl
      · refine ⟨fun x S c he hw hd hc hcu hm _ => ?_, trivial⟩
        obtain ⟨h0, -⟩ := hd
        obtain rfl : c = 0 := by have : c ≤ 0 := hcu; omega
        refine TOps.load1 (v := natV r.ev) h0 ti3 (Rd.fld (Rd.all (List.Mem.head _)) 0 rfl) rfl ?_
        exact TOps.fd x rfl rfl
      · refine ⟨fun x S c he hw hd hc hcu hm _ => ?_, trivial⟩
        refine TOps.move (he _ _ rfl) rfl ?_
        exact TOps.fd x rfl rfl
      · refine ⟨fun x S c he hw hd hc hcu hm _ => ?_, trivial⟩
        obtain ⟨h2, -⟩ := hd
        refine TOps.shl (r := ((2 ^ a : Nat) : Int)) rfl h2 (by omega) (ishl_one (by omega)) rfl ?_
        exact TOps.fd x rfl rfl
      · refine ⟨fun x S c he hw hd hc hcu hm _ => ?_, trivial⟩
        obtain ⟨h1, h3, -⟩ := hd
        refine TOps.or (r := ((r.ev ||| 2 ^ a : Nat) : Int)) h1 h3 (ior_nat (by omega) (by omega)) rfl ?_
        exact TOps.fd x rfl rfl
      · refine ⟨fun x S c he hw hd hc hcu hm _ => ?_, trivial⟩
        obtain ⟨h0, h1, h2, h3, h4, -⟩ := hd
        refine TOps.field0 (he _ _ rfl) Tryz.underlying66 rfl rfl ti3 rfl rfl rfl ?_
        exact TOps.fd x rfl rfl
      · refine ⟨fun x S c he hw hd hc hcu hm _ => ?_, trivial⟩
        obtain ⟨h5, h4, h0, h1, h2, h3, _, -⟩ := hd
        obtain rfl : c = 0 := hm rfl
        refine TOps.store1 h5 h4 ti3 rfl rfl Upd.here (by simp [Rw.cells]) ?_
        exact TOps.fin (Nrm.draw x (fun _ _ _ => rfl) rfl (Le.rowEq rfl))
      ) (fun u0 => ?_)
    refine Nrm.next ?_
    refine Tri.seq (Tri.region ?_)
    refine TOps.loadN (vs := (r.addE a).cells) rfl ti66 (Rd.all (List.Mem.head _)) rfl rfl ?_
    refine TOps.storeN rfl rfl ti66 rfl rfl (by repeat (first | exact Upd.here | apply Upd.there)) (by first | decide | (simp; done) | (simp; omega)) ?_
    refine TOps.next ?_
    refine Tri.ret1 (v := .agg (List.toArray (r.addE a).cells)) (H' := H) Tryz.results44 (fun _ _ h => h) (.cellN rfl rfl ti66 (Rd.all (by repeat (first | exact List.Mem.head _ | apply List.Mem.tail))) rfl) (Le.drop (Le.drop l1)) ⟨by unfold Rw.arg; rw [if_pos hav], rfl⟩
  try simp only [decide_eq_true_eq, decide_eq_false_iff_not, Bool.and_eq_true, Bool.or_eq_true, Bool.not_eq_true', Bool.and_eq_false_iff, Bool.or_eq_false_iff, Bool.not_eq_false', Int.not_lt, Int.not_le, ne_eq, Decidable.not_not, Option.isSome_iff_ne_none, Option.isNone_iff_eq_none] at hc1
  have hav : ¬ a < v := by omega
  obtain ⟨i, hai⟩ : ∃ i, i = a - v := ⟨_, rfl⟩
  have hi : i < 128 := by omega
  have hword := hr.word (i := i)
  have hp : 2 ^ (i % 64) < 2 ^ 64 := Nat.pow_lt_pow_right (by decide) (by omega)
  refine Tri.fin ?_
  refine Nrm.next ?_
  refine Tri.seq (Tri.region ?_)
  refine TOps.move rfl rfl ?_
  refine TOps.field0 rfl Tryz.underlying24 rfl rfl ti3 rfl rfl rfl ?_
  refine TOps.load1 rfl ti3 (Rd.fld r4.up.up 0 rfl) rfl ?_
  refine TOps.sub (r := (i : Int)) rfl rfl (by rw [wrapI (by omega) (by omega)]; omega) rfl ?_
  refine TOps.assign rfl rfl ?_
  refine TOps.next ?_
  refine Tri.seq ?_
  have rw1 : ∀ K : List Ent, Rd (row (some b3) 66 3 1 (r.cells) :: K) b3 (1 + i / 64) [.int .u64 (r.word (i / 64))] := fun K => by have h := Rd.part (Rd.all (H := row (some b3) 66 3 1 (r.cells) :: K) (List.Mem.head _)) _ (r.word_at hi); rw [Nat.zero_add] at h; exact h
  refine Tri.drawX (X := Unit) rfl [(7, natV i), (3, .pointer (some ⟨b3, 0, none⟩)), (6, .pointer (some ⟨b6, 0, none⟩))] [] (fun x => [_, _, _, _, _, _, _, _, _, _, _, undef]) (fun x c => match c with | 0 => row (some b3) 66 3 1 (r.cells) :: row (some b6) 66 3 1 [.int .i64 0, .int .u64 0, .int .u64 0] :: H1 | _ + 1 => row (some b3) 66 3 1 ((r.addN i).cells) :: row (some b6) 66 3 1 [.int .i64 0, .int .u64 0, .int .u64 0] :: H1) [11] () [] rfl rfl ⟨rfl, rfl, rfl, trivial⟩ trivial (by repeat (first | exact Le.refl _ | assumption | apply Le.drop)) (by
    refine ⟨?_, ?_, ?_, ?_, ?_, ?_, ?_, ?_, ?_, ?_, ?_, ?_, trivial⟩
    · refine ⟨fun x S c he hw hd hc hcu hm _ => ?_, trivial⟩
      refine TOps.move (he _ _ rfl) rfl ?_
      exact TOps.fd x rfl rfl
    · refine ⟨fun x S c he hw hd hc hcu hm _ => ?_, trivial⟩
      obtain ⟨h0, -⟩ := hd
      refine TOps.quo (r := ((i / 64 : Nat) : Int)) h0 rfl (by decide) (by rw [show ((i : Int)).tdiv 64 = ((i / 64 : Nat) : Int) by rw [Int.tdiv_eq_ediv_of_nonneg (by omega)]; omega, wrapI (by omega) (by omega)]) rfl ?_
      exact TOps.fd x rfl rfl
    · refine ⟨fun x S c he hw hd hc hcu hm _ => ?_, trivial⟩
      first | refine TOps.fieldB 1 (he _ _ rfl) Tryz.underlying66 rfl rfl ti64 rfl rfl rfl ?_ | refine TOps.fieldN 1 (he _ _ rfl) Tryz.underlying66 rfl rfl ti64 rfl rfl rfl ?_
      exact TOps.fd x rfl rfl
    · refine ⟨fun x S c he hw hd hc hcu hm _ => ?_, trivial⟩
      obtain ⟨h2, h1, -⟩ := hd
      refine TOps.indexAddrA (off' := 1 + i / 64) h2 h1 Tryz.underlying64 ti63 (by omega) (by omega) (by rw [Int.toNat_natCast]; omega) rfl ?_
      exact TOps.fd x rfl rfl
    · refine ⟨fun x S c he hw hd hc hcu hm _ => ?_, trivial⟩
      obtain ⟨h3, -⟩ := hd
      obtain rfl : c = 0 := by have : c ≤ 0 := hcu; omega
      refine TOps.load1 h3 ti63 (rw1 _) rfl ?_
      exact TOps.fd x rfl rfl
    · refine ⟨fun x S c he hw hd hc hcu hm _ => ?_, trivial⟩
      refine TOps.move (he _ _ rfl) rfl ?_
      exact TOps.fd x rfl rfl
    · refine ⟨fun x S c he hw hd hc hcu hm _ => ?_, trivial⟩
      obtain ⟨h5, -⟩ := hd
      refine TOps.rem (r := ((i % 64 : Nat) : Int)) h5 rfl (by decide) (by rw [Int.tmod_eq_emod_of_nonneg (by omega)]; omega) rfl ?_
      exact TOps.fd x rfl rfl
    · refine ⟨fun x S c he hw hd hc hcu hm _ => ?_, trivial⟩
      obtain ⟨h6, -⟩ := hd
      refine TOps.shlU (r := ((2 ^ (i % 64) : Nat) : Int)) rfl h6 (by omega) (by rw [Int.toNat_natCast]; exact ushl_one (by omega)) rfl ?_
      exact TOps.fd x rfl rfl
    · refine ⟨fun x S c he hw hd hc hcu hm _ => ?_, trivial⟩
      obtain ⟨h4, h7, -⟩ := hd
      refine TOps.orU (r := ((r.word (i / 64) ||| 2 ^ (i % 64) : Nat) : Int)) h4 h7 (uor_nat hword hp) rfl ?_
      exact TOps.fd x rfl rfl
    · refine ⟨fun x S c he hw hd hc hcu hm _ => ?_, trivial⟩
      first | refine TOps.fieldB 1 (he _ _ rfl) Tryz.underlying66 rfl rfl ti64 rfl rfl rfl ?_ | refine TOps.fieldN 1 (he _ _ rfl) Tryz.underlying66 rfl rfl ti64 rfl rfl rfl ?_
      exact TOps.fd x rfl rfl
    · refine ⟨fun x S c he hw hd hc hcu hm _ => ?_, trivial⟩
      obtain ⟨h9, h1, h0, _, h2, h3, h4, h5, h6, h7, h8, -⟩ := hd
      refine TOps.indexAddrA (off' := 1 + i / 64) h9 h1 Tryz.underlying64 ti63 (by omega) (by omega) (by rw [Int.toNat_natCast]; omega) rfl ?_
      exact TOps.fd x rfl rfl
    · refine ⟨fun x S c he hw hd hc hcu hm _ => ?_, trivial⟩
      obtain ⟨h10, h8, h0, h1, h2, h3, h4, h5, h6, h7, _, -⟩ := hd
      obtain rfl : c = 0 := hm rfl
      refine TOps.store1 h10 h8 ti63 rfl rfl Upd.here (by simp [Rw.cells]; omega) ?_
      exact TOps.fin (Nrm.draw x (fun _ _ _ => rfl) rfl (Le.rowEq (r.set_addN hi)))
    ) (fun u0 => ?_)
  refine Nrm.next ?_
  refine Tri.seq (Tri.region ?_)
  refine TOps.loadN (vs := (r.addN i).cells) rfl ti66 (Rd.all (List.Mem.head _)) rfl rfl ?_
  refine TOps.storeN rfl rfl ti66 rfl rfl (by repeat (first | exact Upd.here | apply Upd.there)) (by first | decide | (simp; done) | (simp; omega)) ?_
  refine TOps.next ?_
  refine Tri.ret1 (v := .agg (List.toArray (r.addN i).cells)) (H' := H) Tryz.results44 (fun _ _ h => h) (.cellN rfl rfl ti66 (Rd.all (by repeat (first | exact List.Mem.head _ | apply List.Mem.tail))) rfl) (Le.drop (Le.drop l1)) ⟨by unfold Rw.arg; rw [if_neg hav, hai], rfl⟩
end Go.Proofs
namespace Go.Proofs
open Go.Shelf
def Tryz.len64_ren : Go.Shelf.Ren := ⟨fun | 129 => 66 | n => n, fun | 53 => 63 | 3 => 3 | 4 => 4 | 46 => 88 | 5 => 5 | 9 => 9 | n => n, fun | n => n⟩
theorem Tryz.len64 : Go.Proofs.Lays.n129 Tryz.prog Tryz.len64_ren := {
  mixed := by kernel_rfl
  f129 := Tryz.func66.trans (congrArg some (by kernel_rfl))
  t3 := Tryz.underlying3
  a3 := Tryz.isAgg3
  z3 := Tryz.sizeOf3
  v3 := Tryz.zeroValue3
  t4 := Tryz.underlying4
  a4 := Tryz.isAgg4
  z4 := Tryz.sizeOf4
  v4 := Tryz.zeroValue4
  t5 := Tryz.underlying5
  a5 := Tryz.isAgg5
  z5 := Tryz.sizeOf5
  v5 := Tryz.zeroValue5
  t9 := Tryz.underlying9
  a9 := Tryz.isAgg9
  z9 := Tryz.sizeOf9
  v9 := Tryz.zeroValue9
  t46 := Tryz.underlying88
  a46 := Tryz.isAgg88
  z46 := Tryz.sizeOf88
  v46 := Tryz.zeroValue88
  t53 := Tryz.underlying63
  a53 := Tryz.isAgg63
  z53 := Tryz.sizeOf63
  v53 := Tryz.zeroValue63 }
end Go.Proofs
namespace Go.Proofs
open Go.GL
set_option linter.unusedVariables false
set_option linter.unusedSimpArgs false
theorem len64_g {H : List Ent} {x : Nat} (hx : x < 2 ^ 64) : Gives Tryz.prog 66 [.int .u64 x] H (R1 (natV (Lib.bitLen x)) H) := fun w hM =>
  ((Any.bits_Len64 Tryz.len64 (x : Int) w (by omega) (by omega)).mono fun e w' h => ⟨_, H, ⟨rfl, rfl⟩, by rw [h.1, Int.toNat_natCast], by rw [h.2]; exact hM⟩)
end Go.Proofs
namespace Go.Proofs
open Go.GL
set_option linter.unusedVariables false
set_option linter.unusedSimpArgs false
theorem greatest_g {H : List Ent} {ob : Option Nat} {cap N v : Nat} {l : List Rw} (ha : l ≠ [] → ∃ b, ob = some b) (hl : l.length = N) (hN : N ≤ 1000000) (hf : ∀ r ∈ l, r.Fit v) :
    Gives Tryz.prog 45 [slV ob 0 N cap] (row ob 66 3 cap (rwV (l)) :: H) (R1 (.int .i64 ((topS l : Int) - 1)) (row ob 66 3 cap (rwV (l)) :: H)) := by
  refine Gives.enter Tryz.func45 rfl (by exact Tryz.ntmps45) rfl ?_
  refine Tri.seq (Tri.region ?_)
  refine TOps.assign rfl rfl ?_
  refine TOps.next ?_
  refine Tri.seq (Tri.region ?_)
  refine TOps.assign rfl rfl ?_
  refine TOps.next ?_
  refine Tri.seq ?_
  refine Tri.seq (Tri.region ?_)
  refine TOps.move rfl rfl ?_
  refine TOps.len rfl Tryz.underlying60 rfl ?_
  refine TOps.move rfl rfl ?_
  refine TOps.next ?_
  refine Tri.range (X := Unit) (fun x k => [(3, .int .i64 ((topS (l.take k) : Int) - 1)), (7, slV ob 0 N cap)]) (fun x k => row ob 66 3 cap (rwV (l)) :: H) (fun x k => True) (by omega) rfl rfl rfl (fun _ _ => ⟨rfl, rfl, rfl, rfl⟩) () trivial ⟨rfl, rfl, trivial⟩ (by repeat (first | exact Le.refl _ | assumption | apply Le.drop)) (fun k x hlt hp => ?_) (fun x ac wc hp hS hM => ?_)
  · skip
    have hkl : k < l.length := by omega
    obtain ⟨bb, rfl⟩ := ha (by intro h; rw [h] at hkl; exact absurd hkl (Nat.not_lt_zero k))
    have hfk : (gL l k).Fit v := by rw [gL_get hkl]; exact hf _ (List.getElem_mem hkl)
    have htk : topS (l.take k) ≤ 128 := by rcases Nat.eq_zero_or_pos (topS (l.take k)) with h | h; omega; obtain ⟨r, hr, he⟩ := topS_mem (l := l.take k) (by omega); rw [he]; exact Rw.top_le (hf r (List.mem_of_mem_take hr))
    refine Tri.seq (Tri.region ?_)
    refine TOps.indexAddr (b := bb) (off := 0) (m := N) (cap := cap) (off' := k * 3) rfl rfl Tryz.underlying60 ti66 (by omega) (by omega) (by simp) rfl ?_
    refine TOps.loadN (vs := (gL l k).cells) rfl ti66 (rwV_rd (List.Mem.head _) (by omega)) rfl rfl ?_
    refine TOps.alloc ti66 rfl (fun b5 => ?_)
    refine TOps.storeN rfl rfl ti66 rfl rfl (by repeat (first | exact Upd.here | apply Upd.there)) (by first | decide | (simp; done) | (simp; omega)) ?_
    refine TOps.le (H' := row (some b5) 66 3 1 (gL l k).cells :: row (some bb) 66 3 cap (rwV (l)) :: H) (Le.refl _) ?_
    refine TOps.next ?_
    refine Tri.seq (Tri.region ?_)
    refine TOps.assign rfl rfl ?_
    refine TOps.next ?_
    refine Tri.block ?_
    refine Tri.loop (X := Nat) (fun x => [(3, .int .i64 ((topS (l.take k) : Int) - 1)), (5, .pointer (some ⟨b5, 0, none⟩)), (6, .int .i64 ((x : Int) - 1)), (7, slV (some bb) 0 N cap), (8, .int .i64 N), (9, natV k)]) (fun x => row (some b5) 66 3 1 (gL l k).cells :: row (some bb) 66 3 cap (rwV (l)) :: H) (fun x => x ≤ 2 ∧ (x ≤ 1 → (gL l k).n1 = 0) ∧ (x = 0 → (gL l k).n0 = 0)) (fun x => x) 2 ⟨Nat.le_refl _, fun h => absurd h (by decide), fun h => absurd h (by decide)⟩ ⟨rfl, rfl, rfl, rfl, rfl, rfl, trivial⟩ (by repeat (first | exact Le.refl _ | assumption | apply Le.drop)) (fun x hp => ?_)
    obtain ⟨p1, p2, p3⟩ := hp
    refine Tri.seq ?_
    refine Tri.seq (Tri.region ?_)
    refine TOps.move rfl rfl ?_
    refine TOps.geq rfl rfl rfl ?_
    refine TOps.next ?_
    refine Tri.cond rfl (fun hc1 => ?_) (fun hc1 => ?_)
    · try simp only [decide_eq_true_eq, decide_eq_false_iff_not, Bool.and_eq_true, Bool.or_eq_true, Bool.not_eq_true', Bool.and_eq_false_iff, Bool.or_eq_false_iff, Bool.not_eq_false', Int.not_lt, Int.not_le, ne_eq, Decidable.not_not, Option.isSome_iff_ne_none, Option.isNone_iff_eq_none] at hc1
      obtain ⟨j, rfl⟩ : ∃ j, x = j + 1 := ⟨x - 1, by omega⟩
      have hj : j = 0 ∨ j = 1 := by omega
      have hwd : (gL l k).cells[1 + j]? = some (.int .u64 ((gL l k).word j)) := by rcases hj with rfl | rfl; rfl; rfl
      have hwl : (gL l k).word j < 2 ^ 64 := by rcases hj with rfl | rfl; exact hfk.a; exact hfk.b
      have rw5 : Rd (row (some b5) 66 3 1 (gL l k).cells :: row (some bb) 66 3 cap (rwV (l)) :: H) b5 (1 + j) [.int .u64 ((gL l k).word j)] := by have h := Rd.part (Rd.all (H := row (some b5) 66 3 1 (gL l k).cells :: row (some bb) 66 3 cap (rwV (l)) :: H) (List.Mem.head _)) _ hwd; rw [Nat.zero_add] at h; exact h
      refine Tri.fin ?_
      refine Nrm.next ?_
      refine Tri.seq ?_
      refine Tri.block ?_
      refine Tri.seq (Tri.region ?_)
      refine TOps.move rfl rfl ?_
      first | refine TOps.fieldB 1 rfl Tryz.underlying66 rfl rfl ti64 rfl rfl rfl ?_ | refine TOps.fieldN 1 rfl Tryz.underlying66 rfl rfl ti64 rfl rfl rfl ?_
      refine TOps.indexAddrA (off' := 1 + j) rfl (by show some (Value.int .i64 (((j + 1 : Nat) : Int) - 1)) = some (.int .i64 (j : Int)); congr 2; omega) Tryz.underlying64 ti63 (by omega) (by omega) (by rw [Int.toNat_natCast]; omega) rfl ?_
      refine TOps.load1 rfl ti63 rw5 rfl ?_
      refine TOps.neqI rfl rfl rfl ?_
      refine TOps.next ?_
      refine Tri.cond rfl (fun hc2 => ?_) (fun hc2 => ?_)
      · try simp only [decide_eq_true_eq, decide_eq_false_iff_not, Bool.and_eq_true, Bool.or_eq_true, Bool.not_eq_true', Bool.and_eq_false_iff, Bool.or_eq_false_iff, Bool.not_eq_false', Int.not_lt, Int.not_le, ne_eq, Decidable.not_not, Option.isSome_iff_ne_none, Option.isNone_iff_eq_none] at hc2
        refine Tri.seq (Tri.region ?_)
        refine TOps.move rfl rfl ?_
        refine TOps.move rfl rfl ?_
        refine TOps.mul (r := ((64 * j : Nat) : Int)) rfl rfl (by rw [wrapI (by omega) (by omega)]; omega) rfl ?_
        refine TOps.move rfl rfl ?_
        first | refine TOps.fieldB 1 rfl Tryz.underlying66 rfl rfl ti64 rfl rfl rfl ?_ | refine TOps.fieldN 1 rfl Tryz.underlying66 rfl rfl ti64 rfl rfl rfl ?_
        refine TOps.indexAddrA (off' := 1 + j) rfl (by show some (Value.int .i64 (((j + 1 : Nat) : Int) - 1)) = some (.int .i64 (j : Int)); congr 2; omega) Tryz.underlying64 ti63 (by omega) (by omega) (by rw [Int.toNat_natCast]; omega) rfl ?_
        refine TOps.load1 rfl ti63 rw5 rfl ?_
        refine TOps.call (vs := [_]) Tryz.call66 ⟨rfl, trivial⟩ (len64_g hwl) rfl ?_
        rintro _ _ ⟨rfl, rfl⟩
        have hwz : (gL l k).word j ≠ 0 := by omega
        have hbl := bitLen_top hwl hwz
        refine TOps.add (r := ((64 * j + Lib.bitLen ((gL l k).word j) : Nat) : Int)) rfl rfl (by rw [wrapI (by omega) (by omega)]; omega) rfl ?_
        refine TOps.sub (r := ((64 * j + Lib.bitLen ((gL l k).word j) : Nat) : Int) - 1) rfl rfl (by rw [wrapI (by omega) (by omega)]) rfl ?_
        refine TOps.max2 rfl rfl rfl ?_
        rw [show (if (((64 * j + Lib.bitLen ((gL l k).word j) : Nat) : Int) - 1) > ((topS (l.take k) : Int) - 1) then (((64 * j + Lib.bitLen ((gL l k).word j) : Nat) : Int) - 1) else ((topS (l.take k) : Int) - 1)) = ((topS (l.take (k + 1)) : Nat) : Int) - 1 by rcases hj with rfl | rfl; (rw [topS_two hkl (p2 (by omega)) hwz]; show _ = ((max _ (Lib.bitLen ((gL l k).word 0)) : Nat) : Int) - 1; split <;> omega); (rw [topS_one hkl hwz]; show _ = ((max _ (64 + Lib.bitLen ((gL l k).word 1)) : Nat) : Int) - 1; split <;> omega)]
        refine TOps.assign rfl rfl ?_
        refine TOps.next ?_
        try (rw [topS_none hkl (p2 (by omega)) (p3 (by omega))])
        first | refine Tri.exitW ?_ | (refine Tri.exitTo ?_; repeat (with_reducible first | refine ExitTo.blk ?_ | refine ExitTo.blkNe rfl ?_ | refine ExitTo.body ?_ | refine ExitTo.brk rfl ?_ | refine ExitTo.bodyNe rfl rfl ?_ | refine ExitTo.seq ?_ | refine ExitTo.loop ?_))
        refine Nrm.body () trivial ⟨rfl, rfl, rfl, rfl, trivial⟩ (by repeat (first | exact Le.refl _ | assumption | apply Le.drop))
      try simp only [decide_eq_true_eq, decide_eq_false_iff_not, Bool.and_eq_true, Bool.or_eq_true, Bool.not_eq_true', Bool.and_eq_false_iff, Bool.or_eq_false_iff, Bool.not_eq_false', Int.not_lt, Int.not_le, ne_eq, Decidable.not_not, Option.isSome_iff_ne_none, Option.isNone_iff_eq_none] at hc2
      refine Tri.fin ?_
      refine Nrm.unB ?_
      refine Nrm.next ?_
      refine Tri.region ?_
      refine TOps.move rfl rfl ?_
      refine TOps.sub (r := (j : Int) - 1) rfl rfl (by rw [wrapI (by omega) (by omega)]; omega) rfl ?_
      refine TOps.assign rfl rfl ?_
      refine TOps.fin ?_
      have hnext : j ≤ 2 ∧ (j ≤ 1 → (gL l k).n1 = 0) ∧ (j = 0 → (gL l k).n0 = 0) := by rcases hj with rfl | rfl; exact ⟨by omega, fun _ => p2 (by omega), fun _ => by simpa [Rw.word] using hc2⟩; exact ⟨by omega, fun _ => by simpa [Rw.word] using hc2, fun h => absurd h (by decide)⟩
      refine Nrm.loop j hnext (by omega) ⟨rfl, rfl, rfl, rfl, rfl, rfl, trivial⟩ (by repeat (first | exact Le.refl _ | assumption | apply Le.drop))
    try simp only [decide_eq_true_eq, decide_eq_false_iff_not, Bool.and_eq_true, Bool.or_eq_true, Bool.not_eq_true', Bool.and_eq_false_iff, Bool.or_eq_false_iff, Bool.not_eq_false', Int.not_lt, Int.not_le, ne_eq, Decidable.not_not, Option.isSome_iff_ne_none, Option.isNone_iff_eq_none] at hc1
    try (rw [topS_none hkl (p2 (by omega)) (p3 (by omega))])
    first | refine Tri.exitW ?_ | (refine Tri.exitTo ?_; repeat (with_reducible first | refine ExitTo.blk ?_ | refine ExitTo.blkNe rfl ?_ | refine ExitTo.body ?_ | refine ExitTo.brk rfl ?_ | refine ExitTo.bodyNe rfl rfl ?_ | refine ExitTo.seq ?_ | refine ExitTo.loop ?_))
    refine Nrm.body () trivial ⟨rfl, rfl, rfl, rfl, trivial⟩ (by repeat (first | exact Le.refl _ | assumption | apply Le.drop))
  refine Nrm.of hS hM ?_
  refine Nrm.next ?_
  refine Tri.seq (Tri.region ?_)
  refine TOps.move rfl rfl ?_
  refine TOps.assign rfl rfl ?_
  refine TOps.next ?_
  refine Tri.ret1 (H' := row ob 66 3 cap (rwV (l)) :: H) Tryz.results45 (fun _ _ h => h) (.tmp rfl) (Le.refl _) ⟨by rw [← hl, List.take_length], rfl⟩
end Go.Proofs
namespace Go.Proofs
open Go.GL
set_option linter.unusedVariables false
set_option linter.unusedSimpArgs false
def addL (z : List Rw) (r : Rw) : List Rw := if z.length ≤ 4096 then z ++ [r] else z
theorem add_g {H : List Ent} {bl : Nat} {la : Option Nat} {lc : Nat} {z : List Rw} {r : Rw} (hz : z.length ≤ 4097) (hla : z ≠ [] → ∃ b, la = some b) :
    Gives Tryz.prog 48 [.pointer (some ⟨bl, 0, none⟩), .agg (List.toArray r.cells)] (row (some bl) 82 1 1 [slV la 0 (z).length lc] :: row la 66 3 lc (rwV (z)) :: H) (fun u H' => u = .tuple (List.toArray []) ∧ ∃ la' lc', (addL z r ≠ [] → ∃ b, la' = some b) ∧ row (some bl) 82 1 1 [slV la' 0 (addL z r).length lc'] :: row la' 66 3 lc' (rwV (addL z r)) :: H = H') := by
  have hrl := rwV_length z
  refine Gives.enter Tryz.func48 rfl (by exact Tryz.ntmps48) rfl ?_
  refine Tri.seq (Tri.region ?_)
  refine TOps.boxN rfl ti66 rfl rfl (fun b3 => ?_)
  refine TOps.le (H' := row (some b3) 66 3 1 r.cells :: row (some bl) 82 1 1 [slV la 0 (z).length lc] :: row la 66 3 lc (rwV (z)) :: H) (Le.refl _) ?_
  refine TOps.next ?_
  refine Tri.seq (Tri.region ?_)
  refine TOps.move rfl rfl ?_
  refine TOps.nilCheck rfl rfl ?_
  refine TOps.load1 (v := slV la 0 z.length lc) rfl ti82 (Rd.lit (List.Mem.tail _ (List.Mem.head _)) rfl) rfl ?_
  refine TOps.len rfl Tryz.underlying82 rfl ?_
  refine TOps.leq rfl rfl rfl ?_
  refine TOps.next ?_
  refine Tri.cond rfl (fun hc1 => ?_) (fun hc1 => ?_)
  · try simp only [decide_eq_true_eq, decide_eq_false_iff_not, Bool.and_eq_true, Bool.or_eq_true, Bool.not_eq_true', Bool.and_eq_false_iff, Bool.or_eq_false_iff, Bool.not_eq_false', Int.not_lt, Int.not_le, ne_eq, Decidable.not_not, Option.isSome_iff_ne_none, Option.isNone_iff_eq_none] at hc1
    have hzz : z.length ≤ 4096 := by omega
    have hz1 : addL z r = z ++ [r] := if_pos hzz
    have hz2 : (addL z r).length = z.length + 1 := by rw [hz1]; simp
    have hz3 : rwV z ++ r.cells = rwV (addL z r) := by rw [hz1, rwV_append]; rfl
    refine Tri.drawX (X := Nat × Nat × Nat) rfl [(0, .pointer (some ⟨bl, 0, none⟩)), (3, .pointer (some ⟨b3, 0, none⟩))] [] (fun x => [_, _, _, slV la 0 z.length lc, _, slV (some x.1) 0 1 1, slV (some x.2.1) 0 (z.length + 1) x.2.2, _, undef]) (fun x c => match c with | 0 => row (some b3) 66 3 1 r.cells :: row (some bl) 82 1 1 [slV la 0 (z).length lc] :: row la 66 3 lc (rwV (z)) :: H | 1 => row (some x.1) 66 3 1 r.cells :: row (some b3) 66 3 1 r.cells :: row (some bl) 82 1 1 [slV la 0 (z).length lc] :: row la 66 3 lc (rwV (z)) :: H | 2 => row (some b3) 66 3 1 r.cells :: row (some bl) 82 1 1 [slV la 0 (z).length lc] :: row (some x.2.1) 66 3 x.2.2 (rwV (addL z r)) :: H | _ + 3 => row (some b3) 66 3 1 r.cells :: row (some bl) 82 1 1 [slV (some x.2.1) 0 (z.length + 1) x.2.2] :: row (some x.2.1) 66 3 x.2.2 (rwV (addL z r)) :: H) [5, 6, 8] (0, 0, 0) [] rfl rfl ⟨rfl, rfl, trivial⟩ trivial (by repeat (first | exact Le.refl _ | assumption | apply Le.drop)) (by
      refine ⟨?_, ?_, ?_, ?_, ?_, ?_, ?_, ?_, ?_, trivial⟩
      · refine ⟨fun x S c he hw hd hc hcu hm _ => ?_, trivial⟩
        refine TOps.move (he _ _ rfl) rfl ?_
        exact TOps.fd x rfl rfl
      · refine ⟨fun x S c he hw hd hc hcu hm _ => ?_, trivial⟩
        refine TOps.move (he _ _ rfl) rfl ?_
        exact TOps.fd x rfl rfl
      · refine ⟨fun x S c he hw hd hc hcu hm _ => ?_, trivial⟩
        obtain ⟨h1, -⟩ := hd
        refine TOps.nilCheck h1 rfl ?_
        exact TOps.fd x rfl rfl
      · refine ⟨fun x S c he hw hd hc hcu hm _ => ?_, trivial⟩
        obtain ⟨h2, -⟩ := hd
        rcases (show c = 0 ∨ c = 1 by have : c ≤ 1 := hcu; omega) with rfl | rfl
        · exact (TOps.load1 (v := slV la 0 z.length lc) h2 ti82 (Rd.lit (List.Mem.tail _ (List.Mem.head _)) rfl) rfl (TOps.fin (Nrm.draw x (fun _ _ _ => rfl) rfl (Le.refl _))))
        · exact (TOps.load1 (v := slV la 0 z.length lc) h2 ti82 (Rd.lit (List.Mem.tail _ (List.Mem.tail _ (List.Mem.head _))) rfl) rfl (TOps.fin (Nrm.draw x (fun _ _ _ => rfl) rfl (Le.refl _))))
        skip
      · refine ⟨fun x S c he hw hd hc hcu hm _ => ?_, trivial⟩
        obtain rfl : c = 0 := by have : c ≤ 0 := hcu; omega
        refine TOps.loadN (vs := r.cells) (he _ _ rfl) ti66 (Rd.all (List.Mem.head _)) rfl rfl ?_
        exact TOps.fd x rfl rfl
      · refine ⟨fun x S c he hw hd hc hcu hm _ => ?_, trivial⟩
        obtain ⟨h4, -⟩ := hd
        obtain rfl : c = 0 := hm rfl
        refine TOps.buildSlice (vs := [_]) (xs := [_, _, _]) Tryz.underlying82 ti66 ⟨rfl, h4, trivial⟩ rfl rfl rfl rfl rfl rfl (by decide) rfl (fun b14 => ?_)
        refine TOps.fin (Nrm.draw (b14, x.2) ?_ rfl (Le.refl _))
        intro j hj hcj; rcases j with _|_|_|_|_|_|_|_|_|j <;> first | rfl | exact absurd rfl hj | exact absurd hcj (by decide)
      · refine ⟨fun x S c he hw hd hc hcu hm _ => ?_, trivial⟩
        obtain ⟨h3, h5, -⟩ := hd
        obtain rfl : c = 1 := hm rfl
        refine TOps.appendLit h3 h5 Tryz.underlying82 ti66 rfl (fun _ _ => (by repeat (first | exact Upd.here | apply Upd.there))) rfl (by rw [hrl]; omega) rfl (by omega) (by omega) (by simp [Rw.cells]) rfl (fun b15 c15 => ?_)
        refine TOps.fin (Nrm.draw (x.1, b15, c15) ?_ rfl ?_)
        intro j hj hcj; rcases j with _|_|_|_|_|_|_|_|_|j <;> first | rfl | exact absurd rfl hj | exact absurd hcj (by decide)
        rw [hz3]
        exact (Sp.le (by repeat (first | exact Sp.refl _ | exact Sp.sub (by assumption) | refine Sp.cons (by repeat (first | exact Pick.here | apply Pick.there)) ?_ | exact Sp.nil | apply Sp.skip)))
      · refine ⟨fun x S c he hw hd hc hcu hm _ => ?_, trivial⟩
        obtain ⟨h0, _, h1, h2, h3, h4, h5, h6, -⟩ := hd
        refine TOps.nilCheck h0 rfl ?_
        exact TOps.fd x rfl rfl
      · refine ⟨fun x S c he hw hd hc hcu hm _ => ?_, trivial⟩
        obtain ⟨h7, h6, _, h0, h1, h2, h3, h4, h5, _, -⟩ := hd
        obtain rfl : c = 2 := hm rfl
        refine TOps.store1 (b := bl) h7 h6 ti82 rfl rfl (Upd.there Upd.here) (by simp) ?_
        exact TOps.fin (Nrm.draw x (fun _ _ _ => rfl) rfl (Le.refl _))
      ) (fun w => ?_)
    first | exact Nrm.ret0 (H' := row (some bl) 82 1 1 [slV (some w.2.1) 0 (addL z r).length w.2.2] :: row (some w.2.1) 66 3 w.2.2 (rwV (addL z r)) :: H) Tryz.results48 (by rw [hz2]; exact Le.drop (Le.refl _)) ⟨rfl, some w.2.1, w.2.2, fun _ => ⟨_, rfl⟩, rfl⟩ | exact Nrm.ret0 (H' := row (some bl) 82 1 1 [slV la 0 (z).length lc] :: row la 66 3 lc (rwV (z)) :: H) Tryz.results48 (Le.drop (Le.refl _)) ⟨rfl, la, lc, by rw [show addL z r = z from if_neg (by omega)]; exact hla, by rw [show addL z r = z from if_neg (by omega)]⟩
  try simp only [decide_eq_true_eq, decide_eq_false_iff_not, Bool.and_eq_true, Bool.or_eq_true, Bool.not_eq_true', Bool.and_eq_false_iff, Bool.or_eq_false_iff, Bool.not_eq_false', Int.not_lt, Int.not_le, ne_eq, Decidable.not_not, Option.isSome_iff_ne_none, Option.isNone_iff_eq_none] at hc1
  refine Tri.fin ?_
  first | exact Nrm.ret0 (H' := row (some bl) 82 1 1 [slV (some w.2.1) 0 (addL z r).length w.2.2] :: row (some w.2.1) 66 3 w.2.2 (rwV (addL z r)) :: H) Tryz.results48 (by rw [hz2]; exact Le.drop (Le.refl _)) ⟨rfl, some w.2.1, w.2.2, fun _ => ⟨_, rfl⟩, rfl⟩ | exact Nrm.ret0 (H' := row (some bl) 82 1 1 [slV la 0 (z).length lc] :: row la 66 3 lc (rwV (z)) :: H) Tryz.results48 (Le.drop (Le.refl _)) ⟨rfl, la, lc, by rw [show addL z r = z from if_neg (by omega)]; exact hla, by rw [show addL z r = z from if_neg (by omega)]⟩
end Go.Proofs
namespace Go.Proofs
open Go.GL
set_option linter.unusedVariables false
set_option linter.unusedSimpArgs false
def cntT (T : Nat → Bool) (l : List Nat) : Nat := (l.filter T).length
theorem cntT_cons (T : Nat → Bool) (a : Nat) (l : List Nat) : cntT T (a :: l) = cntT T l + (bif T a then 1 else 0) := by
  unfold cntT
  rw [List.filter_cons]
  cases T a <;> rfl
theorem cntT_le (T : Nat → Bool) (l : List Nat) : cntT T l ≤ l.length := List.length_filter_le _ _
theorem choose_law {v a k : Nat} {r : Rw} {rest : List Nat} {z z2 z3 : List Rw} (h1 : NewR v z z2 (2 ^ rest.length) (fun i => (r.arg v a).has i = true ∨ v + i ∈ rest) (fun T => (r.arg v a).holds v T ∧ k - 1 ≤ cntT T rest)) (h2 : NewR v z2 z3 (2 ^ rest.length) (fun i => r.has i = true ∨ v + i ∈ rest) (fun T => r.holds v T ∧ k ≤ cntT T rest)) (ha : a < v + 128) (hk : 1 ≤ k) :
    NewR v z z3 (2 ^ (a :: rest).length) (fun i => r.has i = true ∨ v + i ∈ a :: rest) (fun T => r.holds v T ∧ k ≤ cntT T (a :: rest)) := by
  refine NewR.comp (B1 := fun i => i < 128 ∧ (r.has i = true ∨ v + i ∈ a :: rest)) (B2 := fun i => r.has i = true ∨ v + i ∈ a :: rest) ⟨h1.lo, h1.hi, h1.sz, fun h => ?_⟩ ⟨h2.lo, h2.hi, h2.sz, fun h => ?_⟩ (by rw [List.length_cons, Nat.pow_succ]; omega) (fun i h => h.2) (fun i h => h) (Q1 := fun T => (r.arg v a).holds v T ∧ k - 1 ≤ cntT T rest) (Q2 := fun T => r.holds v T ∧ k ≤ cntT T rest) (fun T => ?_)
  · obtain ⟨ns, e1, e2, e3⟩ := h1.ns h
    refine ⟨ns, e1, fun q hq => ⟨(e2 q hq).1, fun i hi hb => ⟨hi, ?_⟩⟩, e3⟩
    rcases (e2 q hq).2 i hi hb with h3 | h3
    · rcases Rw.arg_has ha hi h3 with h4 | h4
      · exact .inl h4
      · exact .inr (by rw [← h4]; exact List.mem_cons_self)
    · exact .inr (List.mem_cons_of_mem _ h3)
  · obtain ⟨ns, e1, e2, e3⟩ := h2.ns h
    refine ⟨ns, e1, fun q hq => ⟨(e2 q hq).1, fun i hi hb => ?_⟩, e3⟩
    rcases (e2 q hq).2 i hi hb with h3 | h3
    · exact .inl h3
    · exact .inr (List.mem_cons_of_mem _ h3)
  · rw [cntT_cons, Rw.holds_arg ha]
    cases hT : T a with
    | true =>
      simp only [cond_true, and_true]
      exact ⟨fun h => .inl ⟨h.1, by omega⟩, fun h => by rcases h with h | h; exact ⟨h.1, by omega⟩; exact ⟨h.1, by omega⟩⟩
    | false =>
      simp only [cond_false, Nat.add_zero, Bool.false_eq_true, and_false, false_and, false_or]
set_option maxHeartbeats 1000000 in
theorem choose_g {bl v : Nat} {nv tv : Value} (hv : v ≤ 24) : ∀ (ax : List Nat) {H : List Ent} {aa sp la : Option Nat} {ao ac lc k : Nat} {z : List Rw} {r : Rw}, RdS H aa ao (nats ax) sp → ax.length ≤ ac → ax.length ≤ 1000 → (∀ a ∈ ax, a < v + 128) → r.Fit v → z.length ≤ 4097 → k ≤ 1000000 → (z ≠ [] → ∃ b, la = some b) →
    Gives Tryz.prog 68 [.pointer (some ⟨bl, 0, none⟩), .agg (List.toArray [natV v, nv, tv]), .agg (List.toArray r.cells), slV aa ao ax.length ac sp, natV k] (row (some bl) 82 1 1 [slV la 0 (z).length lc] :: row la 66 3 lc (rwV (z)) :: H) (fun u H' => u = .tuple (List.toArray []) ∧ ∃ la' lc' z', (z' ≠ [] → ∃ b, la' = some b) ∧ NewR v z z' (2 ^ ax.length) (fun i => r.has i = true ∨ v + i ∈ ax) (fun T => r.holds v T ∧ k ≤ cntT T ax) ∧ row (some bl) 82 1 1 [slV la' 0 (z').length lc'] :: row la' 66 3 lc' (rwV (z')) :: H = H') := by
  suffices hK : ∀ (K : Nat) (ax : List Nat), ax.length < K → ∀ {H : List Ent} {aa sp la : Option Nat} {ao ac lc k : Nat} {z : List Rw} {r : Rw}, RdS H aa ao (nats ax) sp → ax.length ≤ ac → ax.length ≤ 1000 → (∀ a ∈ ax, a < v + 128) → r.Fit v → z.length ≤ 4097 → k ≤ 1000000 → (z ≠ [] → ∃ b, la = some b) →
      Gives Tryz.prog 68 [.pointer (some ⟨bl, 0, none⟩), .agg (List.toArray [natV v, nv, tv]), .agg (List.toArray r.cells), slV aa ao ax.length ac sp, natV k] (row (some bl) 82 1 1 [slV la 0 (z).length lc] :: row la 66 3 lc (rwV (z)) :: H) (fun u H' => u = .tuple (List.toArray []) ∧ ∃ la' lc' z', (z' ≠ [] → ∃ b, la' = some b) ∧ NewR v z z' (2 ^ ax.length) (fun i => r.has i = true ∨ v + i ∈ ax) (fun T => r.holds v T ∧ k ≤ cntT T ax) ∧ row (some bl) 82 1 1 [slV la' 0 (z').length lc'] :: row la' 66 3 lc' (rwV (z')) :: H = H') from fun ax => hK (ax.length + 1) ax (Nat.lt_succ_self _)
  intro K
  induction K with
  | zero => intro ax h; omega
  | succ K ih =>
  intro ax hKl H aa sp la ao ac lc k z r hr hac hal has hf hz hk hla
  refine Gives.enter Tryz.func68 rfl (by exact Tryz.ntmps68) rfl ?_
  refine Tri.seq (Tri.region ?_)
  refine TOps.boxN rfl ti24 rfl rfl (fun b6 => ?_)
  refine TOps.boxN rfl ti66 rfl rfl (fun b7 => ?_)
  refine TOps.le (H' := row (some bl) 82 1 1 [slV la 0 (z).length lc] :: row la 66 3 lc (rwV (z)) :: row (some b7) 66 3 1 r.cells :: row (some b6) 24 3 1 [natV v, nv, tv] :: H) (Sp.le (by repeat (first | exact Sp.refl _ | exact Sp.sub (by assumption) | refine Sp.cons (by repeat (first | exact Pick.here | apply Pick.there)) ?_ | exact Sp.nil | apply Sp.skip))) ?_
  refine TOps.next ?_
  refine Tri.seq ?_
  refine Tri.seq (Tri.region ?_)
  refine TOps.move rfl rfl ?_
  refine TOps.nilCheck rfl rfl ?_
  refine TOps.load1 (v := slV la 0 z.length lc) rfl ti82 (Rd.lit (List.Mem.head _) rfl) rfl ?_
  refine TOps.len rfl Tryz.underlying82 rfl ?_
  refine TOps.gtr rfl rfl rfl ?_
  refine TOps.move rfl rfl ?_
  refine' TOps.orB 4 rfl rfl rfl rfl (fun hg1_5 => ?_) ?_; rotate_left
  · have hg1_5' := hg1_5
    try simp only [decide_eq_true_eq, decide_eq_false_iff_not, Bool.and_eq_true, Bool.or_eq_true, Bool.not_eq_true', Bool.and_eq_false_iff, Bool.or_eq_false_iff, Bool.not_eq_false', Int.not_lt, Int.not_le, ne_eq, Decidable.not_not] at hg1_5'
    refine TOps.strip 5 false rfl rfl hg1_5 rfl ?_
    refine TOps.move rfl rfl ?_
    refine TOps.move rfl rfl ?_
    refine TOps.len rfl Tryz.underlying35 rfl ?_
    refine TOps.gtr rfl rfl rfl ?_
    refine TOps.blk rfl (by repeat (first | exact Ext.refl _ | refine Ext.cons rfl ?_)) (by repeat (first | exact Le.refl _ | apply Le.drop))
  refine TOps.next ?_
  refine Tri.cond rfl (fun hc1 => ?_) (fun hc1 => ?_)
  · try simp only [decide_eq_true_eq, decide_eq_false_iff_not, Bool.and_eq_true, Bool.or_eq_true, Bool.not_eq_true', Bool.and_eq_false_iff, Bool.or_eq_false_iff, Bool.not_eq_false', Int.not_lt, Int.not_le, ne_eq, Decidable.not_not, Option.isSome_iff_ne_none, Option.isNone_iff_eq_none] at hc1
    refine Tri.ret0 (H' := row (some bl) 82 1 1 [slV la 0 (z).length lc] :: row la 66 3 lc (rwV (z)) :: H) Tryz.results68 (fun _ _ h => h) (Sp.le (by repeat (first | exact Sp.refl _ | exact Sp.sub (by assumption) | refine Sp.cons (by repeat (first | exact Pick.here | apply Pick.there)) ?_ | exact Sp.nil | apply Sp.skip))) ⟨rfl, la, lc, z, hla, ?_, rfl⟩
    rcases hc1 with hx | hx
    · exact NewR.full (by omega)
    · exact NewR.none hz (fun T hT => by have := cntT_le T ax; omega)
  try simp only [decide_eq_true_eq, decide_eq_false_iff_not, Bool.and_eq_true, Bool.or_eq_true, Bool.not_eq_true', Bool.and_eq_false_iff, Bool.or_eq_false_iff, Bool.not_eq_false', Int.not_lt, Int.not_le, ne_eq, Decidable.not_not, Option.isSome_iff_ne_none, Option.isNone_iff_eq_none] at hc1
  refine Tri.fin ?_
  refine Nrm.next ?_
  refine Tri.seq ?_
  refine Tri.seq (Tri.region ?_)
  refine TOps.move rfl rfl ?_
  refine TOps.eqlI rfl rfl rfl ?_
  refine TOps.next ?_
  refine Tri.cond rfl (fun hc2 => ?_) (fun hc2 => ?_)
  · try simp only [decide_eq_true_eq, decide_eq_false_iff_not, Bool.and_eq_true, Bool.or_eq_true, Bool.not_eq_true', Bool.and_eq_false_iff, Bool.or_eq_false_iff, Bool.not_eq_false', Int.not_lt, Int.not_le, ne_eq, Decidable.not_not, Option.isSome_iff_ne_none, Option.isNone_iff_eq_none] at hc2
    refine Tri.seq (Tri.region ?_)
    refine TOps.move rfl rfl ?_
    refine TOps.loadN (vs := r.cells) rfl ti66 (Rd.all (by repeat (first | exact List.Mem.head _ | apply List.Mem.tail))) rfl rfl ?_
    refine TOps.call (vs := [_, _]) Tryz.call48 ⟨rfl, rfl, trivial⟩ (add_g hz hla) rfl ?_
    rintro _ _ ⟨rfl, la2, lc2, hla2, rfl⟩
    refine TOps.next ?_
    refine Tri.ret0 (H' := row (some bl) 82 1 1 [slV la2 0 (addL z r).length lc2] :: row la2 66 3 lc2 (rwV (addL z r)) :: H) Tryz.results68 (fun _ _ h => h) (Sp.le (by repeat (first | exact Sp.refl _ | exact Sp.sub (by assumption) | refine Sp.cons (by repeat (first | exact Pick.here | apply Pick.there)) ?_ | exact Sp.nil | apply Sp.skip))) ⟨rfl, la2, lc2, addL z r, hla2, ?_, rfl⟩
    have h1 := NewR.one (v := v) (z := z) (z' := addL z r) (B := fun i => r.has i = true ∨ v + i ∈ ax) (Q := fun T => r.holds v T ∧ k ≤ cntT T ax) hz hf (fun i _ h => .inl h) (fun T => ⟨fun h => h.1, fun h => ⟨h, by omega⟩⟩) rfl
    exact ⟨h1.lo, h1.hi, Nat.le_trans h1.sz (by have := Nat.two_pow_pos ax.length; omega), h1.ns⟩
  try simp only [decide_eq_true_eq, decide_eq_false_iff_not, Bool.and_eq_true, Bool.or_eq_true, Bool.not_eq_true', Bool.and_eq_false_iff, Bool.or_eq_false_iff, Bool.not_eq_false', Int.not_lt, Int.not_le, ne_eq, Decidable.not_not, Option.isSome_iff_ne_none, Option.isNone_iff_eq_none] at hc2
  obtain ⟨a, rest, rfl⟩ := List.exists_cons_of_length_pos (l := ax) (by omega)
  have hlen : (a :: rest).length = rest.length + 1 := rfl
  obtain ⟨ab, haa, hsp, hr0⟩ := hr.at (i := 0) (by simp)
  subst haa hsp
  have hra : Rd H ab ao [natV a] := hr0
  have hav : a < v + 128 := has a List.mem_cons_self
  obtain ⟨ao2, hao2⟩ : ∃ o, o = (bif ac == 1 then ao else ao + 1 * 1) := ⟨_, rfl⟩
  have hrr : RdS H (some ab) ao2 (nats rest) none := by rcases Nat.eq_zero_or_pos rest.length with hz0 | hp0; (rw [List.eq_nil_of_length_eq_zero hz0]; exact .inl rfl); (rw [hao2, show (ac == 1) = false from beq_eq_false_iff_ne.2 (by omega)]; exact RdS.drop hr 1)
  have lHB : ∀ e1 e2 : Ent, Le (e1 :: e2 :: row (some b7) 66 3 1 r.cells :: row (some b6) 24 3 1 [natV v, nv, tv] :: H) (row (some b7) 66 3 1 r.cells :: row (some b6) 24 3 1 [natV v, nv, tv] :: H) := fun e1 e2 => Le.drop (Le.drop (Le.refl _))
  refine Tri.fin ?_
  refine Nrm.next ?_
  refine Tri.seq ?_
  refine Tri.drawX (X := Option Nat × Nat × List Rw) rfl [(0, .pointer (some ⟨bl, 0, none⟩)), (3, slV (some ab) ao (rest.length + 1) ac), (4, natV k), (6, .pointer (some ⟨b6, 0, none⟩)), (7, .pointer (some ⟨b7, 0, none⟩))] [] (fun x => [_, _, _, _, _, _, natV a, .agg (List.toArray (r.arg v a).cells), _, slV (some ab) ao2 rest.length (ac - 1), _, natV (k - 1), .tuple (List.toArray [])]) (fun x c => match c with | 0 => row (some bl) 82 1 1 [slV la 0 (z).length lc] :: row la 66 3 lc (rwV (z)) :: row (some b7) 66 3 1 r.cells :: row (some b6) 24 3 1 [natV v, nv, tv] :: H | _ + 1 => fact ((x.2.2 ≠ [] → ∃ b, x.1 = some b) ∧ NewR v z x.2.2 (2 ^ rest.length) (fun i => (r.arg v a).has i = true ∨ v + i ∈ rest) (fun T => (r.arg v a).holds v T ∧ k - 1 ≤ cntT T rest)) :: row (some bl) 82 1 1 [slV x.1 0 (x.2.2).length x.2.1] :: row x.1 66 3 x.2.1 (rwV (x.2.2)) :: row (some b7) 66 3 1 r.cells :: row (some b6) 24 3 1 [natV v, nv, tv] :: H) [12] (la, lc, z) [] rfl rfl ⟨rfl, rfl, rfl, rfl, rfl, trivial⟩ trivial (by repeat (first | exact Le.refl _ | assumption | apply Le.drop)) (by
    refine ⟨?_, ?_, ?_, ?_, ?_, ?_, ?_, ?_, ?_, ?_, ?_, ?_, ?_, trivial⟩
    · refine ⟨fun x S c he hw hd hc hcu hm _ => ?_, trivial⟩
      refine TOps.move (he _ _ rfl) rfl ?_
      exact TOps.fd x rfl rfl
    · refine ⟨fun x S c he hw hd hc hcu hm _ => ?_, trivial⟩
      obtain rfl : c = 0 := by have : c ≤ 0 := hcu; omega
      refine TOps.loadN (vs := [natV v, nv, tv]) (he _ _ rfl) ti24 (Rd.all (by repeat (first | exact List.Mem.head _ | apply List.Mem.tail))) rfl rfl ?_
      exact TOps.fd x rfl rfl
    · refine ⟨fun x S c he hw hd hc hcu hm _ => ?_, trivial⟩
      obtain rfl : c = 0 := by have : c ≤ 0 := hcu; omega
      refine TOps.loadN (vs := r.cells) (he _ _ rfl) ti66 (Rd.all (by repeat (first | exact List.Mem.head _ | apply List.Mem.tail))) rfl rfl ?_
      exact TOps.fd x rfl rfl
    · refine ⟨fun x S c he hw hd hc hcu hm _ => ?_, trivial⟩
      obtain rfl : c = 0 := by have : c ≤ 0 := hcu; omega
      refine TOps.loadN (vs := [natV v, nv, tv]) (he _ _ rfl) ti24 (Rd.all (by repeat (first | exact List.Mem.head _ | apply List.Mem.tail))) rfl rfl ?_
      exact TOps.fd x rfl rfl
    · refine ⟨fun x S c he hw hd hc hcu hm _ => ?_, trivial⟩
      refine TOps.move (he _ _ rfl) rfl ?_
      exact TOps.fd x rfl rfl
    · refine ⟨fun x S c he hw hd hc hcu hm _ => ?_, trivial⟩
      obtain ⟨h4, -⟩ := hd
      refine TOps.indexAddr (b := ab) (off := ao) (m := rest.length + 1) (cap := ac) (off' := ao) h4 rfl Tryz.underlying35 ti3 (by omega) (by omega) (by simp) rfl ?_
      exact TOps.fd x rfl rfl
    · refine ⟨fun x S c he hw hd hc hcu hm _ => ?_, trivial⟩
      obtain ⟨h5, -⟩ := hd
      obtain rfl : c = 0 := by have : c ≤ 0 := hcu; omega
      refine TOps.load1 h5 ti3 (hra.le (Le.drop (Le.drop (Le.drop (Le.drop (Le.refl _)))))) rfl ?_
      exact TOps.fd x rfl rfl
    · refine ⟨fun x S c he hw hd hc hcu hm _ => ?_, trivial⟩
      obtain ⟨h2, h3, h6, -⟩ := hd
      refine TOps.call (vs := [_, _, _]) Tryz.call44 ⟨h2, h3, h6, trivial⟩ (with_g hf hv hav) rfl ?_
      rintro _ _ ⟨rfl, rfl⟩
      exact TOps.fd x rfl rfl
    · refine ⟨fun x S c he hw hd hc hcu hm _ => ?_, trivial⟩
      refine TOps.move (he _ _ rfl) rfl ?_
      exact TOps.fd x rfl rfl
    · refine ⟨fun x S c he hw hd hc hcu hm _ => ?_, trivial⟩
      obtain ⟨h8, -⟩ := hd
      refine TOps.sliceLo (l := 1) h8 rfl Tryz.underlying35 ti3 (by omega) rfl ?_
      rw [← hao2, Nat.add_sub_cancel]
      exact TOps.fd x rfl rfl
    · refine ⟨fun x S c he hw hd hc hcu hm _ => ?_, trivial⟩
      refine TOps.move (he _ _ rfl) rfl ?_
      exact TOps.fd x rfl rfl
    · refine ⟨fun x S c he hw hd hc hcu hm _ => ?_, trivial⟩
      obtain ⟨h10, -⟩ := hd
      refine TOps.sub (r := ((k - 1 : Nat) : Int)) h10 rfl (by rw [wrapI (by omega) (by omega)]; omega) rfl ?_
      exact TOps.fd x rfl rfl
    · refine ⟨fun x S c he hw hd hc hcu hm _ => ?_, trivial⟩
      obtain ⟨h0, h1, h7, h9, h11, _, -⟩ := hd
      obtain rfl : c = 0 := hm rfl
      refine TOps.call (vs := [_, _, _, _, _]) Tryz.call68 ⟨h0, h1, h7, h9, h11, trivial⟩ (ih rest (by omega) (hrr.le (Le.drop (Le.drop (Le.refl _)))) (by omega) (by omega) (fun a' h => has a' (List.mem_cons_of_mem _ h)) (hf.arg hav) hz (by omega) hla) rfl ?_
      rintro _ _ ⟨rfl, la2, lc2, z2, q1, q2, rfl⟩
      exact TOps.fin (Nrm.draw (la2, lc2, z2) (fun _ _ _ => rfl) rfl (Le.addFact ⟨q1, q2⟩))
    ) (fun w => ?_)
  refine Nrm.fact (List.Mem.head _) (fun f1 => ?_)
  refine Nrm.le (Le.drop (Le.refl _)) ?_
  obtain ⟨la2, lc2, z2⟩ := w
  obtain ⟨q1, q2⟩ := f1
  dsimp only at q1 q2 ⊢
  refine Nrm.next ?_
  refine Tri.drawX (X := Option Nat × Nat × List Rw) rfl [(0, .pointer (some ⟨bl, 0, none⟩)), (3, slV (some ab) ao (rest.length + 1) ac), (4, natV k), (6, .pointer (some ⟨b6, 0, none⟩)), (7, .pointer (some ⟨b7, 0, none⟩))] [] (fun x => [_, _, _, _, slV (some ab) ao2 rest.length (ac - 1), _, .tuple (List.toArray [])]) (fun x c => match c with | 0 => row (some bl) 82 1 1 [slV la2 0 (z2).length lc2] :: row la2 66 3 lc2 (rwV (z2)) :: row (some b7) 66 3 1 r.cells :: row (some b6) 24 3 1 [natV v, nv, tv] :: H | _ + 1 => fact ((x.2.2 ≠ [] → ∃ b, x.1 = some b) ∧ NewR v z2 x.2.2 (2 ^ rest.length) (fun i => r.has i = true ∨ v + i ∈ rest) (fun T => r.holds v T ∧ k ≤ cntT T rest)) :: row (some bl) 82 1 1 [slV x.1 0 (x.2.2).length x.2.1] :: row x.1 66 3 x.2.1 (rwV (x.2.2)) :: row (some b7) 66 3 1 r.cells :: row (some b6) 24 3 1 [natV v, nv, tv] :: H) [6] (la2, lc2, z2) [] rfl rfl ⟨rfl, rfl, rfl, rfl, rfl, trivial⟩ trivial (by repeat (first | exact Le.refl _ | assumption | apply Le.drop)) (by
    refine ⟨?_, ?_, ?_, ?_, ?_, ?_, ?_, trivial⟩
    · refine ⟨fun x S c he hw hd hc hcu hm _ => ?_, trivial⟩
      refine TOps.move (he _ _ rfl) rfl ?_
      exact TOps.fd x rfl rfl
    · refine ⟨fun x S c he hw hd hc hcu hm _ => ?_, trivial⟩
      obtain rfl : c = 0 := by have : c ≤ 0 := hcu; omega
      refine TOps.loadN (vs := [natV v, nv, tv]) (he _ _ rfl) ti24 (Rd.all (by repeat (first | exact List.Mem.head _ | apply List.Mem.tail))) rfl rfl ?_
      exact TOps.fd x rfl rfl
    · refine ⟨fun x S c he hw hd hc hcu hm _ => ?_, trivial⟩
      obtain rfl : c = 0 := by have : c ≤ 0 := hcu; omega
      refine TOps.loadN (vs := r.cells) (he _ _ rfl) ti66 (Rd.all (by repeat (first | exact List.Mem.head _ | apply List.Mem.tail))) rfl rfl ?_
      exact TOps.fd x rfl rfl
    · refine ⟨fun x S c he hw hd hc hcu hm _ => ?_, trivial⟩
      refine TOps.move (he _ _ rfl) rfl ?_
      exact TOps.fd x rfl rfl
    · refine ⟨fun x S c he hw hd hc hcu hm _ => ?_, trivial⟩
      obtain ⟨h3, -⟩ := hd
      refine TOps.sliceLo (l := 1) h3 rfl Tryz.underlying35 ti3 (by omega) rfl ?_
      rw [← hao2, Nat.add_sub_cancel]
      exact TOps.fd x rfl rfl
    · refine ⟨fun x S c he hw hd hc hcu hm _ => ?_, trivial⟩
      refine TOps.move (he _ _ rfl) rfl ?_
      exact TOps.fd x rfl rfl
    · refine ⟨fun x S c he hw hd hc hcu hm _ => ?_, trivial⟩
      obtain ⟨h0, h1, h2, h4, h5, -⟩ := hd
      obtain rfl : c = 0 := hm rfl
      refine TOps.call (vs := [_, _, _, _, _]) Tryz.call68 ⟨h0, h1, h2, h4, h5, trivial⟩ (ih rest (by omega) (hrr.le (Le.drop (Le.drop (Le.refl _)))) (by omega) (by omega) (fun a' h => has a' (List.mem_cons_of_mem _ h)) hf q2.hi hk q1) rfl ?_
      rintro _ _ ⟨rfl, la3, lc3, z3, q3, q4, rfl⟩
      exact TOps.fin (Nrm.draw (la3, lc3, z3) (fun _ _ _ => rfl) rfl (Le.addFact ⟨q3, q4⟩))
    ) (fun w => ?_)
  refine Nrm.fact (List.Mem.head _) (fun f1 => ?_)
  refine Nrm.le (Le.drop (Le.refl _)) ?_
  obtain ⟨la3, lc3, z3⟩ := w
  obtain ⟨q3, q4⟩ := f1
  dsimp only at q3 q4 ⊢
  exact Nrm.ret0 (H' := row (some bl) 82 1 1 [slV la3 0 (z3).length lc3] :: row la3 66 3 lc3 (rwV (z3)) :: H) Tryz.results68 (Sp.le (by repeat (first | exact Sp.refl _ | exact Sp.sub (by assumption) | refine Sp.cons (by repeat (first | exact Pick.here | apply Pick.there)) ?_ | exact Sp.nil | apply Sp.skip))) ⟨rfl, la3, lc3, z3, q3, choose_law q2 q4 hav (by omega), rfl⟩
end Go.Proofs
namespace Go.Proofs
open Go.GL
set_option linter.unusedVariables false
set_option linter.unusedSimpArgs false
def natA (d : Nd) : List Nat := d.args.map Int.toNat
theorem natA_ints {d : Nd} (h : ∀ a ∈ d.args, 0 ≤ a) : ints d.args = nats (natA d) := by
  unfold ints nats natA
  rw [List.map_map]
  exact List.map_congr_left fun a ha => by have := h a ha; simp only [Function.comp]; rw [show ((a.toNat : Nat) : Int) = a by omega]
def ndQ (d : Nd) (T : Nat → Bool) : Prop := if d.kind = 0 then d.k = 1 else if d.kind = 2 then ∀ a ∈ natA d, T a = true else if d.kind = 3 then ∃ a ∈ natA d, T a = true else d.k.toNat ≤ cntT T (natA d)
theorem or_law {v k : Nat} {rd : Rw} {l : List Nat} {z z2 : List Rw} (h : NewR v z z2 k (fun j => rd.has j = true ∨ v + j ∈ l) (fun T => rd.holds v T ∧ ∃ a ∈ l.take k, T a = true)) (hf : rd.Fit v) (hk : k < l.length) (ha : l[k] < v + 128) :
    NewR v z (addL z2 (rd.arg v l[k])) (k + 1) (fun j => rd.has j = true ∨ v + j ∈ l) (fun T => rd.holds v T ∧ ∃ a ∈ l.take (k + 1), T a = true) := by
  refine NewR.comp (B1 := fun j => rd.has j = true ∨ v + j ∈ l) (B2 := fun j => rd.has j = true ∨ v + j ∈ l) h (NewR.one h.hi (hf.arg ha) (fun i hi hb => ?_) (fun T => Iff.rfl) rfl) (Nat.le_refl _) (fun _ h => h) (fun _ h => h) (fun T => ?_)
  · rcases Rw.arg_has ha hi hb with h1 | h1
    · exact .inl h1
    · exact .inr (by rw [← h1]; exact List.getElem_mem hk)
  · rw [Rw.holds_arg ha, List.take_succ_eq_append_getElem hk]
    constructor
    · rintro ⟨h1, a, h2, h3⟩
      rcases List.mem_append.1 h2 with h2 | h2
      · exact .inl ⟨h1, a, h2, h3⟩
      · rw [List.mem_singleton] at h2; subst h2; exact .inr ⟨h1, h3⟩
    · rintro (⟨h1, a, h2, h3⟩ | ⟨h1, h3⟩)
      · exact ⟨h1, a, List.mem_append_left _ h2, h3⟩
      · exact ⟨h1, _, List.mem_append_right _ (List.mem_singleton.2 rfl), h3⟩
set_option maxHeartbeats 1000000 in
theorem expand_g {H : List Ent} {bl v i : Nat} {tv : Value} {na nsp la : Option Nat} {no cap lc : Nat} {F : Fm} {z : List Rw} {r : Rw} (hv : v ≤ 24) (hvF : F.vars = v) (hg : F.Good) (hN : RNodesC H na no F.nodes nsp) (hi : i < F.nodes.length) (hco : F.nodes[i].kind = 0 ∨ F.nodes[i].kind = 2 ∨ F.nodes[i].kind = 3 ∨ F.nodes[i].kind = 4) (hlen : F.nodes[i].args.length ≤ 1000) (hf : r.Fit v) (hz : z.length ≤ 4097) (hla : z ≠ [] → ∃ b, la = some b) :
    Gives Tryz.prog 47 [.pointer (some ⟨bl, 0, none⟩), .agg (List.toArray [natV v, slV na no F.nodes.length cap nsp, tv]), .agg (List.toArray r.cells), natV i] (row (some bl) 82 1 1 [slV la 0 (z).length lc] :: row la 66 3 lc (rwV (z)) :: H) (fun u H' => u = .tuple (List.toArray []) ∧ ∃ la' lc' z', (z' ≠ [] → ∃ b, la' = some b) ∧ NewR v z z' (2 ^ F.nodes[i].args.length) (fun j => (r.del i).has j = true ∨ v + j ∈ natA F.nodes[i]) (fun T => (r.del i).holds v T ∧ ndQ F.nodes[i] T) ∧ row (some bl) 82 1 1 [slV la' 0 (z').length lc'] :: row la' 66 3 lc' (rwV (z')) :: H = H') := by
  have hn128 := hg.n1
  obtain ⟨nb, aa, ao, ac, asp, hna, hnsp, hnd, hcap⟩ := hN.at hi
  obtain ⟨d, hd⟩ : ∃ d, F.nodes[i] = d := ⟨_, rfl⟩
  have hfit := hg.fits i hi
  rw [hd] at hco hnd hcap hlen hfit ⊢
  refine Gives.enter Tryz.func47 rfl (by exact Tryz.ntmps47) rfl ?_
  refine Tri.seq (Tri.region ?_)
  refine TOps.boxN rfl ti24 rfl rfl (fun b5 => ?_)
  refine TOps.boxN rfl ti66 rfl rfl (fun b6 => ?_)
  refine TOps.le (H' := row (some bl) 82 1 1 [slV la 0 (z).length lc] :: row la 66 3 lc (rwV (z)) :: row (some b6) 66 3 1 (r).cells :: row (some b5) 24 3 1 [natV v, slV na no F.nodes.length cap nsp, tv] :: H) (Sp.le (by repeat (first | exact Sp.refl _ | exact Sp.sub (by assumption) | refine Sp.cons (by repeat (first | exact Pick.here | apply Pick.there)) ?_ | exact Sp.nil | apply Sp.skip))) ?_
  refine TOps.next ?_
  refine Tri.seq (Tri.region ?_)
  first | refine TOps.fieldB 1 rfl Tryz.underlying24 rfl rfl ti22 rfl rfl rfl ?_ | refine TOps.fieldN 1 rfl Tryz.underlying24 rfl rfl ti22 rfl rfl rfl ?_
  refine TOps.load1 rfl ti22 (Rd.fld (Rd.all (H := _ :: _ :: _ :: row (some b5) 24 3 1 [natV v, slV na no F.nodes.length cap nsp, tv] :: H) (by repeat (first | exact List.Mem.head _ | apply List.Mem.tail))) 1 rfl) rfl ?_
  refine TOps.move rfl rfl ?_
  refine TOps.indexAddr (b := nb) (off := no) (m := F.nodes.length) (cap := cap) (off' := no + i * 3) (by rw [← hna, ← hnsp]; rfl) rfl Tryz.underlying22 ti48 (by omega) (by omega) (by simp) rfl ?_
  refine TOps.loadN (vs := [.int .i64 d.kind, .int .i64 d.k, slV aa ao d.args.length ac asp]) rfl ti48 (hnd.cells.le (Le.drop (Le.drop (Le.drop (Le.drop (Le.refl _)))))) rfl rfl ?_
  refine TOps.alloc ti48 rfl (fun b8 => ?_)
  refine TOps.storeN rfl rfl ti48 rfl rfl (by repeat (first | exact Upd.here | apply Upd.there)) (by first | decide | (simp; done) | (simp; omega)) ?_
  refine TOps.le (H' := row (some bl) 82 1 1 [slV la 0 (z).length lc] :: row la 66 3 lc (rwV (z)) :: row (some b6) 66 3 1 (r).cells :: row (some b8) 48 3 1 [.int .i64 d.kind, .int .i64 d.k, slV aa ao d.args.length ac asp] :: row (some b5) 24 3 1 [natV v, slV na no F.nodes.length cap nsp, tv] :: H) (Sp.le (by repeat (first | exact Sp.refl _ | exact Sp.sub (by assumption) | refine Sp.cons (by repeat (first | exact Pick.here | apply Pick.there)) ?_ | exact Sp.nil | apply Sp.skip))) ?_
  refine TOps.next ?_
  refine Tri.seq (Tri.region ?_)
  refine TOps.loadN (vs := r.cells) rfl ti66 (Rd.all (by repeat (first | exact List.Mem.head _ | apply List.Mem.tail))) rfl rfl ?_
  refine TOps.move rfl rfl ?_
  refine TOps.call (vs := [_, _]) Tryz.call67 ⟨rfl, rfl, trivial⟩ (without_g hf (by omega)) rfl ?_
  rintro _ _ ⟨rfl, rfl⟩
  refine TOps.storeN (b := b6) (vs := (r.del i).cells) rfl rfl ti66 rfl rfl (Upd.there (Upd.there Upd.here)) (by simp [Rw.cells]) ?_
  obtain ⟨rd, hrd⟩ : ∃ rd, r.del i = rd := ⟨_, rfl⟩
  have hfd : rd.Fit v := by rw [← hrd]; exact hf.del
  refine TOps.le (H' := row (some bl) 82 1 1 [slV la 0 (z).length lc] :: row la 66 3 lc (rwV (z)) :: row (some b6) 66 3 1 (rd).cells :: row (some b8) 48 3 1 [.int .i64 d.kind, .int .i64 d.k, slV aa ao d.args.length ac asp] :: row (some b5) 24 3 1 [natV v, slV na no F.nodes.length cap nsp, tv] :: H) (by rw [← hrd]; exact Le.refl _) ?_
  have hv0 := hg.v0
  have hga := hg.argLt hi
  rw [hd] at hga
  have hax : ∀ a ∈ natA d, a < v + 128 := fun a ha => by obtain ⟨b, hb, rfl⟩ := List.mem_map.1 ha; have := hga b hb; omega
  have hnn : ∀ a ∈ d.args, 0 ≤ a := fun a ha => ((hg.fits i hi).args a (by rw [hd]; exact ha)).1
  have hal : (natA d).length = d.args.length := by simp [natA]
  have hrA : RdS H aa ao (nats (natA d)) asp := by rw [← natA_ints hnn]; exact hnd.args
  have hdl : d.args.length ≤ 9223372036854775807 := by omega
  rw [hrd]
  refine TOps.next ?_
  refine Tri.seq (Tri.region ?_)
  refine TOps.field0 rfl Tryz.underlying48 rfl rfl ti3 rfl rfl rfl ?_
  refine TOps.load1 rfl ti3 (Rd.fld (Rd.all (H := _ :: _ :: _ :: row (some b8) 48 3 1 [.int .i64 d.kind, .int .i64 d.k, slV aa ao d.args.length ac asp] :: _) (by repeat (first | exact List.Mem.head _ | apply List.Mem.tail))) 0 rfl) rfl ?_
  refine TOps.next ?_
  refine Tri.block ?_
  refine Tri.seq (Tri.region ?_)
  refine TOps.eqlI rfl rfl rfl ?_
  refine TOps.assign rfl rfl ?_
  refine TOps.next ?_
  refine Tri.cond rfl (fun hc1 => ?_) (fun hc1 => ?_)
  · try simp only [decide_eq_true_eq, decide_eq_false_iff_not, Bool.and_eq_true, Bool.or_eq_true, Bool.not_eq_true', Bool.and_eq_false_iff, Bool.or_eq_false_iff, Bool.not_eq_false', Int.not_lt, Int.not_le, ne_eq, Decidable.not_not, Option.isSome_iff_ne_none, Option.isNone_iff_eq_none] at hc1
    refine Tri.seq (Tri.region ?_)
    first | refine TOps.fieldB 1 rfl Tryz.underlying48 rfl rfl ti3 rfl rfl rfl ?_ | refine TOps.fieldN 1 rfl Tryz.underlying48 rfl rfl ti3 rfl rfl rfl ?_
    refine TOps.load1 rfl ti3 (Rd.fld (Rd.all (H := _ :: _ :: _ :: row (some b8) 48 3 1 [.int .i64 d.kind, .int .i64 d.k, slV aa ao d.args.length ac asp] :: _) (by repeat (first | exact List.Mem.head _ | apply List.Mem.tail))) 1 rfl) rfl ?_
    refine TOps.eqlI rfl rfl rfl ?_
    refine TOps.next ?_
    refine Tri.cond rfl (fun hc2 => ?_) (fun hc2 => ?_)
    · try simp only [decide_eq_true_eq, decide_eq_false_iff_not, Bool.and_eq_true, Bool.or_eq_true, Bool.not_eq_true', Bool.and_eq_false_iff, Bool.or_eq_false_iff, Bool.not_eq_false', Int.not_lt, Int.not_le, ne_eq, Decidable.not_not, Option.isSome_iff_ne_none, Option.isNone_iff_eq_none] at hc2
      refine Tri.region ?_
      refine TOps.move rfl rfl ?_
      refine TOps.loadN (vs := rd.cells) rfl ti66 (Rd.all (by repeat (first | exact List.Mem.head _ | apply List.Mem.tail))) rfl rfl ?_
      refine TOps.call (vs := [_, _]) Tryz.call48 ⟨rfl, rfl, trivial⟩ (add_g hz hla) rfl ?_
      rintro _ _ ⟨rfl, la3, lc3, q3, rfl⟩
      refine TOps.fin ?_
      refine Nrm.unB ?_
      first | exact Nrm.ret0 (H' := row (some bl) 82 1 1 [slV la3 0 (z3).length lc3] :: row la3 66 3 lc3 (rwV (z3)) :: H) Tryz.results47 (Sp.le (by repeat (first | exact Sp.refl _ | exact Sp.sub (by assumption) | refine Sp.cons (by repeat (first | exact Pick.here | apply Pick.there)) ?_ | exact Sp.nil | apply Sp.skip))) ⟨rfl, la3, lc3, z3, q3, NewR.mono q4 (Nat.le_refl _) (fun _ h => h) (fun T => by rw [ndQ, if_neg (by omega), if_neg (by omega), if_neg (by omega)]), rfl⟩ | exact Nrm.ret0 (H' := row (some bl) 82 1 1 [slV la3 0 (addL z rd).length lc3] :: row la3 66 3 lc3 (rwV (addL z rd)) :: H) Tryz.results47 (Sp.le (by repeat (first | exact Sp.refl _ | exact Sp.sub (by assumption) | refine Sp.cons (by repeat (first | exact Pick.here | apply Pick.there)) ?_ | exact Sp.nil | apply Sp.skip))) ⟨rfl, la3, lc3, addL z rd, q3, NewR.mono (NewR.one (B := fun j => rd.has j = true ∨ v + j ∈ natA d) (Q := fun T => rd.holds v T) hz hfd (fun _ _ h => .inl h) (fun T => Iff.rfl) rfl) (Nat.two_pow_pos _) (fun _ h => h) (fun T => by rw [ndQ, if_pos (by assumption)]; exact ⟨fun h => h.1, fun h => ⟨h, by assumption⟩⟩), rfl⟩ | exact Nrm.ret0 (H' := row (some bl) 82 1 1 [slV la 0 (z).length lc] :: row la 66 3 lc (rwV (z)) :: H) Tryz.results47 (Sp.le (by repeat (first | exact Sp.refl _ | exact Sp.sub (by assumption) | refine Sp.cons (by repeat (first | exact Pick.here | apply Pick.there)) ?_ | exact Sp.nil | apply Sp.skip))) ⟨rfl, la, lc, z, hla, NewR.none hz (fun T h => by rw [ndQ, if_pos (by assumption)] at h; simp_all), rfl⟩ | exact Nrm.ret0 (H' := row (some bl) 82 1 1 [slV la3 0 (addL z (rd.args v (natA d))).length lc3] :: row la3 66 3 lc3 (rwV (addL z (rd.args v (natA d)))) :: H) Tryz.results47 (Sp.le (by repeat (first | exact Sp.refl _ | exact Sp.sub (by assumption) | refine Sp.cons (by repeat (first | exact Pick.here | apply Pick.there)) ?_ | exact Sp.nil | apply Sp.skip))) ⟨rfl, la3, lc3, _, q3, NewR.mono (NewR.one (B := fun j => rd.has j = true ∨ v + j ∈ natA d) (Q := fun T => (rd.args v (natA d)).holds v T) hz (Rw.args_fit _ hfd hax) (fun i hi h => Rw.args_has hi _ hax h) (fun T => Iff.rfl) rfl) (Nat.two_pow_pos _) (fun _ h => h) (fun T => by rw [ndQ, if_neg (by omega), if_pos (by omega), Rw.args_holds _ hax]), rfl⟩ | exact Nrm.ret0 (H' := row (some bl) 82 1 1 [slV la2 0 (z2).length lc2] :: row la2 66 3 lc2 (rwV (z2)) :: H) Tryz.results47 (Sp.le (by repeat (first | exact Sp.refl _ | exact Sp.sub (by assumption) | refine Sp.cons (by repeat (first | exact Pick.here | apply Pick.there)) ?_ | exact Sp.nil | apply Sp.skip))) ⟨rfl, la2, lc2, z2, p1, NewR.mono p2 (Nat.le_of_lt Nat.lt_two_pow_self) (fun _ h => h) (fun T => by rw [ndQ, if_neg (by omega), if_neg (by omega), if_pos (by omega), show d.args.length = (natA d).length from hal.symm, List.take_length]), rfl⟩
    try simp only [decide_eq_true_eq, decide_eq_false_iff_not, Bool.and_eq_true, Bool.or_eq_true, Bool.not_eq_true', Bool.and_eq_false_iff, Bool.or_eq_false_iff, Bool.not_eq_false', Int.not_lt, Int.not_le, ne_eq, Decidable.not_not, Option.isSome_iff_ne_none, Option.isNone_iff_eq_none] at hc2
    refine Tri.fin ?_
    refine Nrm.unB ?_
    first | exact Nrm.ret0 (H' := row (some bl) 82 1 1 [slV la3 0 (z3).length lc3] :: row la3 66 3 lc3 (rwV (z3)) :: H) Tryz.results47 (Sp.le (by repeat (first | exact Sp.refl _ | exact Sp.sub (by assumption) | refine Sp.cons (by repeat (first | exact Pick.here | apply Pick.there)) ?_ | exact Sp.nil | apply Sp.skip))) ⟨rfl, la3, lc3, z3, q3, NewR.mono q4 (Nat.le_refl _) (fun _ h => h) (fun T => by rw [ndQ, if_neg (by omega), if_neg (by omega), if_neg (by omega)]), rfl⟩ | exact Nrm.ret0 (H' := row (some bl) 82 1 1 [slV la3 0 (addL z rd).length lc3] :: row la3 66 3 lc3 (rwV (addL z rd)) :: H) Tryz.results47 (Sp.le (by repeat (first | exact Sp.refl _ | exact Sp.sub (by assumption) | refine Sp.cons (by repeat (first | exact Pick.here | apply Pick.there)) ?_ | exact Sp.nil | apply Sp.skip))) ⟨rfl, la3, lc3, addL z rd, q3, NewR.mono (NewR.one (B := fun j => rd.has j = true ∨ v + j ∈ natA d) (Q := fun T => rd.holds v T) hz hfd (fun _ _ h => .inl h) (fun T => Iff.rfl) rfl) (Nat.two_pow_pos _) (fun _ h => h) (fun T => by rw [ndQ, if_pos (by assumption)]; exact ⟨fun h => h.1, fun h => ⟨h, by assumption⟩⟩), rfl⟩ | exact Nrm.ret0 (H' := row (some bl) 82 1 1 [slV la 0 (z).length lc] :: row la 66 3 lc (rwV (z)) :: H) Tryz.results47 (Sp.le (by repeat (first | exact Sp.refl _ | exact Sp.sub (by assumption) | refine Sp.cons (by repeat (first | exact Pick.here | apply Pick.there)) ?_ | exact Sp.nil | apply Sp.skip))) ⟨rfl, la, lc, z, hla, NewR.none hz (fun T h => by rw [ndQ, if_pos (by assumption)] at h; simp_all), rfl⟩ | exact Nrm.ret0 (H' := row (some bl) 82 1 1 [slV la3 0 (addL z (rd.args v (natA d))).length lc3] :: row la3 66 3 lc3 (rwV (addL z (rd.args v (natA d)))) :: H) Tryz.results47 (Sp.le (by repeat (first | exact Sp.refl _ | exact Sp.sub (by assumption) | refine Sp.cons (by repeat (first | exact Pick.here | apply Pick.there)) ?_ | exact Sp.nil | apply Sp.skip))) ⟨rfl, la3, lc3, _, q3, NewR.mono (NewR.one (B := fun j => rd.has j = true ∨ v + j ∈ natA d) (Q := fun T => (rd.args v (natA d)).holds v T) hz (Rw.args_fit _ hfd hax) (fun i hi h => Rw.args_has hi _ hax h) (fun T => Iff.rfl) rfl) (Nat.two_pow_pos _) (fun _ h => h) (fun T => by rw [ndQ, if_neg (by omega), if_pos (by omega), Rw.args_holds _ hax]), rfl⟩ | exact Nrm.ret0 (H' := row (some bl) 82 1 1 [slV la2 0 (z2).length lc2] :: row la2 66 3 lc2 (rwV (z2)) :: H) Tryz.results47 (Sp.le (by repeat (first | exact Sp.refl _ | exact Sp.sub (by assumption) | refine Sp.cons (by repeat (first | exact Pick.here | apply Pick.there)) ?_ | exact Sp.nil | apply Sp.skip))) ⟨rfl, la2, lc2, z2, p1, NewR.mono p2 (Nat.le_of_lt Nat.lt_two_pow_self) (fun _ h => h) (fun T => by rw [ndQ, if_neg (by omega), if_neg (by omega), if_pos (by omega), show d.args.length = (natA d).length from hal.symm, List.take_length]), rfl⟩
  try simp only [decide_eq_true_eq, decide_eq_false_iff_not, Bool.and_eq_true, Bool.or_eq_true, Bool.not_eq_true', Bool.and_eq_false_iff, Bool.or_eq_false_iff, Bool.not_eq_false', Int.not_lt, Int.not_le, ne_eq, Decidable.not_not, Option.isSome_iff_ne_none, Option.isNone_iff_eq_none] at hc1
  refine Tri.seq (Tri.region ?_)
  refine TOps.eqlI rfl rfl rfl ?_
  refine TOps.assign rfl rfl ?_
  refine TOps.next ?_
  refine Tri.cond rfl (fun hc3 => ?_) (fun hc3 => ?_)
  · try simp only [decide_eq_true_eq, decide_eq_false_iff_not, Bool.and_eq_true, Bool.or_eq_true, Bool.not_eq_true', Bool.and_eq_false_iff, Bool.or_eq_false_iff, Bool.not_eq_false', Int.not_lt, Int.not_le, ne_eq, Decidable.not_not, Option.isSome_iff_ne_none, Option.isNone_iff_eq_none] at hc3
    refine Tri.seq ?_
    refine Tri.seq (Tri.region ?_)
    first | refine TOps.fieldB 2 rfl Tryz.underlying48 rfl rfl ti35 rfl rfl rfl ?_ | refine TOps.fieldN 2 rfl Tryz.underlying48 rfl rfl ti35 rfl rfl rfl ?_
    refine TOps.load1 rfl ti35 (Rd.fld (Rd.all (H := _ :: _ :: _ :: row (some b8) 48 3 1 [.int .i64 d.kind, .int .i64 d.k, slV aa ao d.args.length ac asp] :: _) (by repeat (first | exact List.Mem.head _ | apply List.Mem.tail))) 2 rfl) rfl ?_
    refine TOps.len rfl Tryz.underlying35 rfl ?_
    refine TOps.move rfl rfl ?_
    refine TOps.next ?_
    refine Tri.range (X := Unit) (fun x k => [(0, .pointer (some ⟨bl, 0, none⟩)), (5, .pointer (some ⟨b5, 0, none⟩)), (6, .pointer (some ⟨b6, 0, none⟩)), (42, slV aa ao d.args.length ac asp)]) (fun x k => row (some bl) 82 1 1 [slV la 0 (z).length lc] :: row la 66 3 lc (rwV (z)) :: row (some b6) 66 3 1 ((rd.args v ((natA d).take k))).cells :: row (some b8) 48 3 1 [.int .i64 d.kind, .int .i64 d.k, slV aa ao d.args.length ac asp] :: row (some b5) 24 3 1 [natV v, slV na no F.nodes.length cap nsp, tv] :: H) (fun x k => True) hdl rfl rfl rfl (fun _ _ => ⟨rfl, rfl, rfl, rfl⟩) () trivial ⟨rfl, rfl, rfl, rfl, trivial⟩ (by repeat (first | exact Le.refl _ | assumption | apply Le.drop)) (fun k x hlt hp => ?_) (fun x ac wc hp hS hM => ?_)
    · skip
      have hkl : k < (natA d).length := by omega
      obtain ⟨ab, haa, hsp, hr0⟩ := hrA.at (i := k) (by simp; omega)
      have hra : Rd H ab (ao + k) [natV (natA d)[k]] := by simpa using hr0
      have hak := hax _ (List.getElem_mem hkl)
      have hfk : (rd.args v ((natA d).take k)).Fit v := Rw.args_fit _ hfd (fun a h => hax a (List.mem_of_mem_take h))
      refine Tri.seq (Tri.region ?_)
      refine TOps.indexAddr (b := ab) (off := ao) (m := d.args.length) (cap := ac) (off' := ao + k) (by rw [haa, hsp]; rfl) rfl Tryz.underlying35 ti3 (by omega) (by omega) (by simp) rfl ?_
      refine TOps.load1 rfl ti3 (hra.le (Le.drop (Le.drop (Le.drop (Le.drop (Le.drop (Le.refl _))))))) rfl ?_
      refine TOps.assign rfl rfl ?_
      refine TOps.next ?_
      refine Tri.region ?_
      refine TOps.loadN (vs := (rd.args v ((natA d).take k)).cells) rfl ti66 (Rd.all (by repeat (first | exact List.Mem.head _ | apply List.Mem.tail))) rfl rfl ?_
      refine TOps.loadN (vs := [natV v, slV na no F.nodes.length cap nsp, tv]) rfl ti24 (Rd.all (by repeat (first | exact List.Mem.head _ | apply List.Mem.tail))) rfl rfl ?_
      refine TOps.move rfl rfl ?_
      refine TOps.call (vs := [_, _, _]) Tryz.call44 ⟨rfl, rfl, rfl, trivial⟩ (with_g hfk hv hak) rfl ?_
      rintro _ _ ⟨rfl, rfl⟩
      refine TOps.storeN (b := b6) (vs := ((rd.args v ((natA d).take k)).arg v (natA d)[k]).cells) rfl rfl ti66 rfl rfl (Upd.there (Upd.there Upd.here)) (by simp [Rw.cells]) ?_
      rw [← Rw.args_snoc, ← List.take_succ_eq_append_getElem hkl]
      refine TOps.fin ?_
      refine Nrm.body () trivial ⟨rfl, rfl, rfl, rfl, rfl, rfl, trivial⟩ (by repeat (first | exact Le.refl _ | assumption | apply Le.drop))
    rw [show d.args.length = (natA d).length from hal.symm, List.take_length] at hM
    refine Nrm.of hS hM ?_
    refine Nrm.next ?_
    refine Tri.region ?_
    refine TOps.move rfl rfl ?_
    refine TOps.loadN (vs := (rd.args v (natA d)).cells) rfl ti66 (Rd.all (by repeat (first | exact List.Mem.head _ | apply List.Mem.tail))) rfl rfl ?_
    refine TOps.call (vs := [_, _]) Tryz.call48 ⟨rfl, rfl, trivial⟩ (add_g hz hla) rfl ?_
    rintro _ _ ⟨rfl, la3, lc3, q3, rfl⟩
    refine TOps.fin ?_
    refine Nrm.unB ?_
    first | exact Nrm.ret0 (H' := row (some bl) 82 1 1 [slV la3 0 (z3).length lc3] :: row la3 66 3 lc3 (rwV (z3)) :: H) Tryz.results47 (Sp.le (by repeat (first | exact Sp.refl _ | exact Sp.sub (by assumption) | refine Sp.cons (by repeat (first | exact Pick.here | apply Pick.there)) ?_ | exact Sp.nil | apply Sp.skip))) ⟨rfl, la3, lc3, z3, q3, NewR.mono q4 (Nat.le_refl _) (fun _ h => h) (fun T => by rw [ndQ, if_neg (by omega), if_neg (by omega), if_neg (by omega)]), rfl⟩ | exact Nrm.ret0 (H' := row (some bl) 82 1 1 [slV la3 0 (addL z rd).length lc3] :: row la3 66 3 lc3 (rwV (addL z rd)) :: H) Tryz.results47 (Sp.le (by repeat (first | exact Sp.refl _ | exact Sp.sub (by assumption) | refine Sp.cons (by repeat (first | exact Pick.here | apply Pick.there)) ?_ | exact Sp.nil | apply Sp.skip))) ⟨rfl, la3, lc3, addL z rd, q3, NewR.mono (NewR.one (B := fun j => rd.has j = true ∨ v + j ∈ natA d) (Q := fun T => rd.holds v T) hz hfd (fun _ _ h => .inl h) (fun T => Iff.rfl) rfl) (Nat.two_pow_pos _) (fun _ h => h) (fun T => by rw [ndQ, if_pos (by assumption)]; exact ⟨fun h => h.1, fun h => ⟨h, by assumption⟩⟩), rfl⟩ | exact Nrm.ret0 (H' := row (some bl) 82 1 1 [slV la 0 (z).length lc] :: row la 66 3 lc (rwV (z)) :: H) Tryz.results47 (Sp.le (by repeat (first | exact Sp.refl _ | exact Sp.sub (by assumption) | refine Sp.cons (by repeat (first | exact Pick.here | apply Pick.there)) ?_ | exact Sp.nil | apply Sp.skip))) ⟨rfl, la, lc, z, hla, NewR.none hz (fun T h => by rw [ndQ, if_pos (by assumption)] at h; simp_all), rfl⟩ | exact Nrm.ret0 (H' := row (some bl) 82 1 1 [slV la3 0 (addL z (rd.args v (natA d))).length lc3] :: row la3 66 3 lc3 (rwV (addL z (rd.args v (natA d)))) :: H) Tryz.results47 (Sp.le (by repeat (first | exact Sp.refl _ | exact Sp.sub (by assumption) | refine Sp.cons (by repeat (first | exact Pick.here | apply Pick.there)) ?_ | exact Sp.nil | apply Sp.skip))) ⟨rfl, la3, lc3, _, q3, NewR.mono (NewR.one (B := fun j => rd.has j = true ∨ v + j ∈ natA d) (Q := fun T => (rd.args v (natA d)).holds v T) hz (Rw.args_fit _ hfd hax) (fun i hi h => Rw.args_has hi _ hax h) (fun T => Iff.rfl) rfl) (Nat.two_pow_pos _) (fun _ h => h) (fun T => by rw [ndQ, if_neg (by omega), if_pos (by omega), Rw.args_holds _ hax]), rfl⟩ | exact Nrm.ret0 (H' := row (some bl) 82 1 1 [slV la2 0 (z2).length lc2] :: row la2 66 3 lc2 (rwV (z2)) :: H) Tryz.results47 (Sp.le (by repeat (first | exact Sp.refl _ | exact Sp.sub (by assumption) | refine Sp.cons (by repeat (first | exact Pick.here | apply Pick.there)) ?_ | exact Sp.nil | apply Sp.skip))) ⟨rfl, la2, lc2, z2, p1, NewR.mono p2 (Nat.le_of_lt Nat.lt_two_pow_self) (fun _ h => h) (fun T => by rw [ndQ, if_neg (by omega), if_neg (by omega), if_pos (by omega), show d.args.length = (natA d).length from hal.symm, List.take_length]), rfl⟩
  try simp only [decide_eq_true_eq, decide_eq_false_iff_not, Bool.and_eq_true, Bool.or_eq_true, Bool.not_eq_true', Bool.and_eq_false_iff, Bool.or_eq_false_iff, Bool.not_eq_false', Int.not_lt, Int.not_le, ne_eq, Decidable.not_not, Option.isSome_iff_ne_none, Option.isNone_iff_eq_none] at hc3
  refine Tri.seq (Tri.region ?_)
  refine TOps.eqlI rfl rfl rfl ?_
  refine TOps.assign rfl rfl ?_
  refine TOps.next ?_
  refine Tri.cond rfl (fun hc4 => ?_) (fun hc4 => ?_)
  · try simp only [decide_eq_true_eq, decide_eq_false_iff_not, Bool.and_eq_true, Bool.or_eq_true, Bool.not_eq_true', Bool.and_eq_false_iff, Bool.or_eq_false_iff, Bool.not_eq_false', Int.not_lt, Int.not_le, ne_eq, Decidable.not_not, Option.isSome_iff_ne_none, Option.isNone_iff_eq_none] at hc4
    refine Tri.seq (Tri.region ?_)
    first | refine TOps.fieldB 2 rfl Tryz.underlying48 rfl rfl ti35 rfl rfl rfl ?_ | refine TOps.fieldN 2 rfl Tryz.underlying48 rfl rfl ti35 rfl rfl rfl ?_
    refine TOps.load1 rfl ti35 (Rd.fld (Rd.all (H := _ :: _ :: _ :: row (some b8) 48 3 1 [.int .i64 d.kind, .int .i64 d.k, slV aa ao d.args.length ac asp] :: _) (by repeat (first | exact List.Mem.head _ | apply List.Mem.tail))) 2 rfl) rfl ?_
    refine TOps.len rfl Tryz.underlying35 rfl ?_
    refine TOps.move rfl rfl ?_
    refine TOps.next ?_
    refine Tri.range (X := Option Nat × Nat × List Rw) (fun x k => [(0, .pointer (some ⟨bl, 0, none⟩)), (5, .pointer (some ⟨b5, 0, none⟩)), (6, .pointer (some ⟨b6, 0, none⟩)), (59, slV aa ao d.args.length ac asp)]) (fun x k => row (some bl) 82 1 1 [slV x.1 0 (x.2.2).length x.2.1] :: row x.1 66 3 x.2.1 (rwV (x.2.2)) :: row (some b6) 66 3 1 (rd).cells :: row (some b8) 48 3 1 [.int .i64 d.kind, .int .i64 d.k, slV aa ao d.args.length ac asp] :: row (some b5) 24 3 1 [natV v, slV na no F.nodes.length cap nsp, tv] :: H) (fun x k => (x.2.2 ≠ [] → ∃ b, x.1 = some b) ∧ NewR v z x.2.2 k (fun j => rd.has j = true ∨ v + j ∈ natA d) (fun T => rd.holds v T ∧ ∃ a ∈ (natA d).take k, T a = true)) hdl rfl rfl rfl (fun _ _ => ⟨rfl, rfl, rfl, rfl⟩) (la, lc, z) ⟨hla, NewR.none hz (fun T h => by obtain ⟨_, a, ha, _⟩ := h; cases ha)⟩ ⟨rfl, rfl, rfl, rfl, trivial⟩ (by repeat (first | exact Le.refl _ | assumption | apply Le.drop)) (fun k x hlt hp => ?_) (fun x ac wc hp hS hM => ?_)
    · skip
      obtain ⟨la2, lc2, z2⟩ := x
      obtain ⟨p1, p2⟩ := hp
      dsimp only at p1 p2 ⊢
      have hkl : k < (natA d).length := by omega
      obtain ⟨ab, haa, hsp, hr0⟩ := hrA.at (i := k) (by simp; omega)
      have hra : Rd H ab (ao + k) [natV (natA d)[k]] := by simpa using hr0
      have hak := hax _ (List.getElem_mem hkl)
      refine Tri.seq (Tri.region ?_)
      refine TOps.indexAddr (b := ab) (off := ao) (m := d.args.length) (cap := ac) (off' := ao + k) (by rw [haa, hsp]; rfl) rfl Tryz.underlying35 ti3 (by omega) (by omega) (by simp) rfl ?_
      refine TOps.load1 rfl ti3 (hra.le (Le.drop (Le.drop (Le.drop (Le.drop (Le.drop (Le.refl _))))))) rfl ?_
      refine TOps.assign rfl rfl ?_
      refine TOps.next ?_
      refine Tri.region ?_
      refine TOps.move rfl rfl ?_
      refine TOps.loadN (vs := rd.cells) rfl ti66 (Rd.all (by repeat (first | exact List.Mem.head _ | apply List.Mem.tail))) rfl rfl ?_
      refine TOps.loadN (vs := [natV v, slV na no F.nodes.length cap nsp, tv]) rfl ti24 (Rd.all (by repeat (first | exact List.Mem.head _ | apply List.Mem.tail))) rfl rfl ?_
      refine TOps.move rfl rfl ?_
      refine TOps.call (vs := [_, _, _]) Tryz.call44 ⟨rfl, rfl, rfl, trivial⟩ (with_g hfd hv hak) rfl ?_
      rintro _ _ ⟨rfl, rfl⟩
      refine TOps.call (vs := [_, _]) Tryz.call48 ⟨rfl, rfl, trivial⟩ (add_g p2.hi p1) rfl ?_
      rintro _ _ ⟨rfl, la3, lc3, q3, rfl⟩
      refine TOps.fin ?_
      refine Nrm.body (la3, lc3, addL z2 (rd.arg v (natA d)[k])) ⟨q3, or_law p2 hfd hkl hak⟩ ⟨rfl, rfl, rfl, rfl, rfl, rfl, trivial⟩ (by repeat (first | exact Le.refl _ | assumption | apply Le.drop))
    obtain ⟨la2, lc2, z2⟩ := x
    obtain ⟨p1, p2⟩ := hp
    dsimp only at p1 p2
    refine Nrm.of hS hM ?_
    refine Nrm.unB ?_
    first | exact Nrm.ret0 (H' := row (some bl) 82 1 1 [slV la3 0 (z3).length lc3] :: row la3 66 3 lc3 (rwV (z3)) :: H) Tryz.results47 (Sp.le (by repeat (first | exact Sp.refl _ | exact Sp.sub (by assumption) | refine Sp.cons (by repeat (first | exact Pick.here | apply Pick.there)) ?_ | exact Sp.nil | apply Sp.skip))) ⟨rfl, la3, lc3, z3, q3, NewR.mono q4 (Nat.le_refl _) (fun _ h => h) (fun T => by rw [ndQ, if_neg (by omega), if_neg (by omega), if_neg (by omega)]), rfl⟩ | exact Nrm.ret0 (H' := row (some bl) 82 1 1 [slV la3 0 (addL z rd).length lc3] :: row la3 66 3 lc3 (rwV (addL z rd)) :: H) Tryz.results47 (Sp.le (by repeat (first | exact Sp.refl _ | exact Sp.sub (by assumption) | refine Sp.cons (by repeat (first | exact Pick.here | apply Pick.there)) ?_ | exact Sp.nil | apply Sp.skip))) ⟨rfl, la3, lc3, addL z rd, q3, NewR.mono (NewR.one (B := fun j => rd.has j = true ∨ v + j ∈ natA d) (Q := fun T => rd.holds v T) hz hfd (fun _ _ h => .inl h) (fun T => Iff.rfl) rfl) (Nat.two_pow_pos _) (fun _ h => h) (fun T => by rw [ndQ, if_pos (by assumption)]; exact ⟨fun h => h.1, fun h => ⟨h, by assumption⟩⟩), rfl⟩ | exact Nrm.ret0 (H' := row (some bl) 82 1 1 [slV la 0 (z).length lc] :: row la 66 3 lc (rwV (z)) :: H) Tryz.results47 (Sp.le (by repeat (first | exact Sp.refl _ | exact Sp.sub (by assumption) | refine Sp.cons (by repeat (first | exact Pick.here | apply Pick.there)) ?_ | exact Sp.nil | apply Sp.skip))) ⟨rfl, la, lc, z, hla, NewR.none hz (fun T h => by rw [ndQ, if_pos (by assumption)] at h; simp_all), rfl⟩ | exact Nrm.ret0 (H' := row (some bl) 82 1 1 [slV la3 0 (addL z (rd.args v (natA d))).length lc3] :: row la3 66 3 lc3 (rwV (addL z (rd.args v (natA d)))) :: H) Tryz.results47 (Sp.le (by repeat (first | exact Sp.refl _ | exact Sp.sub (by assumption) | refine Sp.cons (by repeat (first | exact Pick.here | apply Pick.there)) ?_ | exact Sp.nil | apply Sp.skip))) ⟨rfl, la3, lc3, _, q3, NewR.mono (NewR.one (B := fun j => rd.has j = true ∨ v + j ∈ natA d) (Q := fun T => (rd.args v (natA d)).holds v T) hz (Rw.args_fit _ hfd hax) (fun i hi h => Rw.args_has hi _ hax h) (fun T => Iff.rfl) rfl) (Nat.two_pow_pos _) (fun _ h => h) (fun T => by rw [ndQ, if_neg (by omega), if_pos (by omega), Rw.args_holds _ hax]), rfl⟩ | exact Nrm.ret0 (H' := row (some bl) 82 1 1 [slV la2 0 (z2).length lc2] :: row la2 66 3 lc2 (rwV (z2)) :: H) Tryz.results47 (Sp.le (by repeat (first | exact Sp.refl _ | exact Sp.sub (by assumption) | refine Sp.cons (by repeat (first | exact Pick.here | apply Pick.there)) ?_ | exact Sp.nil | apply Sp.skip))) ⟨rfl, la2, lc2, z2, p1, NewR.mono p2 (Nat.le_of_lt Nat.lt_two_pow_self) (fun _ h => h) (fun T => by rw [ndQ, if_neg (by omega), if_neg (by omega), if_pos (by omega), show d.args.length = (natA d).length from hal.symm, List.take_length]), rfl⟩
  try simp only [decide_eq_true_eq, decide_eq_false_iff_not, Bool.and_eq_true, Bool.or_eq_true, Bool.not_eq_true', Bool.and_eq_false_iff, Bool.or_eq_false_iff, Bool.not_eq_false', Int.not_lt, Int.not_le, ne_eq, Decidable.not_not, Option.isSome_iff_ne_none, Option.isNone_iff_eq_none] at hc4
  refine Tri.region ?_
  refine TOps.move rfl rfl ?_
  refine TOps.loadN (vs := [natV v, slV na no F.nodes.length cap nsp, tv]) rfl ti24 (Rd.all (by repeat (first | exact List.Mem.head _ | apply List.Mem.tail))) rfl rfl ?_
  refine TOps.loadN (vs := rd.cells) rfl ti66 (Rd.all (by repeat (first | exact List.Mem.head _ | apply List.Mem.tail))) rfl rfl ?_
  first | refine TOps.fieldB 2 rfl Tryz.underlying48 rfl rfl ti35 rfl rfl rfl ?_ | refine TOps.fieldN 2 rfl Tryz.underlying48 rfl rfl ti35 rfl rfl rfl ?_
  refine TOps.load1 rfl ti35 (Rd.fld (Rd.all (H := _ :: _ :: _ :: row (some b8) 48 3 1 [.int .i64 d.kind, .int .i64 d.k, slV aa ao d.args.length ac asp] :: _) (by repeat (first | exact List.Mem.head _ | apply List.Mem.tail))) 2 rfl) rfl ?_
  first | refine TOps.fieldB 1 rfl Tryz.underlying48 rfl rfl ti3 rfl rfl rfl ?_ | refine TOps.fieldN 1 rfl Tryz.underlying48 rfl rfl ti3 rfl rfl rfl ?_
  have hk4 : d.kind = 4 := by omega
  have hkk := hfit.kk.2.1 hk4
  have hc1 : (natA d).length ≤ ac := by rw [hal]; exact hcap
  have hc2 : (natA d).length ≤ 1000 := by rw [hal]; exact hlen
  have hc3 : d.k.toNat ≤ 1000000 := by omega
  refine TOps.load1 (v := natV d.k.toNat) rfl ti3 (Rd.eqv (Rd.fld (Rd.all (H := _ :: _ :: _ :: row (some b8) 48 3 1 [.int .i64 d.kind, .int .i64 d.k, slV aa ao d.args.length ac asp] :: _) (by repeat (first | exact List.Mem.head _ | apply List.Mem.tail))) 1 rfl) (congrArg (Value.int .i64) (show d.k = ((d.k.toNat : Nat) : Int) by omega))) rfl ?_
  rw [← hal]
  refine TOps.call (vs := [_, _, _, _, _]) Tryz.call68 ⟨rfl, rfl, rfl, rfl, rfl, trivial⟩ (choose_g hv (natA d) (hrA.le (Le.drop (Le.drop (Le.drop (Le.refl _))))) hc1 hc2 hax hfd hz hc3 hla) rfl ?_
  rintro _ _ ⟨rfl, la3, lc3, z3, q3, q4, rfl⟩
  refine TOps.fin ?_
  refine Nrm.unB ?_
  first | exact Nrm.ret0 (H' := row (some bl) 82 1 1 [slV la3 0 (z3).length lc3] :: row la3 66 3 lc3 (rwV (z3)) :: H) Tryz.results47 (Sp.le (by repeat (first | exact Sp.refl _ | exact Sp.sub (by assumption) | refine Sp.cons (by repeat (first | exact Pick.here | apply Pick.there)) ?_ | exact Sp.nil | apply Sp.skip))) ⟨rfl, la3, lc3, z3, q3, NewR.mono q4 (Nat.le_refl _) (fun _ h => h) (fun T => by rw [ndQ, if_neg (by omega), if_neg (by omega), if_neg (by omega)]), rfl⟩ | exact Nrm.ret0 (H' := row (some bl) 82 1 1 [slV la3 0 (addL z rd).length lc3] :: row la3 66 3 lc3 (rwV (addL z rd)) :: H) Tryz.results47 (Sp.le (by repeat (first | exact Sp.refl _ | exact Sp.sub (by assumption) | refine Sp.cons (by repeat (first | exact Pick.here | apply Pick.there)) ?_ | exact Sp.nil | apply Sp.skip))) ⟨rfl, la3, lc3, addL z rd, q3, NewR.mono (NewR.one (B := fun j => rd.has j = true ∨ v + j ∈ natA d) (Q := fun T => rd.holds v T) hz hfd (fun _ _ h => .inl h) (fun T => Iff.rfl) rfl) (Nat.two_pow_pos _) (fun _ h => h) (fun T => by rw [ndQ, if_pos (by assumption)]; exact ⟨fun h => h.1, fun h => ⟨h, by assumption⟩⟩), rfl⟩ | exact Nrm.ret0 (H' := row (some bl) 82 1 1 [slV la 0 (z).length lc] :: row la 66 3 lc (rwV (z)) :: H) Tryz.results47 (Sp.le (by repeat (first | exact Sp.refl _ | exact Sp.sub (by assumption) | refine Sp.cons (by repeat (first | exact Pick.here | apply Pick.there)) ?_ | exact Sp.nil | apply Sp.skip))) ⟨rfl, la, lc, z, hla, NewR.none hz (fun T h => by rw [ndQ, if_pos (by assumption)] at h; simp_all), rfl⟩ | exact Nrm.ret0 (H' := row (some bl) 82 1 1 [slV la3 0 (addL z (rd.args v (natA d))).length lc3] :: row la3 66 3 lc3 (rwV (addL z (rd.args v (natA d)))) :: H) Tryz.results47 (Sp.le (by repeat (first | exact Sp.refl _ | exact Sp.sub (by assumption) | refine Sp.cons (by repeat (first | exact Pick.here | apply Pick.there)) ?_ | exact Sp.nil | apply Sp.skip))) ⟨rfl, la3, lc3, _, q3, NewR.mono (NewR.one (B := fun j => rd.has j = true ∨ v + j ∈ natA d) (Q := fun T => (rd.args v (natA d)).holds v T) hz (Rw.args_fit _ hfd hax) (fun i hi h => Rw.args_has hi _ hax h) (fun T => Iff.rfl) rfl) (Nat.two_pow_pos _) (fun _ h => h) (fun T => by rw [ndQ, if_neg (by omega), if_pos (by omega), Rw.args_holds _ hax]), rfl⟩ | exact Nrm.ret0 (H' := row (some bl) 82 1 1 [slV la2 0 (z2).length lc2] :: row la2 66 3 lc2 (rwV (z2)) :: H) Tryz.results47 (Sp.le (by repeat (first | exact Sp.refl _ | exact Sp.sub (by assumption) | refine Sp.cons (by repeat (first | exact Pick.here | apply Pick.there)) ?_ | exact Sp.nil | apply Sp.skip))) ⟨rfl, la2, lc2, z2, p1, NewR.mono p2 (Nat.le_of_lt Nat.lt_two_pow_self) (fun _ h => h) (fun T => by rw [ndQ, if_neg (by omega), if_neg (by omega), if_pos (by omega), show d.args.length = (natA d).length from hal.symm, List.take_length]), rfl⟩
end Go.Proofs
