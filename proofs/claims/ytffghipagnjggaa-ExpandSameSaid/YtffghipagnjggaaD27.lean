import Derived.Test.YtffghipagnjggaaC27
import Derived.Test.YtffghipagnjggaaGL81
namespace Go.Proofs
open Go.GL
set_option linter.unusedVariables false
set_option linter.unusedSimpArgs false
theorem votes1_g : SpecGives Try.prog 66 43 31 0 := by
  intro HB bb v ms s d aa ac m hm hs ho hv hd ha hac hac2
  have hkk := hd.kk; unfold I64 at hkk
  have hlen := hd.len
  subst hm
  refine Gives.enter Try.func31 rfl (by exact Try.ntmps31) rfl ?_
  refine Tri.seq (Tri.region ?_)
  refine TOps.boxN rfl ti43 rfl rfl (fun b3 => ?_)
  have r3 : Rd (row (some b3) 43 3 1 [.int .i64 d.kind, .int .i64 d.k, slV aa 0 d.args.length ac] :: HB) b3 0 [.int .i64 d.kind, .int .i64 d.k, slV aa 0 d.args.length ac] := Rd.all (by repeat (first | exact List.Mem.head _ | apply List.Mem.tail))
  refine TOps.le mkE_in ?_
  refine TOps.assign rfl rfl ?_
  refine TOps.assign rfl rfl ?_
  refine TOps.next ?_
  refine Tri.seq ?_
  refine Tri.seq (Tri.region ?_)
  refine TOps.field0 rfl Try.underlying43 rfl rfl ti3 rfl rfl rfl ?_
  refine TOps.load1 rfl ti3 (Rd.fld (r3.le mkE_le) 0 rfl) rfl ?_
  refine TOps.neqI rfl rfl rfl ?_
  refine TOps.next ?_
  refine Tri.cond rfl (fun hc1 => ?_) (fun hc1 => ?_)
  · try simp only [decide_eq_true_eq, decide_eq_false_iff_not, Bool.and_eq_true, Bool.or_eq_true, Bool.not_eq_true', Bool.and_eq_false_iff, Bool.or_eq_false_iff, Bool.not_eq_false', Int.not_lt, Int.not_le, ne_eq, Decidable.not_not, Option.isSome_iff_ne_none, Option.isNone_iff_eq_none] at hc1
    have hB : specB 0 d.kind = false := by simp [specB]; omega
    have hR : specV 0 v d ms = (0, ms) := if_neg (by rw [hB]; decide)
    refine Tri.seq (Tri.region ?_)
    refine TOps.assign rfl rfl ?_
    refine TOps.assign rfl rfl ?_
    refine TOps.next ?_
    refine Tri.ret2 (H' := mkE 66 43 bb v ms s HB) Try.results31 (fun _ _ h => h) (.tmp rfl) (.tmp rfl) (mkE_mono (List.sublist_cons_self _ _)) ⟨s, by rw [hR, hB], by rw [hR]; exact hs, by rw [hR]⟩
  try simp only [decide_eq_true_eq, decide_eq_false_iff_not, Bool.and_eq_true, Bool.or_eq_true, Bool.not_eq_true', Bool.and_eq_false_iff, Bool.or_eq_false_iff, Bool.not_eq_false', Int.not_lt, Int.not_le, ne_eq, Decidable.not_not, Option.isSome_iff_ne_none, Option.isNone_iff_eq_none] at hc1
  have hB : specB 0 d.kind = true := by simp [specB]; omega
  have hR : specV 0 v d ms = ((leastM v d.args d.args.length d.k [] ms).1, (leastM v d.args d.args.length d.k [] ms).2.2) := if_pos hB
  obtain ⟨hv1, hv2⟩ := hd.vote (by omega)
  obtain ⟨ab, rfl, _, h0⟩ := ha.at (i := 0) (by omega)
  refine Tri.fin ?_
  refine Nrm.next ?_
  refine Tri.seq (Tri.region ?_)
  refine TOps.move rfl rfl ?_
  first | refine TOps.fieldB 2 rfl Try.underlying43 rfl rfl ti41 rfl rfl rfl ?_ | refine TOps.fieldN 2 rfl Try.underlying43 rfl rfl ti41 rfl rfl rfl ?_
  refine TOps.load1 rfl ti41 (Rd.fld (r3.le mkE_le) 2 rfl) rfl ?_
  refine TOps.makeMade rfl (fun mb => ?_)
  refine TOps.buildStruct (vs := [(0, _), (1, _), (2, _)]) (xs := [_, _, _]) [(0, 1), (1, 1), (2, 1)] Try.underlying56 ti56 (fun w => by simp) ⟨rfl, rfl, rfl, rfl, rfl, rfl, trivial⟩ rfl rfl ?_
  refine TOps.boxN rfl ti56 rfl rfl (fun b15 => ?_)
  refine TOps.le (mkE_inA [row (some b15) 56 3 1 [.pointer (some ⟨bb, 0, none⟩), slV (some ab) 0 d.args.length ac, .map (some mb)], madeEnt mb []]) ?_
  refine TOps.assign rfl rfl ?_
  refine TOps.next ?_
  refine Tri.seq (Tri.region ?_)
  refine TOps.move rfl rfl ?_
  first | refine TOps.fieldB 1 rfl Try.underlying43 rfl rfl ti3 rfl rfl rfl ?_ | refine TOps.fieldN 1 rfl Try.underlying43 rfl rfl ti3 rfl rfl rfl ?_
  refine TOps.load1 rfl ti3 (Rd.fld (r3.le (mkE_le.trans (Le.drop (Le.drop (Le.refl _))))) 1 rfl) rfl ?_
  refine TOps.call (vs := [_, _, _]) Try.call32 ⟨rfl, rfl, rfl, trivial⟩ (least_g hv rfl (by omega) hac hac2 hd.sm d.args.length (Nat.le_refl _) (by omega) 0 (by omega) 0 rfl d.k hv1 hv2 _ (RdS.up ha) [] ms s hs ho (fun q hq => by cases hq) List.Pairwise.nil) rfl ?_
  rintro _ _ ⟨s', rfl, hs', rfl⟩
  refine TOps.assign rfl rfl ?_
  refine TOps.assign rfl rfl ?_
  refine TOps.next ?_
  refine Tri.ret2 (H' := mkE 66 43 bb v (leastM v d.args d.args.length d.k [] ms).2.2 s' HB) Try.results31 (fun _ _ h => h) (.tmp rfl) (.tmp rfl) (mkE_mono (List.Sublist.cons _ (List.Sublist.cons _ (List.Sublist.cons _ (List.Sublist.refl _))))) ⟨s', by rw [hR, hB], by rw [hR]; exact hs', by rw [hR]⟩
set_option maxHeartbeats 1000000 in
theorem xors1_g : SpecGives Try.prog 66 43 36 1 := by
  intro HB bb v ms s d aa ac m hm hs ho hv hd ha hac hac2
  have hkk := hd.kk; unfold I64 at hkk
  have hlen := hd.len
  subst hm
  refine Gives.enter Try.func36 rfl (by exact Try.ntmps36) rfl ?_
  refine Tri.seq (Tri.region ?_)
  refine TOps.boxN rfl ti43 rfl rfl (fun b3 => ?_)
  have r3 : Rd (row (some b3) 43 3 1 [.int .i64 d.kind, .int .i64 d.k, slV aa 0 d.args.length ac] :: HB) b3 0 [.int .i64 d.kind, .int .i64 d.k, slV aa 0 d.args.length ac] := Rd.all (by repeat (first | exact List.Mem.head _ | apply List.Mem.tail))
  refine TOps.le mkE_in ?_
  refine TOps.assign rfl rfl ?_
  refine TOps.assign rfl rfl ?_
  refine TOps.next ?_
  refine Tri.seq ?_
  refine Tri.seq (Tri.region ?_)
  refine TOps.field0 rfl Try.underlying43 rfl rfl ti3 rfl rfl rfl ?_
  refine TOps.load1 rfl ti3 (Rd.fld (r3.le mkE_le) 0 rfl) rfl ?_
  refine TOps.neqI rfl rfl rfl ?_
  refine TOps.next ?_
  refine Tri.cond rfl (fun hc1 => ?_) (fun hc1 => ?_)
  · try simp only [decide_eq_true_eq, decide_eq_false_iff_not, Bool.and_eq_true, Bool.or_eq_true, Bool.not_eq_true', Bool.and_eq_false_iff, Bool.or_eq_false_iff, Bool.not_eq_false', Int.not_lt, Int.not_le, ne_eq, Decidable.not_not, Option.isSome_iff_ne_none, Option.isNone_iff_eq_none] at hc1
    have hB : specB 1 d.kind = false := by simp [specB]; omega
    have hR : specV 1 v d ms = (0, ms) := if_neg (by rw [hB]; decide)
    refine Tri.seq (Tri.region ?_)
    refine TOps.assign rfl rfl ?_
    refine TOps.assign rfl rfl ?_
    refine TOps.next ?_
    refine Tri.ret2 (H' := mkE 66 43 bb v ms s HB) Try.results36 (fun _ _ h => h) (.tmp rfl) (.tmp rfl) (mkE_mono (List.sublist_cons_self _ _)) ⟨s, by rw [hR, hB], by rw [hR]; exact hs, by rw [hR]⟩
  try simp only [decide_eq_true_eq, decide_eq_false_iff_not, Bool.and_eq_true, Bool.or_eq_true, Bool.not_eq_true', Bool.and_eq_false_iff, Bool.or_eq_false_iff, Bool.not_eq_false', Int.not_lt, Int.not_le, ne_eq, Decidable.not_not, Option.isSome_iff_ne_none, Option.isNone_iff_eq_none] at hc1
  have hB : specB 1 d.kind = true := by simp [specB]; omega
  obtain ⟨x0, xr, hxr⟩ := List.exists_cons_of_ne_nil (hd.ne (by omega))
  have hR : specV 1 v d ms = chainX (xor1 v) xr (x0, ms) := by unfold specV; rw [if_pos hB]; show xorM v d.args ms = _; unfold xorM; rw [hxr]; rfl
  have hl : d.args.length = xr.length + 1 := by rw [hxr]; rfl
  have hsm := hd.sm
  rw [hxr] at ha hsm
  rw [hl] at hac hlen r3 ⊢
  obtain ⟨ab, rfl, _, h0⟩ := ha.at (i := 0) (by simp)
  simp only [List.getElem_cons_zero, Nat.add_zero] at h0
  have hx0 := hsm x0 List.mem_cons_self
  refine Tri.fin ?_
  refine Nrm.next ?_
  refine Tri.seq (Tri.region ?_)
  first | refine TOps.fieldB 2 rfl Try.underlying43 rfl rfl ti41 rfl rfl rfl ?_ | refine TOps.fieldN 2 rfl Try.underlying43 rfl rfl ti41 rfl rfl rfl ?_
  refine TOps.load1 rfl ti41 (Rd.fld (r3.le mkE_le) 2 rfl) rfl ?_
  refine TOps.indexAddr (off' := 0) rfl rfl Try.underlying41 ti3 (by omega) (by omega) (by simp) rfl ?_
  refine TOps.load1 rfl ti3 (Rd.le h0 (mkE_le.trans (Le.drop (Le.refl _)))) rfl ?_
  refine TOps.assign rfl rfl ?_
  refine TOps.next ?_
  refine Tri.seq ?_
  refine Tri.seq (Tri.region ?_)
  first | refine TOps.fieldB 2 rfl Try.underlying43 rfl rfl ti41 rfl rfl rfl ?_ | refine TOps.fieldN 2 rfl Try.underlying43 rfl rfl ti41 rfl rfl rfl ?_
  refine TOps.load1 rfl ti41 (Rd.fld (r3.le mkE_le) 2 rfl) rfl ?_
  refine TOps.sliceLo (l := 1) rfl rfl Try.underlying41 ti3 (by omega) rfl ?_
  obtain ⟨xo', hxo'⟩ : ∃ xo', (bif ac == 1 then 0 else 0 + 1 * 1) = xo' := ⟨_, rfl⟩
  rw [hxo']
  have hxr1 : ∀ j, j < xr.length → xo' = 1 := fun j hj => by rw [← hxo', show (ac == 1) = false from beq_eq_false_iff_ne.2 (by omega)]; rfl
  rw [show xr.length + 1 - 1 = xr.length from rfl]
  refine TOps.len rfl Try.underlying41 rfl ?_
  refine TOps.move rfl rfl ?_
  refine TOps.next ?_
  refine Tri.range (X := BS) (fun z k => [(0, .pointer (some ⟨bb, 0, none⟩)), (6, .int .i64 (chainX (xor1 v) (xr.take k) (x0, ms)).1), (20, slV (some ab) xo' xr.length (ac - 1))]) (fun z k => mkE 66 43 bb v (chainX (xor1 v) (xr.take k) (x0, ms)).2 z (row (some b3) 43 3 1 [.int .i64 d.kind, .int .i64 d.k, slV (some ab) 0 (xr.length + 1) ac] :: HB)) (fun z k => z.ok (chainX (xor1 v) (xr.take k) (x0, ms)).2.ns) (by omega) rfl rfl rfl (fun _ _ => ⟨rfl, rfl, rfl, rfl⟩) s hs ⟨rfl, rfl, rfl, trivial⟩ (Le.refl _) (fun k z hlt hp => ?_) (fun z ac wc hp hS hM => ?_)
  · skip
    obtain ⟨g0, sm0⟩ := chainX_ok (f := xor1 v) (fun y r hr => xor1_ok hv y hr) (xr.take k) (x0, ms) ho hx0
    have oW := g0.ok ho
    obtain ⟨W, hW⟩ : ∃ W, chainX (xor1 v) (xr.take k) (x0, ms) = W := ⟨_, rfl⟩
    have hWn : chainX (xor1 v) (xr.take (k + 1)) (x0, ms) = xor1 v xr[k] W := by rw [List.take_succ_eq_append_getElem hlt, chainX_snoc, hW]
    rw [hW] at hp g0 sm0 oW ⊢
    obtain ⟨r1, hr1⟩ : ∃ r, addM v ⟨1, 0, [xr[k]]⟩ W.2 = r := ⟨_, rfl⟩
    have o1 : r1.2.Ok := by rw [← hr1]; exact (addM_gr _ _ _).ok oW
    obtain ⟨r2, hr2⟩ : ∃ r, addM v ⟨2, 0, [W.1, r1.1]⟩ r1.2 = r := ⟨_, rfl⟩
    have o2 : r2.2.Ok := by rw [← hr2]; exact (addM_gr _ _ _).ok o1
    obtain ⟨r3', hr3⟩ : ∃ r, addM v ⟨1, 0, [W.1]⟩ r2.2 = r := ⟨_, rfl⟩
    have o3 : r3'.2.Ok := by rw [← hr3]; exact (addM_gr _ _ _).ok o2
    obtain ⟨r4, hr4⟩ : ∃ r, addM v ⟨2, 0, [r3'.1, xr[k]]⟩ r3'.2 = r := ⟨_, rfl⟩
    have o4 : r4.2.Ok := by rw [← hr4]; exact (addM_gr _ _ _).ok o3
    obtain ⟨r5, hr5⟩ : ∃ r, addM v ⟨3, 0, [r2.1, r4.1]⟩ r4.2 = r := ⟨_, rfl⟩
    have hW5 : xor1 v xr[k] W = r5 := by unfold xor1; dsimp only; rw [hr1, hr2, hr3, hr4, hr5]
    obtain ⟨xb, e', _, hxi⟩ := ha.at (i := k + 1) (by simp; omega)
    obtain rfl := Option.some.inj e'
    rw [List.getElem_cons_succ] at hxi
    have hx1 := hxr1 k hlt
    refine Tri.seq (Tri.region ?_)
    refine TOps.indexAddr (off' := 1 + k) rfl rfl Try.underlying41 ti3 (by omega) (by omega) (by omega) rfl ?_
    refine TOps.load1 rfl ti3 (Rd.le (show Rd HB ab (1 + k) [.int .i64 xr[k]] by rw [show 1 + k = 0 + (k + 1) by omega]; exact hxi) (mkE_le.trans (Le.drop (Le.refl _)))) rfl ?_
    refine TOps.assign rfl rfl ?_
    refine TOps.next ?_
    refine Tri.seq (Tri.region ?_)
    refine TOps.move rfl rfl ?_
    refine TOps.move rfl rfl ?_
    refine TOps.move rfl rfl ?_
    refine TOps.move rfl rfl ?_
    refine TOps.buildSlice (vs := [_]) (xs := [_]) Try.underlying41 ti3 ⟨rfl, rfl, trivial⟩ rfl rfl rfl rfl rfl rfl (by decide) rfl (fun b30 => ?_)
    refine TOps.call (vs := [_, _, _, _]) Try.call37 ⟨rfl, rfl, rfl, rfl, trivial⟩ (padd_g (A := [row (some b30) 3 1 1 [.int .i64 xr[k]]]) (args := [xr[k]]) (m := 1) hp hv oW rfl (by omega) (RdS.ofRowS (List.Mem.head _)) 1 0) rfl ?_
    rintro _ _ ⟨s1, rfl, hs1, rfl⟩
    rw [hr1] at hs1 ⊢
    refine TOps.buildSlice (vs := [_, _]) (xs := [_, _]) Try.underlying41 ti3 ⟨rfl, rfl, rfl, rfl, trivial⟩ rfl rfl rfl rfl rfl rfl (by decide) rfl (fun b32 => ?_)
    refine TOps.call (vs := [_, _, _, _]) Try.call37 ⟨rfl, rfl, rfl, rfl, trivial⟩ (padd_g (A := [row (some b32) 3 1 2 [.int .i64 W.1, .int .i64 r1.1]]) (args := [W.1, r1.1]) (m := 2) hs1 hv o1 rfl (by omega) (RdS.ofRowS (List.Mem.head _)) 2 0) rfl ?_
    rintro _ _ ⟨s2, rfl, hs2, rfl⟩
    rw [hr2] at hs2 ⊢
    refine TOps.assign rfl rfl ?_
    refine TOps.next ?_
    refine Tri.seq (Tri.region ?_)
    refine TOps.move rfl rfl ?_
    refine TOps.move rfl rfl ?_
    refine TOps.move rfl rfl ?_
    refine TOps.buildSlice (vs := [_]) (xs := [_]) Try.underlying41 ti3 ⟨rfl, rfl, trivial⟩ rfl rfl rfl rfl rfl rfl (by decide) rfl (fun b37 => ?_)
    refine TOps.call (vs := [_, _, _, _]) Try.call37 ⟨rfl, rfl, rfl, rfl, trivial⟩ (padd_g (A := [row (some b37) 3 1 1 [.int .i64 W.1]]) (args := [W.1]) (m := 1) hs2 hv o2 rfl (by omega) (RdS.ofRowS (List.Mem.head _)) 1 0) rfl ?_
    rintro _ _ ⟨s3, rfl, hs3, rfl⟩
    rw [hr3] at hs3 ⊢
    refine TOps.move rfl rfl ?_
    refine TOps.buildSlice (vs := [_, _]) (xs := [_, _]) Try.underlying41 ti3 ⟨rfl, rfl, rfl, rfl, trivial⟩ rfl rfl rfl rfl rfl rfl (by decide) rfl (fun b40 => ?_)
    refine TOps.call (vs := [_, _, _, _]) Try.call37 ⟨rfl, rfl, rfl, rfl, trivial⟩ (padd_g (A := [row (some b40) 3 1 2 [.int .i64 r3'.1, .int .i64 xr[k]]]) (args := [r3'.1, xr[k]]) (m := 2) hs3 hv o3 rfl (by omega) (RdS.ofRowS (List.Mem.head _)) 2 0) rfl ?_
    rintro _ _ ⟨s4, rfl, hs4, rfl⟩
    rw [hr4] at hs4 ⊢
    refine TOps.assign rfl rfl ?_
    refine TOps.next ?_
    refine Tri.region ?_
    refine TOps.move rfl rfl ?_
    refine TOps.move rfl rfl ?_
    refine TOps.move rfl rfl ?_
    refine TOps.buildSlice (vs := [_, _]) (xs := [_, _]) Try.underlying41 ti3 ⟨rfl, rfl, rfl, rfl, trivial⟩ rfl rfl rfl rfl rfl rfl (by decide) rfl (fun b45 => ?_)
    refine TOps.call (vs := [_, _, _, _]) Try.call37 ⟨rfl, rfl, rfl, rfl, trivial⟩ (padd_g (A := [row (some b45) 3 1 2 [.int .i64 r2.1, .int .i64 r4.1]]) (args := [r2.1, r4.1]) (m := 2) hs4 hv o4 rfl (by omega) (RdS.ofRowS (List.Mem.head _)) 3 0) rfl ?_
    rintro _ _ ⟨s5, rfl, hs5, rfl⟩
    rw [hr5] at hs5 ⊢
    refine TOps.assign rfl rfl ?_
    refine TOps.fin ?_
    refine Nrm.body s5 (by rw [hWn, hW5]; exact hs5) ⟨rfl, rfl, rfl, (by rw [hWn, hW5]; rfl), rfl, trivial⟩ (by rw [hWn, hW5]; exact Le.refl _)
  rw [List.take_length] at hM hS hp
  refine Nrm.of hS hM ?_
  refine Nrm.next ?_
  refine Tri.seq (Tri.region ?_)
  refine TOps.move rfl rfl ?_
  refine TOps.assign rfl rfl ?_
  refine TOps.assign rfl rfl ?_
  refine TOps.next ?_
  refine Tri.ret2 (H' := mkE 66 43 bb v (chainX (xor1 v) xr (x0, ms)).2 z HB) Try.results36 (fun _ _ h => h) (.tmp rfl) (.tmp rfl) (mkE_mono (List.sublist_cons_self _ _)) ⟨z, by rw [hR, hB], by rw [hR]; exact hp, by rw [hR]⟩
end Go.Proofs
