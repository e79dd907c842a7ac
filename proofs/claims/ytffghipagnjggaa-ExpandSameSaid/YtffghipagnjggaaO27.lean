import Derived.Test.YtffghipagnjggaaN27
namespace Go.Proofs
open Go.GL
set_option linter.unusedVariables false
set_option linter.unusedSimpArgs false
def copiedG (bb : Nat) (F : Fm) (v : Nat) (na nsp : Option Nat) (off cap n : Nat) : Prop :=
    n ≤ F.nodes.length → ∀ (a : Int), 0 ≤ a → a < v + n → ∀ (HB : List Ent), RNodes HB na off F.nodes nsp → ∀ (ms : MS) (s : BS), s.ok ms.ns → ms.Ok →
    Gives Try.prog 43 [.pointer (some ⟨bb, 0, none⟩), .agg (List.toArray [.int .i64 v, slV na off F.nodes.length cap nsp, .int .i64 F.top]), .int .i64 a] (mkE 69 43 bb v ms s HB) (MkR 69 43 bb v (treeM v F.nodes n a ms) HB)
set_option maxHeartbeats 2000000 in
theorem copied_step {bb : Nat} {F : Fm} (hg : F.Good) (hk : F.ok) {v : Nat} (hv : F.vars = v) {na nsp : Option Nat} {off cap n : Nat} (ihs : ∀ m, n = m + 1 → copiedG bb F v na nsp off cap m) : copiedG bb F v na nsp off cap n := by
  have g0 := hg.v0; have g1 := hg.v1; have g2 := hg.n1
  have hvv : (0 : Int) ≤ v ∧ (v : Int) ≤ 24 := by omega
  intro hnN a ha0 ha HB hN ms s hs ho
  refine Gives.enter Try.func43 rfl (by exact Try.ntmps43) rfl ?_
  refine Tri.seq (Tri.region ?_)
  refine TOps.boxN rfl ti24 rfl rfl (fun b4 => ?_)
  have r4 : Rd (row (some b4) 24 3 1 [.int .i64 v, slV na off F.nodes.length cap nsp, .int .i64 F.top] :: HB) b4 0 [.int .i64 v, slV na off F.nodes.length cap nsp, .int .i64 F.top] := Rd.all (by repeat (first | exact List.Mem.head _ | apply List.Mem.tail))
  replace hN : RNodes (row (some b4) 24 3 1 [.int .i64 v, slV na off F.nodes.length cap nsp, .int .i64 F.top] :: HB) na off F.nodes nsp := hN.le (Le.drop (Le.refl _))
  refine TOps.le mkE_in ?_
  obtain ⟨HC, hHC⟩ : ∃ HC, row (some b4) 24 3 1 [.int .i64 v, slV na off F.nodes.length cap nsp, .int .i64 F.top] :: HB = HC := ⟨_, rfl⟩
  have hsub : List.Sublist HB HC := by rw [← hHC]; exact List.sublist_cons_self _ _
  rw [hHC] at r4 hN ⊢
  refine TOps.assign rfl rfl ?_
  refine TOps.next ?_
  refine Tri.seq ?_
  refine Tri.seq (Tri.region ?_)
  refine TOps.move rfl rfl ?_
  refine TOps.field0 rfl Try.underlying24 rfl rfl ti3 rfl rfl rfl ?_
  refine TOps.load1 rfl ti3 (Rd.fld (r4.le mkE_le) 0 rfl) rfl ?_
  refine TOps.lss rfl rfl rfl ?_
  refine TOps.move rfl rfl ?_
  refine' TOps.orB 4 rfl rfl rfl rfl (fun hg1_4 => ?_) ?_; rotate_left
  · have hg1_4' := hg1_4
    try simp only [decide_eq_true_eq, decide_eq_false_iff_not, Bool.and_eq_true, Bool.or_eq_true, Bool.not_eq_true', Bool.and_eq_false_iff, Bool.or_eq_false_iff, Bool.not_eq_false', Int.not_lt, Int.not_le, ne_eq, Decidable.not_not] at hg1_4'
    refine TOps.strip 4 false rfl rfl hg1_4 rfl ?_
    refine TOps.move rfl rfl ?_
    refine TOps.nilCheck rfl rfl ?_
    first | refine TOps.fieldB 2 rfl Try.underlying69 rfl rfl ti4 rfl rfl rfl ?_ | refine TOps.fieldN 2 rfl Try.underlying69 rfl rfl ti4 rfl rfl rfl ?_
    refine TOps.load1 rfl ti4 (Rd.fld mkE_rd 2 rfl) rfl ?_
    refine TOps.blk rfl (by repeat (first | exact Ext.refl _ | refine Ext.cons rfl ?_)) (by repeat (first | exact Le.refl _ | apply Le.drop))
  refine TOps.next ?_
  refine Tri.cond rfl (fun hc1 => ?_) (fun hc1 => ?_)
  · try simp only [decide_eq_true_eq, decide_eq_false_iff_not, Bool.and_eq_true, Bool.or_eq_true, Bool.not_eq_true', Bool.and_eq_false_iff, Bool.or_eq_false_iff, Bool.not_eq_false', Int.not_lt, Int.not_le, ne_eq, Decidable.not_not, Option.isSome_iff_ne_none, Option.isNone_iff_eq_none] at hc1
    have hR : treeM v F.nodes n a ms = (a, ms) := treeM_early hc1
    refine Tri.seq (Tri.region ?_)
    refine TOps.move rfl rfl ?_
    refine TOps.assign rfl rfl ?_
    refine TOps.next ?_
    refine Tri.ret1 (H' := mkE 69 43 bb v ms s HB) Try.results43 (fun _ _ h => h) (.tmp rfl) (mkE_mono hsub) ⟨s, by rw [hR], by rw [hR]; exact hs, by rw [hR]⟩
  try simp only [decide_eq_true_eq, decide_eq_false_iff_not, Bool.and_eq_true, Bool.or_eq_true, Bool.not_eq_true', Bool.and_eq_false_iff, Bool.or_eq_false_iff, Bool.not_eq_false', Int.not_lt, Int.not_le, ne_eq, Decidable.not_not, Option.isSome_iff_ne_none, Option.isNone_iff_eq_none] at hc1
  obtain ⟨n, rfl⟩ : ∃ m, n = m + 1 := ⟨n - 1, by omega⟩
  have ih := ihs n rfl
  obtain ⟨i, hi⟩ : ∃ i : Nat, a = v + i := ⟨(a - v).toNat, by omega⟩
  subst hi
  have hin : i < F.nodes.length := by omega
  obtain ⟨nb, aa, ao, acap, asp, rfl, rfl, hn⟩ := hN.at hin
  have hfi := hg.fits i hin
  rw [hv] at hfi
  have hal := hfi.len
  have hR := treeM_node (v := v) (nodes := F.nodes) (n := n) (i := i) (ms := ms) hin (by intro h; rcases h with h | h; omega; rw [hc1.2] at h; cases h)
  obtain ⟨d, hd⟩ : ∃ d, F.nodes[i] = d := ⟨_, rfl⟩
  rw [hd] at hn hfi hal hR
  have rar := hn.args
  have har : ∀ a ∈ d.args, 0 ≤ a ∧ a < v + n := fun a ha => by have := hfi.args a ha; omega
  refine Tri.fin ?_
  refine Nrm.next ?_
  refine Tri.seq (Tri.region ?_)
  first | refine TOps.fieldB 1 rfl Try.underlying24 rfl rfl ti22 rfl rfl rfl ?_ | refine TOps.fieldN 1 rfl Try.underlying24 rfl rfl ti22 rfl rfl rfl ?_
  refine TOps.load1 rfl ti22 (Rd.fld (r4.le mkE_le) 1 rfl) rfl ?_
  refine TOps.move rfl rfl ?_
  refine TOps.field0 rfl Try.underlying24 rfl rfl ti3 rfl rfl rfl ?_
  refine TOps.load1 rfl ti3 (Rd.fld (r4.le mkE_le) 0 rfl) rfl ?_
  refine TOps.sub (r := (i : Int)) rfl rfl (by rw [wrapI (by omega) (by omega)]; omega) rfl ?_
  refine TOps.indexAddr (off' := off + i * 3) rfl rfl Try.underlying22 ti43 (by omega) (by omega) (by simp) rfl ?_
  refine TOps.loadN (vs := [.int .i64 d.kind, .int .i64 d.k, slV aa ao d.args.length acap asp]) rfl ti43 (hn.cells.le mkE_le) rfl rfl ?_
  refine TOps.alloc ti43 rfl (fun b7 => ?_)
  refine TOps.storeN rfl rfl ti43 rfl rfl (by repeat (first | exact Upd.here | apply Upd.there)) (by first | decide | (simp; done) | (simp; omega)) ?_
  have r7 : Rd (row (some b7) 43 3 1 [.int .i64 d.kind, .int .i64 d.k, slV aa ao d.args.length acap asp] :: HC) b7 0 [.int .i64 d.kind, .int .i64 d.k, slV aa ao d.args.length acap asp] := Rd.all (by repeat (first | exact List.Mem.head _ | apply List.Mem.tail))
  refine TOps.le (H' := mkE 69 43 bb v ms s (row (some b7) 43 3 1 [.int .i64 d.kind, .int .i64 d.k, slV aa ao d.args.length acap asp] :: HC)) mkE_in ?_
  obtain ⟨HD, hHD⟩ : ∃ HD, row (some b7) 43 3 1 [.int .i64 d.kind, .int .i64 d.k, slV aa ao d.args.length acap asp] :: HC = HD := ⟨_, rfl⟩
  have hsub2 : List.Sublist HC HD := by rw [← hHD]; exact List.sublist_cons_self _ _
  rw [hHD] at r7 ⊢
  refine TOps.next ?_
  refine Tri.seq (Tri.region ?_)
  refine TOps.assign rfl rfl ?_
  refine TOps.next ?_
  refine Tri.seq ?_
  refine Tri.seq (Tri.region ?_)
  first | refine TOps.fieldB 2 rfl Try.underlying43 rfl rfl ti41 rfl rfl rfl ?_ | refine TOps.fieldN 2 rfl Try.underlying43 rfl rfl ti41 rfl rfl rfl ?_
  refine TOps.load1 rfl ti41 (Rd.fld (r7.le mkE_le) 2 rfl) rfl ?_
  refine TOps.len rfl Try.underlying41 rfl ?_
  refine TOps.move rfl rfl ?_
  refine TOps.next ?_
  refine Tri.range (X := (Option Nat × Nat) × BS) (fun y k => [(0, .pointer (some ⟨bb, 0, none⟩)), (4, .pointer (some ⟨b4, 0, none⟩)), (7, .pointer (some ⟨b7, 0, none⟩)), (8, slV y.1.1 0 k y.1.2), (31, slV aa ao d.args.length acap asp)]) (fun y k => row y.1.1 3 1 y.1.2 (ints (stepL (treeM v F.nodes n) (d.args.take k) ([], ms)).1) :: mkE 69 43 bb v (stepL (treeM v F.nodes n) (d.args.take k) ([], ms)).2 y.2 HD) (fun y k => y.2.ok (stepL (treeM v F.nodes n) (d.args.take k) ([], ms)).2.ns ∧ (k ≠ 0 → ∃ b, y.1.1 = some b)) (by omega) rfl rfl rfl (fun _ _ => ⟨rfl, rfl, rfl, rfl⟩) ((none, 0), s) ⟨hs, fun h => absurd rfl h⟩ ⟨rfl, rfl, rfl, rfl, rfl, trivial⟩ (Le.addNil (E := 3) (sz := 1)) (fun k y hlt hp => ?_) (fun y ac wc hp hS hM => ?_)
  · skip
    obtain ⟨hy1, hy2⟩ := hp
    obtain ⟨ab, rfl, rfl, hxa⟩ := rar.at hlt
    obtain ⟨h00, h01⟩ := har _ (List.getElem_mem hlt)
    have hso := stepL_ok (v := v) (nodes := F.nodes) (n := n) hvv.2 (d.args.take k) ([], ms) ho
    have hsl := stepL_len (treeM v F.nodes n) (d.args.take k) ([], ms)
    rw [List.length_take] at hsl
    have hsn : stepL (treeM v F.nodes n) (d.args.take (k + 1)) ([], ms) = ((stepL (treeM v F.nodes n) (d.args.take k) ([], ms)).1 ++ [(treeM v F.nodes n d.args[k] (stepL (treeM v F.nodes n) (d.args.take k) ([], ms)).2).1], (treeM v F.nodes n d.args[k] (stepL (treeM v F.nodes n) (d.args.take k) ([], ms)).2).2) := by rw [List.take_succ_eq_append_getElem hlt, stepL_snoc]
    obtain ⟨W, hW⟩ : ∃ W, stepL (treeM v F.nodes n) (d.args.take k) ([], ms) = W := ⟨_, rfl⟩
    rw [hW] at hy1 hso hsl hsn ⊢
    refine Tri.seq (Tri.region ?_)
    refine TOps.indexAddr (off' := ao + k) rfl rfl Try.underlying41 ti3 (by omega) (by omega) (by simp) rfl ?_
    refine TOps.load1 rfl ti3 (hxa.le (Le.drop (mkE_le.trans (Le.sub hsub2)))) rfl ?_
    refine TOps.assign rfl rfl ?_
    refine TOps.next ?_
    refine Tri.region ?_
    refine TOps.move rfl rfl ?_
    refine TOps.move rfl rfl ?_
    refine TOps.loadN (vs := [.int .i64 v, slV (some nb) off F.nodes.length cap none, .int .i64 F.top]) rfl ti24 (r4.le (Le.drop (mkE_le.trans (Le.sub hsub2)))) rfl rfl ?_
    refine TOps.move rfl rfl ?_
    refine TOps.le mkE_in ?_
    refine TOps.call (vs := [_, _, _]) Try.call43 ⟨rfl, rfl, rfl, trivial⟩ (ih (by omega) d.args[k] h00 h01 _ (hN.le (Le.drop (Le.sub hsub2))) W.2 y.2 hy1 hso) rfl ?_
    rintro _ _ ⟨s2, rfl, hs2, rfl⟩
    refine TOps.le mkE_out ?_
    refine TOps.buildSlice (vs := [_]) (xs := [_]) Try.underlying41 ti3 ⟨rfl, rfl, trivial⟩ rfl rfl rfl rfl rfl rfl (by decide) rfl (fun b42 => ?_)
    refine TOps.appendLit rfl rfl Try.underlying41 ti3 rfl (fun _ _ => Upd.here) rfl (by rw [List.length_map, hsl]; simp; omega) rfl (by omega) (by omega) (by simp) rfl (fun b65 cap65 => ?_)
    refine TOps.assign rfl rfl ?_
    refine TOps.fin ?_
    refine Nrm.body ((some b65, cap65), s2) (by rw [hsn]; exact ⟨hs2, fun _ => ⟨_, rfl⟩⟩) ⟨rfl, rfl, rfl, rfl, rfl, rfl, rfl, trivial⟩ (by rw [hsn]; exact Le.rowEq (by simp [ints]))
  rw [List.take_length] at hM hp
  obtain ⟨hy1, hy2⟩ := hp
  have hso := stepL_ok (v := v) (nodes := F.nodes) (n := n) hvv.2 d.args ([], ms) ho
  have hsl := stepL_len (treeM v F.nodes n) d.args ([], ms)
  obtain ⟨W, hW⟩ : ∃ W, stepL (treeM v F.nodes n) d.args ([], ms) = W := ⟨_, rfl⟩
  rw [hW] at hM hy1 hso hsl hR
  simp only [List.length_nil, Nat.zero_add] at hsl
  have hne : ints W.1 ≠ [] → ∃ b, y.1.1 = some b := fun h => hy2 (by intro h0; rw [h0] at hsl; exact h (by rw [List.eq_nil_of_length_eq_zero hsl]; rfl))
  refine Nrm.of hS hM ?_
  refine Nrm.next ?_
  refine Tri.seq (Tri.region ?_)
  refine TOps.move rfl rfl ?_
  refine TOps.field0 rfl Try.underlying43 rfl rfl ti3 rfl rfl rfl ?_
  refine TOps.load1 rfl ti3 (Rd.fld (r7.le (Le.drop mkE_le)) 0 rfl) rfl ?_
  first | refine TOps.fieldB 1 rfl Try.underlying43 rfl rfl ti3 rfl rfl rfl ?_ | refine TOps.fieldN 1 rfl Try.underlying43 rfl rfl ti3 rfl rfl rfl ?_
  refine TOps.load1 rfl ti3 (Rd.fld (r7.le (Le.drop mkE_le)) 1 rfl) rfl ?_
  refine TOps.move rfl rfl ?_
  refine TOps.call (vs := [_, _, _, _]) Try.call50 ⟨rfl, rfl, rfl, rfl, trivial⟩ (rnode27_g (A := [row y.1.1 3 1 y.1.2 (ints W.1)]) (args := W.1) hy1 hvv hso hsl (by omega) (RdS.ofRowA (List.Mem.head _) hne) d.kind d.k) rfl ?_
  rintro _ _ ⟨s3, rfl, hs3, rfl⟩
  refine TOps.assign rfl rfl ?_
  refine TOps.next ?_
  refine Tri.ret1 (H' := mkE 69 43 bb v (addM v ⟨d.kind, d.k, W.1⟩ W.2).2 s3 HB) Try.results43 (fun _ _ h => h) (.tmp rfl) (mkE_mono (hsub.trans hsub2)) ⟨s3, by rw [hR], by rw [hR]; exact hs3, by rw [hR]⟩
theorem copied_g {bb : Nat} {F : Fm} (hg : F.Good) (hk : F.ok) {v : Nat} (hv : F.vars = v) {na nsp : Option Nat} {off cap : Nat} : ∀ (n : Nat), copiedG bb F v na nsp off cap n
  | 0 => copied_step hg hk hv (fun m h => by cases h)
  | n + 1 => copied_step hg hk hv (fun m h => by cases h; exact copied_g hg hk hv n)
end Go.Proofs
