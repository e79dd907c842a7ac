import Derived.Test.YthehdjppejmfcaaWA
import Derived.Test.YthehdjppejmfcaaProg
import Derived.KernelRfl
import Derived.Test.YthehdjppejmfcaaWB
namespace Go.Proofs
open Go.GL
theorem ti3 : TI Try.prog 3 false [.int .i64 0] 1 8 := TI.mk' (by kernel_rfl) rfl Try.isAgg3
theorem ti4 : TI Try.prog 4 false [.bool false] 1 1 := TI.mk' (by kernel_rfl) rfl Try.isAgg4
theorem ti22 : TI Try.prog 22 false [slV none 0 0 0] 1 24 := TI.mk' (by kernel_rfl) rfl Try.isAgg22
theorem ti24 : TI Try.prog 24 true [.int .i64 0, slV none 0 0 0, .int .i64 0] 3 40 := TI.mk' (by kernel_rfl) rfl Try.isAgg24
theorem ti25 : TI Try.prog 25 false [slV none 0 0 0] 1 24 := TI.mk' (by kernel_rfl) rfl Try.isAgg25
theorem ti27 : TI Try.prog 27 true [.int .i64 0, slV none 0 0 0, .int .i64 0] 3 40 := TI.mk' (by kernel_rfl) rfl Try.isAgg27
theorem ti32 : TI Try.prog 32 true [.bool false, .int .i64 0, .int .i64 0, .int .i64 0, .int .i64 0] 5 40 := TI.mk' (by kernel_rfl) rfl Try.isAgg32
theorem ti34 : TI Try.prog 34 false [.nilIface] 1 16 := TI.mk' (by kernel_rfl) rfl Try.isAgg34
theorem ti53 : TI Try.prog 53 false [slV none 0 0 0] 1 24 := TI.mk' (by kernel_rfl) rfl Try.isAgg53
theorem ti55 : TI Try.prog 55 true [.int .i64 0, slV none 0 0 0] 2 32 := TI.mk' (by kernel_rfl) rfl Try.isAgg55
theorem ti61 : TI Try.prog 61 false [.pointer none] 1 8 := TI.mk' (by kernel_rfl) rfl Try.isAgg61
theorem ti63 : TI Try.prog 63 true [.int .i64 0, .int .i64 0] 2 16 := TI.mk' (by kernel_rfl) rfl Try.isAgg63
theorem ti65 : TI Try.prog 65 false [slV none 0 0 0] 1 24 := TI.mk' (by kernel_rfl) rfl Try.isAgg65
theorem ti67 : TI Try.prog 67 true [slV none 0 0 0, slV none 0 0 0, .int .i64 0] 3 56 := TI.mk' (by kernel_rfl) rfl Try.isAgg67
theorem ti75 : TI Try.prog 75 false [.nilFunc] 1 8 := TI.mk' (by kernel_rfl) rfl Try.isAgg75
theorem ti77 : TI Try.prog 77 false [slV none 0 0 0] 1 24 := TI.mk' (by kernel_rfl) rfl Try.isAgg77
theorem ti84 : TI Try.prog 84 true [.int .i64 0, slV none 0 0 0, .int .i64 0, .int .i64 0, slV none 0 0 0, .int .i64 0, slV none 0 0 0, .int .i64 0] 8 112 := TI.mk' (by kernel_rfl) rfl Try.isAgg84
theorem ti88 : TI Try.prog 88 true [.int .i64 0, .int .i64 0] 2 16 := TI.mk' (by kernel_rfl) rfl Try.isAgg88
theorem ti94 : TI Try.prog 94 true [.int .i64 0, .int .i64 0, .int .i64 0] 3 24 := TI.mk' (by kernel_rfl) rfl Try.isAgg94
theorem ti98 : TI Try.prog 98 false [slV none 0 0 0] 1 24 := TI.mk' (by kernel_rfl) rfl Try.isAgg98
theorem ti100 : TI Try.prog 100 true [.int .i64 0, slV none 0 0 0, .int .i64 0, .int .i64 0, slV none 0 0 0] 5 72 := TI.mk' (by kernel_rfl) rfl Try.isAgg100
theorem ti102 : TI Try.prog 102 true [.int .i64 0, .int .i64 0, slV none 0 0 0] 3 40 := TI.mk' (by kernel_rfl) rfl Try.isAgg102
theorem ti106 : TI Try.prog 106 true [.int .i64 0, slV none 0 0 0, .int .i64 0, .int .i64 0, slV none 0 0 0, .int .i64 0, .int .i64 0, .bool false, .nilIface] 9 112 := TI.mk' (by kernel_rfl) rfl Try.isAgg106
theorem ti112 : TI Try.prog 112 false [.map none] 1 8 := TI.mk' (by kernel_rfl) rfl Try.isAgg112
theorem ti113 : TI Try.prog 113 false [.map none] 1 8 := TI.mk' (by kernel_rfl) rfl Try.isAgg113
theorem ti115 : TI Try.prog 115 true [slV none 0 0 0, slV none 0 0 0, slV none 0 0 0, .map none, .map none] 5 88 := TI.mk' (by kernel_rfl) rfl Try.isAgg115
theorem ti123 : TI Try.prog 123 true [.int .i64 0, .int .i64 0, .int .i64 0] 3 24 := TI.mk' (by kernel_rfl) rfl Try.isAgg123
theorem ti125 : TI Try.prog 125 false [.map none] 1 8 := TI.mk' (by kernel_rfl) rfl Try.isAgg125
theorem ti126 : TI Try.prog 126 false [.nilFunc] 1 8 := TI.mk' (by kernel_rfl) rfl Try.isAgg126
theorem ti128 : TI Try.prog 128 false [.map none] 1 8 := TI.mk' (by kernel_rfl) rfl Try.isAgg128
theorem ti137 : TI Try.prog 137 true [.int .i64 0, .bool false, .bool false] 3 16 := TI.mk' (by kernel_rfl) rfl Try.isAgg137
theorem ti144 : TI Try.prog 144 true [.int .i64 0, slV none 0 0 0, .int .i64 0, slV none 0 0 0, slV none 0 0 0] 5 88 := TI.mk' (by kernel_rfl) rfl Try.isAgg144
theorem ti148 : TI Try.prog 148 true [.int .i64 0, .int .i64 0, .int .i64 0] 3 24 := TI.mk' (by kernel_rfl) rfl Try.isAgg148
theorem ti152 : TI Try.prog 152 true [.int .i64 0, .int .i64 0] 2 16 := TI.mk' (by kernel_rfl) rfl Try.isAgg152
end Go.Proofs
namespace Go.Proofs
open Go.GL
set_option linter.unusedVariables false
set_option linter.unusedSimpArgs false
def DTy (D : TS) : Prop := D.tT = 115 ∧ D.tN = 123 ∧ D.tI = 3
theorem keyDn : KeyT Try.prog 123 dnV okDn := KeyT.dn (E := 3) (by kernel_rfl) Try.underlying123 rfl rfl rfl rfl rfl rfl (by decide +kernel) Try.underlying3 (by kernel_rfl) (of_decide_eq_true (by kernel_rfl)) (of_decide_eq_true (by kernel_rfl)) (by kernel_rfl) (by kernel_rfl)
theorem keyTri : KeyT Try.prog 148 triV okTri := KeyT.tri (E := 3) (by kernel_rfl) Try.underlying148 Try.underlying3 (by kernel_rfl) (of_decide_eq_true (by kernel_rfl)) (of_decide_eq_true (by kernel_rfl)) (by kernel_rfl) (by kernel_rfl)
theorem keyNat : KeyT Try.prog 3 natV ok63 := KeyT.nat Try.underlying3
theorem zeroNat (w : World) : (zeroValue 3).run Try.prog w = .ok (natV 0) w := zeroInt (by kernel_rfl) w
theorem dlvl_g {H : List Ent} {D : TS} {t : Tb} (hD : TSOk D) (h : TbOk D t) (ht : TabRd H D t) {r : Nat} (hr : r < 2 + t.sz) :
    Gives Try.prog 78 [.pointer (some ⟨D.bt, 0, none⟩), natV r] H (R1 (natV (D.lv t r)) H) := by
  have hh := ht.hd
  unfold TS.head at hh
  have hl := h.len
  refine Gives.enter Try.func78 rfl (by exact Try.ntmps78) rfl ?_
  refine Tri.seq (Tri.region ?_)
  refine TOps.assign rfl rfl ?_
  refine TOps.next ?_
  refine Tri.seq ?_
  refine Tri.seq (Tri.region ?_)
  refine TOps.move rfl rfl ?_
  refine TOps.lss rfl rfl rfl ?_
  refine TOps.next ?_
  refine Tri.cond rfl (fun hc1 => ?_) (fun hc1 => ?_)
  · try simp only [decide_eq_true_eq, decide_eq_false_iff_not, Bool.and_eq_true, Bool.or_eq_true, Bool.not_eq_true', Bool.and_eq_false_iff, Bool.or_eq_false_iff, Bool.not_eq_false', Int.not_lt, Int.not_le, ne_eq, Decidable.not_not, Option.isSome_iff_ne_none, Option.isNone_iff_eq_none] at hc1
    have e : D.lv t r = D.n := lvl_const _ _ _ (by omega)
    refine Tri.seq (Tri.region ?_)
    refine TOps.move rfl rfl ?_
    refine TOps.nilCheck rfl rfl ?_
    refine TOps.field0 rfl Try.underlying115 rfl rfl ti53 rfl rfl rfl ?_
    refine TOps.load1 rfl ti53 (by first | exact Rd.lit (by repeat (first | exact List.Mem.head _ | apply List.Mem.tail)) rfl | (repeat (first | assumption | exact Rd.fld (by assumption) 0 rfl | apply Rd.up))) rfl ?_
    refine TOps.len rfl Try.underlying53 rfl ?_
    refine TOps.assign rfl rfl ?_
    refine TOps.next ?_
    refine Tri.ret1 (H' := H) Try.results78 (fun _ _ h => h) (.tmp rfl) (Le.refl _) ⟨by rw [e], rfl⟩
  try simp only [decide_eq_true_eq, decide_eq_false_iff_not, Bool.and_eq_true, Bool.or_eq_true, Bool.not_eq_true', Bool.and_eq_false_iff, Bool.or_eq_false_iff, Bool.not_eq_false', Int.not_lt, Int.not_le, ne_eq, Decidable.not_not, Option.isSome_iff_ne_none, Option.isNone_iff_eq_none] at hc1
  obtain ⟨i, rfl⟩ : ∃ i, r = 2 + i := ⟨r - 2, by omega⟩
  have hi : i < t.ns.length := by unfold Tb.sz at hr; omega
  have d := h.dok.dg i hi
  have dv := d.v
  have n24 := hD.n24
  obtain ⟨nb, hnb, hn⟩ := ht.node hi
  have hpl := ht.place (v := t.ns[i].v) (by rw [hD.op.lp]; exact dv)
  have e : D.lv t (2 + i) = D.pl.getD t.ns[i].v 0 := lvl_node _ _ _ hi
  rw [hnb] at hh
  refine Tri.fin ?_
  refine Nrm.next ?_
  refine Tri.seq ?_
  refine Tri.drawC rfl [(0, .pointer (some ⟨D.bt, 0, none⟩)), (1, natV (2 + i))] [] [_, _, _, _, _, _, _, _, _, _, _, _, _, _, _, _] (H) [15] rfl ⟨rfl, rfl, trivial⟩ trivial (by repeat (first | exact Le.refl _ | assumption | apply Le.drop)) (by
    refine ⟨?_, ?_, ?_, ?_, ?_, ?_, ?_, ?_, ?_, ?_, ?_, ?_, ?_, ?_, ?_, ?_, trivial⟩
    · refine ⟨fun x S c he hw hd hc hcu hm _ => ?_, trivial⟩
      refine TOps.move (he _ _ rfl) rfl ?_
      exact TOps.fd x rfl rfl
    · refine ⟨fun x S c he hw hd hc hcu hm _ => ?_, trivial⟩
      obtain ⟨h0, -⟩ := hd
      refine TOps.nilCheck h0 rfl ?_
      exact TOps.fd x rfl rfl
    · refine ⟨fun x S c he hw hd hc hcu hm _ => ?_, trivial⟩
      obtain ⟨h1, -⟩ := hd
      first | refine TOps.fieldB 1 h1 Try.underlying115 rfl rfl ti53 rfl rfl rfl ?_ | refine TOps.fieldN 1 h1 Try.underlying115 rfl rfl ti53 rfl rfl rfl ?_
      exact TOps.fd x rfl rfl
    · refine ⟨fun x S c he hw hd hc hcu hm _ => ?_, trivial⟩
      obtain ⟨h2, -⟩ := hd
      refine TOps.load1 h2 ti53 (by first | exact Rd.lit (by repeat (first | exact List.Mem.head _ | apply List.Mem.tail)) rfl | (repeat (first | assumption | exact Rd.fld (by assumption) 1 rfl | apply Rd.up))) rfl ?_
      exact TOps.fd x rfl rfl
    · refine ⟨fun x S c he hw hd hc hcu hm _ => ?_, trivial⟩
      refine TOps.move (he _ _ rfl) rfl ?_
      exact TOps.fd x rfl rfl
    · refine ⟨fun x S c he hw hd hc hcu hm _ => ?_, trivial⟩
      obtain ⟨h4, -⟩ := hd
      refine TOps.nilCheck h4 rfl ?_
      exact TOps.fd x rfl rfl
    · refine ⟨fun x S c he hw hd hc hcu hm _ => ?_, trivial⟩
      obtain ⟨h5, -⟩ := hd
      first | refine TOps.fieldB 2 h5 Try.underlying115 rfl rfl ti65 rfl rfl rfl ?_ | refine TOps.fieldN 2 h5 Try.underlying115 rfl rfl ti65 rfl rfl rfl ?_
      exact TOps.fd x rfl rfl
    · refine ⟨fun x S c he hw hd hc hcu hm _ => ?_, trivial⟩
      obtain ⟨h6, -⟩ := hd
      refine TOps.load1 h6 ti65 (by first | exact Rd.lit (by repeat (first | exact List.Mem.head _ | apply List.Mem.tail)) rfl | (repeat (first | assumption | exact Rd.fld (by assumption) 2 rfl | apply Rd.up))) rfl ?_
      exact TOps.fd x rfl rfl
    · refine ⟨fun x S c he hw hd hc hcu hm _ => ?_, trivial⟩
      refine TOps.move (he _ _ rfl) rfl ?_
      exact TOps.fd x rfl rfl
    · refine ⟨fun x S c he hw hd hc hcu hm _ => ?_, trivial⟩
      obtain ⟨h8, -⟩ := hd
      refine TOps.sub (r := (i : Int)) h8 rfl (by rw [wrapI (by omega) (by omega)]; omega) rfl ?_
      exact TOps.fd x rfl rfl
    · refine ⟨fun x S c he hw hd hc hcu hm _ => ?_, trivial⟩
      obtain ⟨h7, h9, -⟩ := hd
      refine TOps.indexAddr (off' := i * 3) h7 h9 Try.underlying65 ti123 (by omega) (by omega) (by simp) rfl ?_
      exact TOps.fd x rfl rfl
    · refine ⟨fun x S c he hw hd hc hcu hm _ => ?_, trivial⟩
      obtain ⟨h10, -⟩ := hd
      refine TOps.field0 h10 Try.underlying123 rfl rfl ti3 rfl rfl rfl ?_
      exact TOps.fd x rfl rfl
    · refine ⟨fun x S c he hw hd hc hcu hm _ => ?_, trivial⟩
      obtain ⟨h11, -⟩ := hd
      refine TOps.load1 h11 ti3 (Rd.pre hn 1) rfl ?_
      exact TOps.fd x rfl rfl
    · refine ⟨fun x S c he hw hd hc hcu hm _ => ?_, trivial⟩
      obtain ⟨h3, h12, -⟩ := hd
      refine TOps.indexAddr (off' := t.ns[i].v) h3 h12 Try.underlying53 ti3 (by omega) (by omega) (by simp) rfl ?_
      exact TOps.fd x rfl rfl
    · refine ⟨fun x S c he hw hd hc hcu hm _ => ?_, trivial⟩
      obtain ⟨h13, -⟩ := hd
      refine TOps.load1 h13 ti3 hpl rfl ?_
      exact TOps.fd x rfl rfl
    · refine ⟨fun x S c he hw hd hc hcu hm _ => ?_, trivial⟩
      obtain ⟨h14, h0, h1, h2, h3, h4, h5, h6, h7, h8, h9, h10, h11, h12, h13, _, -⟩ := hd
      refine TOps.assign h14 rfl ?_
      exact TOps.fd x rfl rfl
    ) ?_
  refine Nrm.next ?_
  refine Tri.ret1 (H' := H) Try.results78 (fun _ _ h => h) (.tmp rfl) (Le.refl _) ⟨by rw [e]; rfl, rfl⟩
theorem kids_g {H : List Ent} {D : TS} {t : Tb} (hD : TSOk D) (h : TbOk D t) (ht : TabRd H D t) {r L : Nat} (hr : r < 2 + t.sz) (hL : L < D.n) :
    Gives Try.prog 79 [.pointer (some ⟨D.bt, 0, none⟩), natV r, natV L] H (R1 (.tuple (List.toArray [natV (t.kids D r L).1, natV (t.kids D r L).2])) H) := by
  have hh := ht.hd
  unfold TS.head at hh
  have hl := h.len
  refine Gives.enter Try.func79 rfl (by exact Try.ntmps79) rfl ?_
  refine Tri.seq (Tri.region ?_)
  refine TOps.assign rfl rfl ?_
  refine TOps.assign rfl rfl ?_
  refine TOps.next ?_
  refine Tri.seq ?_
  refine Tri.seq (Tri.region ?_)
  refine TOps.move rfl rfl ?_
  refine TOps.move rfl rfl ?_
  refine TOps.call (vs := [_, _]) Try.call78 ⟨rfl, rfl, trivial⟩ (dlvl_g hD h ht hr) rfl ?_
  rintro _ _ ⟨rfl, rfl⟩
  refine TOps.move rfl rfl ?_
  refine TOps.neqI rfl rfl rfl ?_
  refine TOps.next ?_
  refine Tri.cond rfl (fun hc1 => ?_) (fun hc1 => ?_)
  · try simp only [decide_eq_true_eq, decide_eq_false_iff_not, Bool.and_eq_true, Bool.or_eq_true, Bool.not_eq_true', Bool.and_eq_false_iff, Bool.or_eq_false_iff, Bool.not_eq_false', Int.not_lt, Int.not_le, ne_eq, Decidable.not_not, Option.isSome_iff_ne_none, Option.isNone_iff_eq_none] at hc1
    have e : t.kids D r L = (r, r) := if_neg (by omega)
    refine Tri.seq (Tri.region ?_)
    refine TOps.move rfl rfl ?_
    refine TOps.move rfl rfl ?_
    refine TOps.assign rfl rfl ?_
    refine TOps.assign rfl rfl ?_
    refine TOps.next ?_
    refine Tri.ret2 (H' := H) Try.results79 (fun _ _ h => h) (.tmp rfl) (.tmp rfl) (Le.refl _) ⟨by rw [e], rfl⟩
  try simp only [decide_eq_true_eq, decide_eq_false_iff_not, Bool.and_eq_true, Bool.or_eq_true, Bool.not_eq_true', Bool.and_eq_false_iff, Bool.or_eq_false_iff, Bool.not_eq_false', Int.not_lt, Int.not_le, ne_eq, Decidable.not_not, Option.isSome_iff_ne_none, Option.isNone_iff_eq_none] at hc1
  have e0 : D.lv t r = L := by omega
  have e : t.kids D r L = ((t.ns.getD (r - 2) default).lo, (t.ns.getD (r - 2) default).hi) := if_pos e0
  have h2 : 2 ≤ r := Nat.le_of_not_lt fun h2 => by have := lvl_const D.n D.pl t.ns h2; unfold TS.lv at e0; omega
  obtain ⟨i, rfl⟩ : ∃ i, r = 2 + i := ⟨r - 2, by omega⟩
  have hi : i < t.ns.length := by unfold Tb.sz at hr; omega
  rw [show t.ns.getD (2 + i - 2) default = t.ns[i] by rw [show 2 + i - 2 = i by omega]; simp [hi]] at e
  obtain ⟨nb, hnb, hn⟩ := ht.node hi
  rw [hnb] at hh
  refine Tri.fin ?_
  refine Nrm.next ?_
  refine Tri.seq (Tri.region ?_)
  refine TOps.move rfl rfl ?_
  refine TOps.nilCheck rfl rfl ?_
  first | refine TOps.fieldB 2 rfl Try.underlying115 rfl rfl ti65 rfl rfl rfl ?_ | refine TOps.fieldN 2 rfl Try.underlying115 rfl rfl ti65 rfl rfl rfl ?_
  refine TOps.load1 rfl ti65 (by first | exact Rd.lit (by repeat (first | exact List.Mem.head _ | apply List.Mem.tail)) rfl | (repeat (first | assumption | exact Rd.fld (by assumption) 2 rfl | apply Rd.up))) rfl ?_
  refine TOps.move rfl rfl ?_
  refine TOps.sub (r := (i : Int)) rfl rfl (by rw [wrapI (by omega) (by omega)]; omega) rfl ?_
  refine TOps.indexAddr (off' := i * 3) rfl rfl Try.underlying65 ti123 (by omega) (by omega) (by simp) rfl ?_
  refine TOps.loadN (vs := dnCells t.ns[i]) rfl ti123 hn rfl rfl ?_
  refine TOps.alloc ti123 rfl (fun b8 => ?_)
  refine TOps.storeN rfl rfl ti123 rfl rfl (by repeat (first | exact Upd.here | apply Upd.there)) (by first | decide | (simp; done) | (simp; omega)) ?_
  show TOps _ _ _ (row (some b8) _ 3 1 (dnCells t.ns[i]) :: H) _ _ _
  unfold dnCells
  refine TOps.next ?_
  refine Tri.seq ?_
  refine Tri.drawC rfl [(8, .pointer (some ⟨b8, 0, none⟩))] [] [_, _, _, _, _, _] (row (some b8) 123 3 1 [natV t.ns[i].v, natV t.ns[i].lo, natV t.ns[i].hi] :: H) [4, 5] rfl ⟨rfl, trivial⟩ trivial (by repeat (first | exact Le.refl _ | assumption | apply Le.drop)) (by
    refine ⟨?_, ?_, ?_, ?_, ?_, ?_, trivial⟩
    · refine ⟨fun x S c he hw hd hc hcu hm _ => ?_, trivial⟩
      first | refine TOps.fieldB 1 (he _ _ rfl) Try.underlying123 rfl rfl ti3 rfl rfl rfl ?_ | refine TOps.fieldN 1 (he _ _ rfl) Try.underlying123 rfl rfl ti3 rfl rfl rfl ?_
      exact TOps.fd x rfl rfl
    · refine ⟨fun x S c he hw hd hc hcu hm _ => ?_, trivial⟩
      obtain ⟨h0, -⟩ := hd
      refine TOps.load1 h0 ti3 (by first | exact Rd.lit (by repeat (first | exact List.Mem.head _ | apply List.Mem.tail)) rfl | (repeat (first | assumption | exact Rd.fld (by assumption) 1 rfl | apply Rd.up))) rfl ?_
      exact TOps.fd x rfl rfl
    · refine ⟨fun x S c he hw hd hc hcu hm _ => ?_, trivial⟩
      first | refine TOps.fieldB 2 (he _ _ rfl) Try.underlying123 rfl rfl ti3 rfl rfl rfl ?_ | refine TOps.fieldN 2 (he _ _ rfl) Try.underlying123 rfl rfl ti3 rfl rfl rfl ?_
      exact TOps.fd x rfl rfl
    · refine ⟨fun x S c he hw hd hc hcu hm _ => ?_, trivial⟩
      obtain ⟨h2, -⟩ := hd
      refine TOps.load1 h2 ti3 (by first | exact Rd.lit (by repeat (first | exact List.Mem.head _ | apply List.Mem.tail)) rfl | (repeat (first | assumption | exact Rd.fld (by assumption) 2 rfl | apply Rd.up))) rfl ?_
      exact TOps.fd x rfl rfl
    · refine ⟨fun x S c he hw hd hc hcu hm _ => ?_, trivial⟩
      obtain ⟨h1, h0, _, -⟩ := hd
      refine TOps.assign h1 rfl ?_
      exact TOps.fd x rfl rfl
    · refine ⟨fun x S c he hw hd hc hcu hm _ => ?_, trivial⟩
      obtain ⟨h3, h4, h0, h1, h2, _, _, -⟩ := hd
      refine TOps.assign h3 rfl ?_
      exact TOps.fd x rfl rfl
    ) ?_
  refine Nrm.next ?_
  refine Tri.ret2 (H' := H) Try.results79 (fun _ _ h => h) (.tmp rfl) (.tmp rfl) (Le.drop (Le.refl _)) ⟨by rw [e]; rfl, rfl⟩
theorem make_g {H : List Ent} {D : TS} {t : Tb} (hD : TSOk D) (hty : DTy D) (h : TbOk D t) {v lo hi : Nat} (hv : v < D.n) (hlo : lo < 2 + t.sz) (hhi : hi < 2 + t.sz) (hl : D.pl.getD v 0 < D.lv t lo) (hh : D.pl.getD v 0 < D.lv t hi) (hs : t.sz < 1099511627776) :
    Gives Try.prog 52 [.pointer (some ⟨D.bt, 0, none⟩), natV v, natV lo, natV hi] (tabE D t :: H) (MkG D t v lo hi H) := by
  have n24 := hD.n24
  have hu := h.ukeys hD
  have hlen0 := h.len
  have hok : okDn ⟨v, lo, hi⟩ := ⟨(show v < 9223372036854775808 by omega), (show lo < 9223372036854775808 by omega), (show hi < 9223372036854775808 by omega)⟩
  refine Gives.enter Try.func52 rfl (by exact Try.ntmps52) rfl ?_
  refine Tri.seq (Tri.region ?_)
  refine TOps.assign rfl rfl ?_
  refine TOps.next ?_
  refine Tri.seq ?_
  refine Tri.seq (Tri.region ?_)
  refine TOps.move rfl rfl ?_
  refine TOps.move rfl rfl ?_
  refine TOps.eqlI rfl rfl rfl ?_
  refine TOps.next ?_
  refine Tri.cond rfl (fun hc1 => ?_) (fun hc1 => ?_)
  · try simp only [decide_eq_true_eq, decide_eq_false_iff_not, Bool.and_eq_true, Bool.or_eq_true, Bool.not_eq_true', Bool.and_eq_false_iff, Bool.or_eq_false_iff, Bool.not_eq_false', Int.not_lt, Int.not_le, ne_eq, Decidable.not_not, Option.isSome_iff_ne_none, Option.isNone_iff_eq_none] at hc1
    have e : lo = hi := by omega
    subst e
    refine Tri.seq (Tri.region ?_)
    refine TOps.move rfl rfl ?_
    refine TOps.assign rfl rfl ?_
    refine TOps.next ?_
    refine Tri.ret1 (H' := tabE D t :: H) Try.results52 (fun _ _ h => h) (.tmp rfl) (Le.refl _) ⟨t, lo, rfl, MkOk.same h hlo hl, rfl⟩
  try simp only [decide_eq_true_eq, decide_eq_false_iff_not, Bool.and_eq_true, Bool.or_eq_true, Bool.not_eq_true', Bool.and_eq_false_iff, Bool.or_eq_false_iff, Bool.not_eq_false', Int.not_lt, Int.not_le, ne_eq, Decidable.not_not, Option.isSome_iff_ne_none, Option.isNone_iff_eq_none] at hc1
  have hne : lo ≠ hi := by omega
  refine Tri.fin ?_
  refine Nrm.next ?_
  refine Tri.seq (Tri.region ?_)
  refine TOps.move rfl rfl ?_
  refine TOps.move rfl rfl ?_
  refine TOps.move rfl rfl ?_
  refine TOps.buildStruct (vs := [(0, _), (1, _), (2, _)]) (xs := [_, _, _]) [(0, 1), (1, 1), (2, 1)] Try.underlying123 ti123 (fun w => by simp) ⟨rfl, rfl, rfl, rfl, rfl, rfl, trivial⟩ rfl rfl ?_
  refine TOps.alloc ti123 rfl (fun b9 => ?_)
  refine TOps.storeN rfl rfl ti123 rfl rfl (by repeat (first | exact Upd.here | apply Upd.there)) (by first | decide | (simp; done) | (simp; omega)) ?_
  refine TOps.le (Le.swap.trans (Le.openT hty.1 hty.2.1 hty.2.2)) ?_
  refine TOps.next ?_
  refine Tri.seq ?_
  refine Tri.drawC rfl [(0, .pointer (some ⟨D.bt, 0, none⟩)), (9, .pointer (some ⟨b9, 0, none⟩))] [] [_, _, _, _, _, _, _, _, _, _, _] (row (some D.bt) 115 5 1 [slV D.oa 0 D.n D.oc, slV (some D.pa) 0 D.n D.n, slV t.na 0 t.ns.length t.nc, .map (some D.bu), .map (some D.bm)] :: row D.oa 3 1 D.oc (nats D.ord) :: row (some D.pa) 3 1 D.n (nats D.pl) :: row t.na 123 3 t.nc (dnsV t.ns) :: tmap dnV natV D.bu (uniqT t.ns 0) :: tmap triV natV D.bm t.me :: row (some b9) 123 3 1 [natV v, natV lo, natV hi] :: H) [9, 10] rfl ⟨rfl, rfl, trivial⟩ trivial (by repeat (first | exact Le.refl _ | assumption | apply Le.drop)) (by
    refine ⟨?_, ?_, ?_, ?_, ?_, ?_, ?_, ?_, ?_, ?_, ?_, trivial⟩
    · refine ⟨fun x S c he hw hd hc hcu hm _ => ?_, trivial⟩
      refine TOps.move (he _ _ rfl) rfl ?_
      exact TOps.fd x rfl rfl
    · refine ⟨fun x S c he hw hd hc hcu hm _ => ?_, trivial⟩
      obtain ⟨h0, -⟩ := hd
      refine TOps.nilCheck h0 rfl ?_
      exact TOps.fd x rfl rfl
    · refine ⟨fun x S c he hw hd hc hcu hm _ => ?_, trivial⟩
      obtain ⟨h1, -⟩ := hd
      first | refine TOps.fieldB 3 h1 Try.underlying115 rfl rfl ti112 rfl rfl rfl ?_ | refine TOps.fieldN 3 h1 Try.underlying115 rfl rfl ti112 rfl rfl rfl ?_
      exact TOps.fd x rfl rfl
    · refine ⟨fun x S c he hw hd hc hcu hm _ => ?_, trivial⟩
      obtain ⟨h2, -⟩ := hd
      refine TOps.load1 h2 ti112 (by first | exact Rd.lit (by repeat (first | exact List.Mem.head _ | apply List.Mem.tail)) rfl | (repeat (first | assumption | exact Rd.fld (by assumption) 3 rfl | apply Rd.up))) rfl ?_
      exact TOps.fd x rfl rfl
    · refine ⟨fun x S c he hw hd hc hcu hm _ => ?_, trivial⟩
      refine TOps.loadN (he _ _ rfl) ti123 (by first | exact Rd.all (by repeat (first | exact List.Mem.head _ | apply List.Mem.tail)) | (repeat (first | assumption | apply Rd.up))) rfl rfl ?_
      exact TOps.fd x rfl rfl
    · refine ⟨fun x S c he hw hd hc hcu hm _ => ?_, trivial⟩
      obtain ⟨h3, h4, -⟩ := hd
      refine TOps.lookT (k := (⟨v, lo, hi⟩ : DN)) (vE := natV) (z := natV 0) keyDn h3 h4 Try.underlying112 zeroNat (by repeat (first | exact List.Mem.head _ | apply List.Mem.tail)) hu hok rfl ?_
      exact TOps.fd x rfl rfl
    · refine ⟨fun x S c he hw hd hc hcu hm _ => ?_, trivial⟩
      obtain ⟨h5, -⟩ := hd
      refine TOps.move h5 rfl ?_
      exact TOps.fd x rfl rfl
    · refine ⟨fun x S c he hw hd hc hcu hm _ => ?_, trivial⟩
      obtain ⟨h6, -⟩ := hd
      refine TOps.extract h6 rfl rfl ?_
      exact TOps.fd x rfl rfl
    · refine ⟨fun x S c he hw hd hc hcu hm _ => ?_, trivial⟩
      obtain ⟨h6, -⟩ := hd
      refine TOps.extract h6 rfl rfl ?_
      exact TOps.fd x rfl rfl
    · refine ⟨fun x S c he hw hd hc hcu hm _ => ?_, trivial⟩
      obtain ⟨h7, h0, h1, h2, h3, h4, h5, h6, _, -⟩ := hd
      refine TOps.assign h7 rfl ?_
      exact TOps.fd x rfl rfl
    · refine ⟨fun x S c he hw hd hc hcu hm _ => ?_, trivial⟩
      obtain ⟨h8, h9, h0, h1, h2, h3, h4, h5, h6, h7, _, _, -⟩ := hd
      refine TOps.assign h8 rfl ?_
      exact TOps.fd x rfl rfl
    ) ?_
  refine Nrm.next ?_
  refine Tri.seq ?_
  refine Tri.seq (Tri.region ?_)
  refine TOps.move rfl rfl ?_
  refine TOps.not rfl rfl ?_
  refine TOps.next ?_
  refine Tri.cond rfl (fun hc2 => ?_) (fun hc2 => ?_)
  · try simp only [decide_eq_true_eq, decide_eq_false_iff_not, Bool.and_eq_true, Bool.or_eq_true, Bool.not_eq_true', Bool.and_eq_false_iff, Bool.or_eq_false_iff, Bool.not_eq_false', Int.not_lt, Int.not_le, ne_eq, Decidable.not_not, Option.isSome_iff_ne_none, Option.isNone_iff_eq_none] at hc2
    have hx : lookT ⟨v, lo, hi⟩ (uniqT t.ns 0) = none := by simpa using hc2
    have hlen : t.ns.length < 1099511627776 := hs
    refine Tri.seq (Tri.region ?_)
    refine TOps.move rfl rfl ?_
    refine TOps.nilCheck rfl rfl ?_
    first | refine TOps.fieldB 2 rfl Try.underlying115 rfl rfl ti65 rfl rfl rfl ?_ | refine TOps.fieldN 2 rfl Try.underlying115 rfl rfl ti65 rfl rfl rfl ?_
    refine TOps.load1 rfl ti65 (by first | exact Rd.lit (by repeat (first | exact List.Mem.head _ | apply List.Mem.tail)) rfl | (repeat (first | assumption | exact Rd.fld (by assumption) 2 rfl | apply Rd.up))) rfl ?_
    refine TOps.len rfl Try.underlying65 rfl ?_
    refine TOps.add (r := ((2 + t.ns.length : Nat) : Int)) rfl rfl (by rw [wrapI (by omega) (by omega)]; omega) rfl ?_
    refine TOps.assign rfl rfl ?_
    refine TOps.next ?_
    refine Tri.seq ?_
    refine Tri.drawX (X := Nat × Nat × Nat) rfl [(0, .pointer (some ⟨D.bt, 0, none⟩)), (9, .pointer (some ⟨b9, 0, none⟩)), (10, natV (2 + t.ns.length))] [] (fun x => [_, _, _, _, slV t.na 0 t.ns.length t.nc, _, slV (some x.1) 0 1 1, slV (some x.2.1) 0 (t.ns.length + 1) x.2.2, _, _, undef]) (fun x c => match c with | 0 => row (some D.bt) 115 5 1 [slV D.oa 0 D.n D.oc, slV (some D.pa) 0 D.n D.n, slV t.na 0 t.ns.length t.nc, .map (some D.bu), .map (some D.bm)] :: row D.oa 3 1 D.oc (nats D.ord) :: row (some D.pa) 3 1 D.n (nats D.pl) :: row t.na 123 3 t.nc (dnsV t.ns) :: tmap dnV natV D.bu (uniqT t.ns 0) :: tmap triV natV D.bm t.me :: row (some b9) 123 3 1 [natV v, natV lo, natV hi] :: H | 1 => row (some x.1) 123 3 1 (dnCells ⟨v, lo, hi⟩) :: row (some D.bt) 115 5 1 [slV D.oa 0 D.n D.oc, slV (some D.pa) 0 D.n D.n, slV t.na 0 t.ns.length t.nc, .map (some D.bu), .map (some D.bm)] :: row D.oa 3 1 D.oc (nats D.ord) :: row (some D.pa) 3 1 D.n (nats D.pl) :: row t.na 123 3 t.nc (dnsV t.ns) :: tmap dnV natV D.bu (uniqT t.ns 0) :: tmap triV natV D.bm t.me :: row (some b9) 123 3 1 [natV v, natV lo, natV hi] :: H | 2 => row (some D.bt) 115 5 1 [slV D.oa 0 D.n D.oc, slV (some D.pa) 0 D.n D.n, slV t.na 0 t.ns.length t.nc, .map (some D.bu), .map (some D.bm)] :: row D.oa 3 1 D.oc (nats D.ord) :: row (some D.pa) 3 1 D.n (nats D.pl) :: row (some x.2.1) 123 3 x.2.2 (dnsV t.ns ++ dnCells ⟨v, lo, hi⟩) :: tmap dnV natV D.bu (uniqT t.ns 0) :: tmap triV natV D.bm t.me :: row (some b9) 123 3 1 [natV v, natV lo, natV hi] :: H | _ + 3 => row (some D.bt) 115 5 1 [slV D.oa 0 D.n D.oc, slV (some D.pa) 0 D.n D.n, slV (some x.2.1) 0 (t.ns.length + 1) x.2.2, .map (some D.bu), .map (some D.bm)] :: row D.oa 3 1 D.oc (nats D.ord) :: row (some D.pa) 3 1 D.n (nats D.pl) :: row (some x.2.1) 123 3 x.2.2 (dnsV t.ns ++ dnCells ⟨v, lo, hi⟩) :: tmap dnV natV D.bu (uniqT t.ns 0) :: tmap triV natV D.bm t.me :: row (some b9) 123 3 1 [natV v, natV lo, natV hi] :: H) [6, 7, 10] (0, 0, 0) [] rfl rfl ⟨rfl, rfl, rfl, trivial⟩ trivial (by repeat (first | exact Le.refl _ | assumption | apply Le.drop)) (by
      refine ⟨?_, ?_, ?_, ?_, ?_, ?_, ?_, ?_, ?_, ?_, ?_, trivial⟩
      · refine ⟨fun x S c he hw hd hc hcu hm _ => ?_, trivial⟩
        refine TOps.move (he _ _ rfl) rfl ?_
        exact TOps.fd x rfl rfl
      · refine ⟨fun x S c he hw hd hc hcu hm _ => ?_, trivial⟩
        refine TOps.move (he _ _ rfl) rfl ?_
        exact TOps.fd x rfl rfl
      · refine ⟨fun x S c he hw hd hc hcu hm _ => ?_, trivial⟩
        obtain ⟨h1, -⟩ := hd
        refine TOps.nilCheck h1 rfl ?_
        exact TOps.fd x rfl rfl
      · refine ⟨fun x S c he hw hd hc hcu hm _ => ?_, trivial⟩
        obtain ⟨h2, -⟩ := hd
        first | refine TOps.fieldB 2 h2 Try.underlying115 rfl rfl ti65 rfl rfl rfl ?_ | refine TOps.fieldN 2 h2 Try.underlying115 rfl rfl ti65 rfl rfl rfl ?_
        exact TOps.fd x rfl rfl
      · refine ⟨fun x S c he hw hd hc hcu hm _ => ?_, trivial⟩
        obtain ⟨h3, -⟩ := hd
        rcases (show c = 0 ∨ c = 1 by have : c ≤ 1 := hcu; omega) with rfl | rfl <;> refine TOps.load1 h3 ti65 (Rd.lit (by repeat (first | exact List.Mem.head _ | apply List.Mem.tail)) rfl) rfl ?_
        all_goals exact TOps.fin (Nrm.draw x (fun _ _ _ => rfl) rfl (Le.refl _))
      · refine ⟨fun x S c he hw hd hc hcu hm _ => ?_, trivial⟩
        obtain rfl : c = 0 := by have : c ≤ 0 := hcu; omega
        refine TOps.loadN (vs := [natV v, natV lo, natV hi]) (he _ _ rfl) ti123 (Rd.all (by repeat (first | exact List.Mem.head _ | apply List.Mem.tail))) rfl rfl ?_
        exact TOps.fd x rfl rfl
      · refine ⟨fun x S c he hw hd hc hcu hm _ => ?_, trivial⟩
        obtain ⟨h5, -⟩ := hd
        obtain rfl : c = 0 := hm rfl
        refine TOps.buildSlice (vs := [_]) (xs := [_, _, _]) Try.underlying65 ti123 ⟨rfl, h5, trivial⟩ rfl rfl rfl rfl rfl rfl (by decide) rfl (fun b43 => ?_)
        refine TOps.fin (Nrm.draw (b43, x.2) ?_ rfl (Le.refl _))
        intro j hj hcj; rcases j with _|_|_|_|_|_|_|_|_|_|_|j <;> first | rfl | exact absurd rfl hj | exact absurd hcj (by decide)
      · refine ⟨fun x S c he hw hd hc hcu hm _ => ?_, trivial⟩
        obtain ⟨h4, h6, -⟩ := hd
        obtain rfl : c = 1 := hm rfl
        refine TOps.appendLit h4 h6 Try.underlying65 ti123 rfl (fun _ _ => (by repeat (first | exact Upd.here | apply Upd.there))) rfl (dnsV_length _) rfl (by omega) (by omega) (by simp [dnCells]) rfl (fun b44 cap44 => ?_)
        refine TOps.fin (Nrm.draw (x.1, b44, cap44) ?_ rfl (Le.refl _))
        intro j hj hcj; rcases j with _|_|_|_|_|_|_|_|_|_|_|j <;> first | rfl | exact absurd rfl hj | exact absurd hcj (by decide)
      · refine ⟨fun x S c he hw hd hc hcu hm _ => ?_, trivial⟩
        obtain ⟨h0, _, h1, h2, h3, h4, h5, h6, h7, -⟩ := hd
        refine TOps.nilCheck h0 rfl ?_
        exact TOps.fd x rfl rfl
      · refine ⟨fun x S c he hw hd hc hcu hm _ => ?_, trivial⟩
        obtain ⟨h8, h0, h1, h2, h3, h4, h5, h6, h7, -⟩ := hd
        first | refine TOps.fieldB 2 h8 Try.underlying115 rfl rfl ti65 rfl rfl rfl ?_ | refine TOps.fieldN 2 h8 Try.underlying115 rfl rfl ti65 rfl rfl rfl ?_
        exact TOps.fd x rfl rfl
      · refine ⟨fun x S c he hw hd hc hcu hm _ => ?_, trivial⟩
        obtain ⟨h9, h7, _, h0, h1, h2, h3, h4, h5, h6, _, -⟩ := hd
        obtain rfl : c = 2 := hm rfl
        refine TOps.store1 h9 h7 ti65 rfl rfl (by repeat (first | exact Upd.here | apply Upd.there)) (by first | decide | (simp; done) | (simp; omega) | exact (show (2 : Nat) < 5 by decide)) ?_
        exact TOps.fd x rfl rfl
      ) (fun w => ?_)
    refine Nrm.next ?_
    refine Tri.drawX (X := Unit) rfl [(0, .pointer (some ⟨D.bt, 0, none⟩)), (9, .pointer (some ⟨b9, 0, none⟩)), (10, natV (2 + t.ns.length))] [] (fun x => [_, _, _, _, _, _, undef]) (fun x c => match c with | 0 => row (some D.bt) 115 5 1 [slV D.oa 0 D.n D.oc, slV (some D.pa) 0 D.n D.n, slV (some w.2.1) 0 (t.ns.length + 1) w.2.2, .map (some D.bu), .map (some D.bm)] :: row D.oa 3 1 D.oc (nats D.ord) :: row (some D.pa) 3 1 D.n (nats D.pl) :: row (some w.2.1) 123 3 w.2.2 (dnsV t.ns ++ dnCells ⟨v, lo, hi⟩) :: tmap dnV natV D.bu (uniqT t.ns 0) :: tmap triV natV D.bm t.me :: row (some b9) 123 3 1 [natV v, natV lo, natV hi] :: H | _ + 1 => row (some D.bt) 115 5 1 [slV D.oa 0 D.n D.oc, slV (some D.pa) 0 D.n D.n, slV (some w.2.1) 0 (t.ns.length + 1) w.2.2, .map (some D.bu), .map (some D.bm)] :: row D.oa 3 1 D.oc (nats D.ord) :: row (some D.pa) 3 1 D.n (nats D.pl) :: row (some w.2.1) 123 3 w.2.2 (dnsV t.ns ++ dnCells ⟨v, lo, hi⟩) :: tmap dnV natV D.bu (putT ⟨v, lo, hi⟩ (2 + t.ns.length) (uniqT t.ns 0)) :: tmap triV natV D.bm t.me :: row (some b9) 123 3 1 [natV v, natV lo, natV hi] :: H) [6] () [] rfl rfl ⟨rfl, rfl, rfl, trivial⟩ trivial (by repeat (first | exact Le.refl _ | assumption | apply Le.drop)) (by
      refine ⟨?_, ?_, ?_, ?_, ?_, ?_, ?_, trivial⟩
      · refine ⟨fun x S c he hw hd hc hcu hm _ => ?_, trivial⟩
        refine TOps.move (he _ _ rfl) rfl ?_
        exact TOps.fd x rfl rfl
      · refine ⟨fun x S c he hw hd hc hcu hm _ => ?_, trivial⟩
        obtain ⟨h0, -⟩ := hd
        refine TOps.nilCheck h0 rfl ?_
        exact TOps.fd x rfl rfl
      · refine ⟨fun x S c he hw hd hc hcu hm _ => ?_, trivial⟩
        obtain ⟨h1, -⟩ := hd
        first | refine TOps.fieldB 3 h1 Try.underlying115 rfl rfl ti112 rfl rfl rfl ?_ | refine TOps.fieldN 3 h1 Try.underlying115 rfl rfl ti112 rfl rfl rfl ?_
        exact TOps.fd x rfl rfl
      · refine ⟨fun x S c he hw hd hc hcu hm _ => ?_, trivial⟩
        obtain ⟨h2, -⟩ := hd
        obtain rfl : c = 0 := by have : c ≤ 0 := hcu; omega
        refine TOps.load1 h2 ti112 (Rd.lit (by repeat (first | exact List.Mem.head _ | apply List.Mem.tail)) rfl) rfl ?_
        exact TOps.fd x rfl rfl
      · refine ⟨fun x S c he hw hd hc hcu hm _ => ?_, trivial⟩
        obtain rfl : c = 0 := by have : c ≤ 0 := hcu; omega
        refine TOps.loadN (vs := [natV v, natV lo, natV hi]) (he _ _ rfl) ti123 (Rd.all (by repeat (first | exact List.Mem.head _ | apply List.Mem.tail))) rfl rfl ?_
        exact TOps.fd x rfl rfl
      · refine ⟨fun x S c he hw hd hc hcu hm _ => ?_, trivial⟩
        refine TOps.move (he _ _ rfl) rfl ?_
        exact TOps.fd x rfl rfl
      · refine ⟨fun x S c he hw hd hc hcu hm _ => ?_, trivial⟩
        obtain ⟨h3, h4, h5, h0, h1, h2, _, _, _, -⟩ := hd
        obtain rfl : c = 0 := hm rfl
        refine TOps.putT (k := (⟨v, lo, hi⟩ : DN)) (vE := natV) (v := 2 + t.ns.length) keyDn h3 h4 h5 Try.underlying112 (by repeat (first | exact Upd.here | apply Upd.there)) hu hok ?_
        exact TOps.fd x rfl rfl
      ) (fun u0 => ?_)
    refine Nrm.next ?_
    refine Tri.seq (Tri.region ?_)
    refine TOps.move rfl rfl ?_
    refine TOps.assign rfl rfl ?_
    refine TOps.next ?_
    refine Tri.ret1 (H' := tabE D (t.push ⟨v, lo, hi⟩ (some w.2.1) w.2.2) :: H) Try.results52 (fun _ _ h => h) (.tmp rfl) ((Le.closePush hty.1 hty.2.1 hty.2.2 hx).trans (Le.consOf (List.sublist_cons_self _ _))) ⟨_, _, rfl, MkOk.new h hv hlo hhi hl hh hne hx hs _ _, rfl⟩
  try simp only [decide_eq_true_eq, decide_eq_false_iff_not, Bool.and_eq_true, Bool.or_eq_true, Bool.not_eq_true', Bool.and_eq_false_iff, Bool.or_eq_false_iff, Bool.not_eq_false', Int.not_lt, Int.not_le, ne_eq, Decidable.not_not, Option.isSome_iff_ne_none, Option.isNone_iff_eq_none] at hc2
  obtain ⟨x, hx⟩ : ∃ x, lookT ⟨v, lo, hi⟩ (uniqT t.ns 0) = some x := Option.ne_none_iff_exists'.1 hc2
  rw [hx]
  refine Tri.fin ?_
  refine Nrm.next ?_
  refine Tri.seq (Tri.region ?_)
  refine TOps.move rfl rfl ?_
  refine TOps.assign rfl rfl ?_
  refine TOps.next ?_
  refine Tri.ret1 (H' := tabE D t :: H) Try.results52 (fun _ _ h => h) (.tmp rfl) ((Le.closeT hty.1 hty.2.1 hty.2.2).trans (Le.consOf (List.sublist_cons_self _ _))) ⟨t, x, rfl, MkOk.old h hx, rfl⟩
end Go.Proofs
namespace Go.Proofs
open Go.GL
set_option linter.unusedVariables false
set_option linter.unusedSimpArgs false
theorem choose_g {D : TS} (hD : TSOk D) (hty : DTy D) : ∀ (k : Nat) {H : List Ent} {t : Tb} {q a b : Nat}, TbOk D t → q < 2 + t.sz → a < 2 + t.sz → b < 2 + t.sz → D.n - D.ml t q a b < k → t.sz + 2 ^ (D.n - D.ml t q a b) ≤ 1099511627776 →
    Gives Try.prog 53 [.pointer (some ⟨D.bt, 0, none⟩), natV q, natV a, natV b] (tabE D t :: H) (ChG D t q a b H) := by
  intro k
  induction k with
  | zero => intro H t q a b h hc ha hb hk; omega
  | succ k ih =>
  intro H t q a b h hc ha hb hk hs
  have hl := h.len
  have n24 := hD.n24
  have hok : okTri (q, a, b) := ⟨(show q < 9223372036854775808 by omega), (show a < 9223372036854775808 by omega), (show b < 9223372036854775808 by omega)⟩
  refine Gives.enter Try.func53 rfl (by exact Try.ntmps53) rfl ?_
  refine Tri.seq (Tri.region ?_)
  refine TOps.assign rfl rfl ?_
  refine TOps.next ?_
  refine Tri.seq ?_
  refine Tri.block ?_
  refine Tri.seq (Tri.region ?_)
  refine TOps.move rfl rfl ?_
  refine TOps.eqlI rfl rfl rfl ?_
  refine TOps.move rfl rfl ?_
  refine' TOps.orB 3 rfl rfl rfl rfl (fun hg1_2 => ?_) ?_; rotate_left
  · have hg1_2' := hg1_2
    try simp only [decide_eq_true_eq, decide_eq_false_iff_not, Bool.and_eq_true, Bool.or_eq_true, Bool.not_eq_true', Bool.and_eq_false_iff, Bool.or_eq_false_iff, Bool.not_eq_false', Int.not_lt, Int.not_le, ne_eq, Decidable.not_not] at hg1_2'
    refine TOps.strip 2 false rfl rfl hg1_2 rfl ?_
    refine TOps.move rfl rfl ?_
    refine TOps.move rfl rfl ?_
    refine TOps.eqlI rfl rfl rfl ?_
    refine TOps.blk rfl (by repeat (first | exact Ext.refl _ | refine Ext.cons rfl ?_)) (by repeat (first | exact Le.refl _ | apply Le.drop))
  refine TOps.assign rfl rfl ?_
  refine TOps.next ?_
  refine Tri.cond rfl (fun hc1 => ?_) (fun hc1 => ?_)
  · try simp only [decide_eq_true_eq, decide_eq_false_iff_not, Bool.and_eq_true, Bool.or_eq_true, Bool.not_eq_true', Bool.and_eq_false_iff, Bool.or_eq_false_iff, Bool.not_eq_false', Int.not_lt, Int.not_le, ne_eq, Decidable.not_not, Option.isSome_iff_ne_none, Option.isNone_iff_eq_none] at hc1
    refine Tri.seq (Tri.region ?_)
    refine TOps.move rfl rfl ?_
    refine TOps.assign rfl rfl ?_
    refine TOps.next ?_
    refine Tri.ret1 (H' := tabE D t :: H) Try.results53 (fun _ _ h => h) (.tmp rfl) (Le.refl _) ⟨t, a, rfl, ChR.one h ha (by omega), rfl⟩
  try simp only [decide_eq_true_eq, decide_eq_false_iff_not, Bool.and_eq_true, Bool.or_eq_true, Bool.not_eq_true', Bool.and_eq_false_iff, Bool.or_eq_false_iff, Bool.not_eq_false', Int.not_lt, Int.not_le, ne_eq, Decidable.not_not, Option.isSome_iff_ne_none, Option.isNone_iff_eq_none] at hc1
  refine Tri.seq (Tri.region ?_)
  refine TOps.move rfl rfl ?_
  refine TOps.eqlI rfl rfl rfl ?_
  refine TOps.assign rfl rfl ?_
  refine TOps.next ?_
  refine Tri.cond rfl (fun hc2 => ?_) (fun hc2 => ?_)
  · try simp only [decide_eq_true_eq, decide_eq_false_iff_not, Bool.and_eq_true, Bool.or_eq_true, Bool.not_eq_true', Bool.and_eq_false_iff, Bool.or_eq_false_iff, Bool.not_eq_false', Int.not_lt, Int.not_le, ne_eq, Decidable.not_not, Option.isSome_iff_ne_none, Option.isNone_iff_eq_none] at hc2
    refine Tri.seq (Tri.region ?_)
    refine TOps.move rfl rfl ?_
    refine TOps.assign rfl rfl ?_
    refine TOps.next ?_
    refine Tri.ret1 (H' := tabE D t :: H) Try.results53 (fun _ _ h => h) (.tmp rfl) (Le.refl _) ⟨t, b, rfl, ChR.zero h hb (by omega), rfl⟩
  try simp only [decide_eq_true_eq, decide_eq_false_iff_not, Bool.and_eq_true, Bool.or_eq_true, Bool.not_eq_true', Bool.and_eq_false_iff, Bool.or_eq_false_iff, Bool.not_eq_false', Int.not_lt, Int.not_le, ne_eq, Decidable.not_not, Option.isSome_iff_ne_none, Option.isNone_iff_eq_none] at hc2
  refine Tri.seq (Tri.region ?_)
  refine TOps.move rfl rfl ?_
  refine TOps.eqlI rfl rfl rfl ?_
  refine TOps.move rfl rfl ?_
  refine' TOps.andB 2 rfl rfl rfl rfl (fun hg5_2 => ?_) ?_; rotate_left
  · have hg5_2' := hg5_2
    try simp only [decide_eq_true_eq, decide_eq_false_iff_not, Bool.and_eq_true, Bool.or_eq_true, Bool.not_eq_true', Bool.and_eq_false_iff, Bool.or_eq_false_iff, Bool.not_eq_false', Int.not_lt, Int.not_le, ne_eq, Decidable.not_not] at hg5_2'
    refine TOps.strip 2 true rfl rfl hg5_2 rfl ?_
    refine TOps.move rfl rfl ?_
    refine TOps.eqlI rfl rfl rfl ?_
    refine TOps.blk rfl (by repeat (first | exact Ext.refl _ | refine Ext.cons rfl ?_)) (by repeat (first | exact Le.refl _ | apply Le.drop))
  refine TOps.assign rfl rfl ?_
  refine TOps.next ?_
  refine Tri.cond rfl (fun hc3 => ?_) (fun hc3 => ?_)
  · try simp only [decide_eq_true_eq, decide_eq_false_iff_not, Bool.and_eq_true, Bool.or_eq_true, Bool.not_eq_true', Bool.and_eq_false_iff, Bool.or_eq_false_iff, Bool.not_eq_false', Int.not_lt, Int.not_le, ne_eq, Decidable.not_not, Option.isSome_iff_ne_none, Option.isNone_iff_eq_none] at hc3
    refine Tri.seq (Tri.region ?_)
    refine TOps.move rfl rfl ?_
    refine TOps.assign rfl rfl ?_
    refine TOps.next ?_
    refine Tri.ret1 (H' := tabE D t :: H) Try.results53 (fun _ _ h => h) (.tmp rfl) (Le.refl _) ⟨t, q, rfl, ChR.self h hc (by omega) (by omega), rfl⟩
  try simp only [decide_eq_true_eq, decide_eq_false_iff_not, Bool.and_eq_true, Bool.or_eq_true, Bool.not_eq_true', Bool.and_eq_false_iff, Bool.or_eq_false_iff, Bool.not_eq_false', Int.not_lt, Int.not_le, ne_eq, Decidable.not_not, Option.isSome_iff_ne_none, Option.isNone_iff_eq_none] at hc3
  have hcn : D.lv t q < D.n := lvl_lt hD.op h.dok.dg hc (by omega)
  have hLn : D.ml t q a b < D.n := by unfold TS.ml; omega
  have KP := kids_pow hD h hc ha hb rfl hLn
  refine Tri.fin ?_
  refine Nrm.unB ?_
  refine Nrm.next ?_
  refine Tri.seq (Tri.region ?_)
  refine TOps.move rfl rfl ?_
  refine TOps.move rfl rfl ?_
  refine TOps.move rfl rfl ?_
  refine TOps.buildArr (vs := [_, _, _]) (xs := [_, _, _]) Try.underlying148 ti148 ti3 ⟨rfl, rfl, rfl, rfl, rfl, rfl, trivial⟩ rfl rfl rfl rfl ?_
  refine TOps.alloc ti148 rfl (fun b9 => ?_)
  refine TOps.storeN rfl rfl ti148 rfl rfl (by repeat (first | exact Upd.here | apply Upd.there)) (by first | decide | (simp; done) | (simp; omega)) ?_
  refine TOps.le (Le.swap.trans (Le.openT hty.1 hty.2.1 hty.2.2)) ?_
  refine TOps.next ?_
  refine Tri.seq ?_
  refine Tri.seq ?_
  refine Tri.drawC rfl [(0, .pointer (some ⟨D.bt, 0, none⟩)), (1, natV q), (2, natV a), (3, natV b), (9, .pointer (some ⟨b9, 0, none⟩))] [] [_, _, _, _, _, _, _, _, _, _, _] (row (some D.bt) 115 5 1 [slV D.oa 0 D.n D.oc, slV (some D.pa) 0 D.n D.n, slV t.na 0 t.ns.length t.nc, .map (some D.bu), .map (some D.bm)] :: row D.oa 3 1 D.oc (nats D.ord) :: row (some D.pa) 3 1 D.n (nats D.pl) :: row t.na 123 3 t.nc (dnsV t.ns) :: tmap dnV natV D.bu (uniqT t.ns 0) :: tmap triV natV D.bm t.me :: row (some b9) 148 3 1 [natV q, natV a, natV b] :: H) [9, 10] rfl ⟨rfl, rfl, rfl, rfl, rfl, trivial⟩ trivial (by repeat (first | exact Le.refl _ | assumption | apply Le.drop)) (by
    refine ⟨?_, ?_, ?_, ?_, ?_, ?_, ?_, ?_, ?_, ?_, ?_, trivial⟩
    · refine ⟨fun x S c he hw hd hc hcu hm _ => ?_, trivial⟩
      refine TOps.move (he _ _ rfl) rfl ?_
      exact TOps.fd x rfl rfl
    · refine ⟨fun x S c he hw hd hc hcu hm _ => ?_, trivial⟩
      obtain ⟨h0, -⟩ := hd
      refine TOps.nilCheck h0 rfl ?_
      exact TOps.fd x rfl rfl
    · refine ⟨fun x S c he hw hd hc hcu hm _ => ?_, trivial⟩
      obtain ⟨h1, -⟩ := hd
      first | refine TOps.fieldB 4 h1 Try.underlying115 rfl rfl ti113 rfl rfl rfl ?_ | refine TOps.fieldN 4 h1 Try.underlying115 rfl rfl ti113 rfl rfl rfl ?_
      exact TOps.fd x rfl rfl
    · refine ⟨fun x S c he hw hd hc hcu hm _ => ?_, trivial⟩
      obtain ⟨h2, -⟩ := hd
      refine TOps.load1 h2 ti113 (by first | exact Rd.lit (by repeat (first | exact List.Mem.head _ | apply List.Mem.tail)) rfl | (repeat (first | assumption | exact Rd.fld (by assumption) 4 rfl | apply Rd.up))) rfl ?_
      exact TOps.fd x rfl rfl
    · refine ⟨fun x S c he hw hd hc hcu hm _ => ?_, trivial⟩
      refine TOps.loadN (he _ _ rfl) ti148 (by first | exact Rd.all (by repeat (first | exact List.Mem.head _ | apply List.Mem.tail)) | (repeat (first | assumption | apply Rd.up))) rfl rfl ?_
      exact TOps.fd x rfl rfl
    · refine ⟨fun x S c he hw hd hc hcu hm _ => ?_, trivial⟩
      obtain ⟨h3, h4, -⟩ := hd
      refine TOps.lookT (k := (q, a, b)) (vE := natV) (z := natV 0) keyTri h3 h4 Try.underlying113 zeroNat (by repeat (first | exact List.Mem.head _ | apply List.Mem.tail)) h.mkeys hok rfl ?_
      exact TOps.fd x rfl rfl
    · refine ⟨fun x S c he hw hd hc hcu hm _ => ?_, trivial⟩
      obtain ⟨h5, -⟩ := hd
      refine TOps.move h5 rfl ?_
      exact TOps.fd x rfl rfl
    · refine ⟨fun x S c he hw hd hc hcu hm _ => ?_, trivial⟩
      obtain ⟨h6, -⟩ := hd
      refine TOps.extract h6 rfl rfl ?_
      exact TOps.fd x rfl rfl
    · refine ⟨fun x S c he hw hd hc hcu hm _ => ?_, trivial⟩
      obtain ⟨h6, -⟩ := hd
      refine TOps.extract h6 rfl rfl ?_
      exact TOps.fd x rfl rfl
    · refine ⟨fun x S c he hw hd hc hcu hm _ => ?_, trivial⟩
      obtain ⟨h7, h0, h1, h2, h3, h4, h5, h6, _, -⟩ := hd
      refine TOps.assign h7 rfl ?_
      exact TOps.fd x rfl rfl
    · refine ⟨fun x S c he hw hd hc hcu hm _ => ?_, trivial⟩
      obtain ⟨h8, h9, h0, h1, h2, h3, h4, h5, h6, h7, _, _, -⟩ := hd
      refine TOps.assign h8 rfl ?_
      exact TOps.fd x rfl rfl
    ) ?_
  refine Nrm.next ?_
  refine Tri.seq (Tri.region ?_)
  refine TOps.move rfl rfl ?_
  refine TOps.next ?_
  refine Tri.cond rfl (fun hc4 => ?_) (fun hc4 => ?_)
  · try simp only [decide_eq_true_eq, decide_eq_false_iff_not, Bool.and_eq_true, Bool.or_eq_true, Bool.not_eq_true', Bool.and_eq_false_iff, Bool.or_eq_false_iff, Bool.not_eq_false', Int.not_lt, Int.not_le, ne_eq, Decidable.not_not, Option.isSome_iff_ne_none, Option.isNone_iff_eq_none] at hc4
    obtain ⟨x, hx⟩ : ∃ x, lookT (q, a, b) t.me = some x := Option.ne_none_iff_exists'.1 hc4
    rw [hx]
    refine Tri.seq (Tri.region ?_)
    refine TOps.move rfl rfl ?_
    refine TOps.assign rfl rfl ?_
    refine TOps.next ?_
    refine Tri.ret1 (H' := tabE D t :: H) Try.results53 (fun _ _ h => h) (.tmp rfl) ((Le.closeT hty.1 hty.2.1 hty.2.2).trans (Le.consOf (List.sublist_cons_self _ _))) ⟨t, x, rfl, ChR.memo h hx, rfl⟩
  try simp only [decide_eq_true_eq, decide_eq_false_iff_not, Bool.and_eq_true, Bool.or_eq_true, Bool.not_eq_true', Bool.and_eq_false_iff, Bool.or_eq_false_iff, Bool.not_eq_false', Int.not_lt, Int.not_le, ne_eq, Decidable.not_not, Option.isSome_iff_ne_none, Option.isNone_iff_eq_none] at hc4
  refine Tri.fin ?_
  refine Nrm.next ?_
  refine Tri.seq (Tri.region ?_)
  refine TOps.le (Le.closeT hty.1 hty.2.1 hty.2.2) ?_
  refine TOps.move rfl rfl ?_
  refine TOps.move rfl rfl ?_
  refine TOps.call (vs := [_, _]) Try.call78 ⟨rfl, rfl, trivial⟩ (dlvl_g hD h (tab_rd hD h) hc) rfl ?_
  rintro _ _ ⟨rfl, rfl⟩
  refine TOps.move rfl rfl ?_
  refine TOps.move rfl rfl ?_
  refine TOps.call (vs := [_, _]) Try.call78 ⟨rfl, rfl, trivial⟩ (dlvl_g hD h (tab_rd hD h) ha) rfl ?_
  rintro _ _ ⟨rfl, rfl⟩
  refine TOps.move rfl rfl ?_
  refine TOps.move rfl rfl ?_
  refine TOps.call (vs := [_, _]) Try.call78 ⟨rfl, rfl, trivial⟩ (dlvl_g hD h (tab_rd hD h) hb) rfl ?_
  rintro _ _ ⟨rfl, rfl⟩
  refine TOps.min3 rfl rfl rfl rfl ?_
  refine TOps.assign (v := natV (D.ml t q a b)) rfl rfl ?_
  refine TOps.next ?_
  refine Tri.seq (Tri.region ?_)
  refine TOps.move rfl rfl ?_
  refine TOps.move rfl rfl ?_
  refine TOps.move rfl rfl ?_
  refine TOps.call (vs := [_, _, _]) Try.call79 ⟨rfl, rfl, rfl, trivial⟩ (kids_g hD h (tab_rd hD h) hc hLn) rfl ?_
  rintro _ _ ⟨rfl, rfl⟩
  refine TOps.move rfl rfl ?_
  refine TOps.extract rfl rfl rfl ?_
  refine TOps.extract rfl rfl rfl ?_
  refine TOps.assign rfl rfl ?_
  refine TOps.assign rfl rfl ?_
  refine TOps.next ?_
  refine Tri.seq (Tri.region ?_)
  refine TOps.move rfl rfl ?_
  refine TOps.move rfl rfl ?_
  refine TOps.move rfl rfl ?_
  refine TOps.call (vs := [_, _, _]) Try.call79 ⟨rfl, rfl, rfl, trivial⟩ (kids_g hD h (tab_rd hD h) ha hLn) rfl ?_
  rintro _ _ ⟨rfl, rfl⟩
  refine TOps.move rfl rfl ?_
  refine TOps.extract rfl rfl rfl ?_
  refine TOps.extract rfl rfl rfl ?_
  refine TOps.assign rfl rfl ?_
  refine TOps.assign rfl rfl ?_
  refine TOps.next ?_
  refine Tri.seq (Tri.region ?_)
  refine TOps.move rfl rfl ?_
  refine TOps.move rfl rfl ?_
  refine TOps.move rfl rfl ?_
  refine TOps.call (vs := [_, _, _]) Try.call79 ⟨rfl, rfl, rfl, trivial⟩ (kids_g hD h (tab_rd hD h) hb hLn) rfl ?_
  rintro _ _ ⟨rfl, rfl⟩
  refine TOps.move rfl rfl ?_
  refine TOps.extract rfl rfl rfl ?_
  refine TOps.extract rfl rfl rfl ?_
  refine TOps.assign rfl rfl ?_
  refine TOps.assign rfl rfl ?_
  refine TOps.next ?_
  refine Tri.seq (Tri.region ?_)
  have q0 := KP.p0; have q1 := KP.p1; have q2 := KP.p; have g0 := KP.l0; have g1 := KP.l1
  have hp := Nat.two_pow_pos (D.n - (D.ml t q a b + 1))
  refine TOps.move rfl rfl ?_
  refine TOps.move rfl rfl ?_
  refine TOps.move rfl rfl ?_
  refine TOps.move rfl rfl ?_
  refine TOps.call (vs := [_, _, _, _]) Try.call53 ⟨rfl, rfl, rfl, rfl, trivial⟩ (ih h KP.c0 KP.a0 KP.b0 (by omega) (by omega)) rfl ?_
  rintro _ _ ⟨t1, r0, rfl, h0, rfl⟩
  have z0 := h0.size
  have e1 := ChR.ml (D := D) h0.ext KP.c1 KP.a1 KP.b1
  have z0' : t1.sz + 1 ≤ t.sz + 2 ^ (D.n - D.ml t (t.kids D q (D.ml t q a b)).1 (t.kids D a (D.ml t q a b)).1 (t.kids D b (D.ml t q a b)).1) := z0
  refine TOps.assign rfl rfl ?_
  refine TOps.next ?_
  refine Tri.seq (Tri.region ?_)
  refine TOps.move rfl rfl ?_
  refine TOps.move rfl rfl ?_
  refine TOps.move rfl rfl ?_
  refine TOps.move rfl rfl ?_
  refine TOps.call (vs := [_, _, _, _]) Try.call53 ⟨rfl, rfl, rfl, rfl, trivial⟩ (ih h0.ok (h0.ext.ref KP.c1) (h0.ext.ref KP.a1) (h0.ext.ref KP.b1) (by rw [e1]; omega) (by rw [e1]; omega)) rfl ?_
  rintro _ _ ⟨t2, r1, rfl, h1, rfl⟩
  have z1 : t2.sz + 1 ≤ t1.sz + 2 ^ (D.n - D.ml t1 (t.kids D q (D.ml t q a b)).2 (t.kids D a (D.ml t q a b)).2 (t.kids D b (D.ml t q a b)).2) := h1.size
  rw [e1] at z1
  have hord := hD.op.op _ hLn
  have hh := (tab_rd hD h1.ok (H := row (some b9) 148 3 1 [natV q, natV a, natV b] :: H)).hd
  unfold TS.head at hh
  obtain ⟨ob, hob, ho⟩ := (tab_rd hD h1.ok (H := row (some b9) 148 3 1 [natV q, natV a, natV b] :: H)).order (k := D.ml t q a b) (by rw [hD.op.lo]; exact hLn)
  rw [hob] at hh
  refine TOps.assign rfl rfl ?_
  refine TOps.next ?_
  refine Tri.seq (Tri.region ?_)
  refine TOps.move rfl rfl ?_
  refine TOps.move rfl rfl ?_
  refine TOps.nilCheck rfl rfl ?_
  refine TOps.field0 rfl Try.underlying115 rfl rfl ti53 rfl rfl rfl ?_
  refine TOps.load1 rfl ti53 (by first | exact Rd.lit (by repeat (first | exact List.Mem.head _ | apply List.Mem.tail)) rfl | (repeat (first | assumption | exact Rd.fld (by assumption) 0 rfl | apply Rd.up))) rfl ?_
  refine TOps.move rfl rfl ?_
  refine TOps.indexAddr (off' := D.ml t q a b) rfl rfl Try.underlying53 ti3 (by omega) (by omega) (by simp) rfl ?_
  refine TOps.load1 rfl ti3 ho rfl ?_
  refine TOps.move rfl rfl ?_
  refine TOps.move rfl rfl ?_
  refine TOps.call (vs := [_, _, _, _]) Try.call52 ⟨rfl, rfl, rfl, rfl, trivial⟩ (make_g hD hty h1.ok hord.1 (h1.ext.ref h0.ref) h1.ref (by rw [hord.2, h1.ext.lv D h0.ref]; exact Nat.lt_of_lt_of_le g0 h0.lev) (by rw [hord.2]; exact Nat.lt_of_lt_of_le (by rw [← e1] at g1; exact g1) h1.lev) (by omega)) rfl ?_
  rintro _ _ ⟨t3, r, rfl, h2, rfl⟩
  have HR := ChR.step hD h hc ha hb rfl hLn h0 h1 h2
  refine TOps.le (Le.openT hty.1 hty.2.1 hty.2.2) ?_
  refine TOps.assign rfl rfl ?_
  refine TOps.next ?_
  refine Tri.seq ?_
  refine Tri.drawX (X := Unit) rfl [(0, .pointer (some ⟨D.bt, 0, none⟩)), (9, .pointer (some ⟨b9, 0, none⟩)), (21, natV r)] [] (fun x => [_, _, _, _, _, _, undef]) (fun x c => match c with | 0 => row (some D.bt) 115 5 1 [slV D.oa 0 D.n D.oc, slV (some D.pa) 0 D.n D.n, slV t3.na 0 t3.ns.length t3.nc, .map (some D.bu), .map (some D.bm)] :: row D.oa 3 1 D.oc (nats D.ord) :: row (some D.pa) 3 1 D.n (nats D.pl) :: row t3.na 123 3 t3.nc (dnsV t3.ns) :: tmap dnV natV D.bu (uniqT t3.ns 0) :: tmap triV natV D.bm t3.me :: row (some b9) 148 3 1 [natV q, natV a, natV b] :: H | _ + 1 => row (some D.bt) 115 5 1 [slV D.oa 0 D.n D.oc, slV (some D.pa) 0 D.n D.n, slV t3.na 0 t3.ns.length t3.nc, .map (some D.bu), .map (some D.bm)] :: row D.oa 3 1 D.oc (nats D.ord) :: row (some D.pa) 3 1 D.n (nats D.pl) :: row t3.na 123 3 t3.nc (dnsV t3.ns) :: tmap dnV natV D.bu (uniqT t3.ns 0) :: tmap triV natV D.bm (putT (q, a, b) r t3.me) :: row (some b9) 148 3 1 [natV q, natV a, natV b] :: H) [6] () [] rfl rfl ⟨rfl, rfl, rfl, trivial⟩ trivial (by repeat (first | exact Le.refl _ | assumption | apply Le.drop)) (by
    refine ⟨?_, ?_, ?_, ?_, ?_, ?_, ?_, trivial⟩
    · refine ⟨fun x S c he hw hd hc hcu hm _ => ?_, trivial⟩
      refine TOps.move (he _ _ rfl) rfl ?_
      exact TOps.fd x rfl rfl
    · refine ⟨fun x S c he hw hd hc hcu hm _ => ?_, trivial⟩
      obtain ⟨h0, -⟩ := hd
      refine TOps.nilCheck h0 rfl ?_
      exact TOps.fd x rfl rfl
    · refine ⟨fun x S c he hw hd hc hcu hm _ => ?_, trivial⟩
      obtain ⟨h1, -⟩ := hd
      first | refine TOps.fieldB 4 h1 Try.underlying115 rfl rfl ti113 rfl rfl rfl ?_ | refine TOps.fieldN 4 h1 Try.underlying115 rfl rfl ti113 rfl rfl rfl ?_
      exact TOps.fd x rfl rfl
    · refine ⟨fun x S c he hw hd hc hcu hm _ => ?_, trivial⟩
      obtain ⟨h2, -⟩ := hd
      obtain rfl : c = 0 := by have : c ≤ 0 := hcu; omega
      refine TOps.load1 h2 ti113 (Rd.lit (by repeat (first | exact List.Mem.head _ | apply List.Mem.tail)) rfl) rfl ?_
      exact TOps.fd x rfl rfl
    · refine ⟨fun x S c he hw hd hc hcu hm _ => ?_, trivial⟩
      obtain rfl : c = 0 := by have : c ≤ 0 := hcu; omega
      refine TOps.loadN (vs := [natV q, natV a, natV b]) (he _ _ rfl) ti148 (Rd.all (by repeat (first | exact List.Mem.head _ | apply List.Mem.tail))) rfl rfl ?_
      exact TOps.fd x rfl rfl
    · refine ⟨fun x S c he hw hd hc hcu hm _ => ?_, trivial⟩
      refine TOps.move (he _ _ rfl) rfl ?_
      exact TOps.fd x rfl rfl
    · refine ⟨fun x S c he hw hd hc hcu hm _ => ?_, trivial⟩
      obtain ⟨h3, h4, h5, h0, h1, h2, _, _, _, -⟩ := hd
      obtain rfl : c = 0 := hm rfl
      refine TOps.putT (k := (q, a, b)) (vE := natV) (v := r) keyTri h3 h4 h5 Try.underlying113 (by repeat (first | exact Upd.here | apply Upd.there)) HR.ok.mkeys hok ?_
      exact TOps.fd x rfl rfl
    ) (fun u0 => ?_)
  refine Nrm.next ?_
  refine Tri.seq (Tri.region ?_)
  refine TOps.move rfl rfl ?_
  refine TOps.assign rfl rfl ?_
  refine TOps.next ?_
  refine Tri.ret1 (H' := tabE D (t3.memo (q, a, b) r) :: H) Try.results53 (fun _ _ h => h) (.tmp rfl) ((Le.closeT (t := t3.memo (q, a, b) r) hty.1 hty.2.1 hty.2.2).trans (Le.consOf (List.sublist_cons_self _ _))) ⟨_, r, rfl, ChR.put h hc ha hb HR, rfl⟩
end Go.Proofs
namespace Go.Proofs
open Go.GL
set_option linter.unusedVariables false
set_option linter.unusedSimpArgs false
theorem chooseOp_g {D : TS} (hD : TSOk D) (hty : DTy D) (h8 : D.n ≤ 8) {H : List Ent} {t : Tb} {q a b : Nat} (h : TbOk D t) (hq : q < 2 + t.sz) (ha : a < 2 + t.sz) (hb : b < 2 + t.sz) (hs : t.sz + 256 ≤ 1099511627776) :
    Gives Try.prog 53 [.pointer (some ⟨D.bt, 0, none⟩), natV q, natV a, natV b] (tabE D t :: H) (OpG D t (fun s => bif t.val s q then t.val s a else t.val s b) 256 H) :=
  (choose_g hD hty (D.n - D.ml t q a b + 1) h hq ha hb (by omega) (by have := pow8 h8 (D.ml t q a b); omega)).mono fun v H' ⟨t', r, h1, h2, h3⟩ => ⟨H', ⟨t', r, h1, h2.op h8, h3⟩, Le.refl _⟩
theorem event_g {H : List Ent} {D : TS} {t : Tb} (hD : TSOk D) (hty : DTy D) (h : TbOk D t) {i : Nat} (hi : i < D.n) (hs : t.sz < 1099511627776) :
    Gives Try.prog 49 [.pointer (some ⟨D.bt, 0, none⟩), natV i] (tabE D t :: H) (MkG D t i 0 1 H) := by
  have hp := (hD.op.po i hi).1
  refine Gives.enter Try.func49 rfl (by exact Try.ntmps49) rfl ?_
  refine Tri.seq (Tri.region ?_)
  refine TOps.assign rfl rfl ?_
  refine TOps.next ?_
  refine Tri.seq (Tri.region ?_)
  refine TOps.move rfl rfl ?_
  refine TOps.move rfl rfl ?_
  refine TOps.call (vs := [_, _, _, _]) Try.call52 ⟨rfl, rfl, rfl, rfl, trivial⟩ (make_g hD hty h hi (lo := 0) (hi := 1) (by omega) (by omega) (by rw [show D.lv t 0 = D.n from lvl_const _ _ _ (by omega)]; exact hp) (by rw [show D.lv t 1 = D.n from lvl_const _ _ _ (by omega)]; exact hp) hs) rfl ?_
  rintro _ _ ⟨t', r, rfl, h1, rfl⟩
  refine TOps.assign rfl rfl ?_
  refine TOps.next ?_
  refine Tri.ret1 (H' := tabE D t' :: H) Try.results49 (fun _ _ h => h) (.tmp rfl) (Le.refl _) ⟨t', r, rfl, h1, rfl⟩
theorem not_g {H : List Ent} {D : TS} {t : Tb} (hD : TSOk D) (hty : DTy D) (h8 : D.n ≤ 8) (h : TbOk D t) {a : Nat} (ha : a < 2 + t.sz) (hs : t.sz + 256 ≤ 1099511627776) :
    Gives Try.prog 54 [.pointer (some ⟨D.bt, 0, none⟩), natV a] (tabE D t :: H) (OpG D t (fun s => !t.val s a) 256 H) := by
  refine Gives.enter Try.func54 rfl (by exact Try.ntmps54) rfl ?_
  refine Tri.seq (Tri.region ?_)
  refine TOps.assign rfl rfl ?_
  refine TOps.next ?_
  refine Tri.seq (Tri.region ?_)
  refine TOps.move rfl rfl ?_
  refine TOps.move rfl rfl ?_
  refine TOps.call (vs := [_, _, _, _]) Try.call53 ⟨rfl, rfl, rfl, rfl, trivial⟩ (chooseOp_g hD hty h8 h ha (a := 0) (b := 1) (by omega) (by omega) hs) rfl ?_
  rintro _ _ ⟨t', r, rfl, h1, rfl⟩
  refine TOps.assign rfl rfl ?_
  refine TOps.next ?_
  refine Tri.ret1 (H' := tabE D t' :: H) Try.results54 (fun _ _ h => h) (.tmp rfl) (Le.refl _) ⟨t', r, rfl, h1.mono (fun s => by rw [show t.val s 1 = true from dval_one _ _, show t.val s 0 = false from dval_zero _ _]; cases t.val s a <;> rfl) (by omega), rfl⟩
theorem and_g {D : TS} (hD : TSOk D) (hty : DTy D) (h8 : D.n ≤ 8) : OpSpec Try.prog D 29 (· && ·) := by
  intro H t a b h ha hb hs
  refine Gives.enter Try.func29 rfl (by exact Try.ntmps29) rfl ?_
  refine Tri.seq (Tri.region ?_)
  refine TOps.assign rfl rfl ?_
  refine TOps.next ?_
  refine Tri.seq (Tri.region ?_)
  refine TOps.move rfl rfl ?_
  refine TOps.move rfl rfl ?_
  refine TOps.move rfl rfl ?_
  refine TOps.call (vs := [_, _, _, _]) Try.call53 ⟨rfl, rfl, rfl, rfl, trivial⟩ (chooseOp_g hD hty h8 h ha hb (b := 0) (by omega) (by omega)) rfl ?_
  rintro _ _ ⟨t', r, rfl, h1, rfl⟩
  refine TOps.assign rfl rfl ?_
  refine TOps.next ?_
  refine Tri.ret1 (H' := tabE D t' :: H) Try.results29 (fun _ _ h => h) (.tmp rfl) (Le.refl _) ⟨t', r, rfl, h1.mono (fun s => by rw [show t.val s 0 = false from dval_zero _ _]; cases t.val s a <;> rfl) (by omega), rfl⟩
theorem or_g {D : TS} (hD : TSOk D) (hty : DTy D) (h8 : D.n ≤ 8) : OpSpec Try.prog D 75 (· || ·) := by
  intro H t a b h ha hb hs
  refine Gives.enter Try.func75 rfl (by exact Try.ntmps75) rfl ?_
  refine Tri.seq (Tri.region ?_)
  refine TOps.assign rfl rfl ?_
  refine TOps.next ?_
  refine Tri.seq (Tri.region ?_)
  refine TOps.move rfl rfl ?_
  refine TOps.move rfl rfl ?_
  refine TOps.move rfl rfl ?_
  refine TOps.call (vs := [_, _, _, _]) Try.call53 ⟨rfl, rfl, rfl, rfl, trivial⟩ (chooseOp_g hD hty h8 h ha (a := 1) (by omega) hb (by omega)) rfl ?_
  rintro _ _ ⟨t', r, rfl, h1, rfl⟩
  refine TOps.assign rfl rfl ?_
  refine TOps.next ?_
  refine Tri.ret1 (H' := tabE D t' :: H) Try.results75 (fun _ _ h => h) (.tmp rfl) (Le.refl _) ⟨t', r, rfl, h1.mono (fun s => by rw [show t.val s 1 = true from dval_one _ _]; cases t.val s a <;> rfl) (by omega), rfl⟩
theorem xor_g {D : TS} (hD : TSOk D) (hty : DTy D) (h8 : D.n ≤ 8) : OpSpec Try.prog D 25 (· != ·) := by
  intro H t a b h ha hb hs
  refine Gives.enter Try.func25 rfl (by exact Try.ntmps25) rfl ?_
  refine Tri.seq (Tri.region ?_)
  refine TOps.assign rfl rfl ?_
  refine TOps.next ?_
  refine Tri.seq (Tri.region ?_)
  refine TOps.move rfl rfl ?_
  refine TOps.move rfl rfl ?_
  refine TOps.move rfl rfl ?_
  refine TOps.move rfl rfl ?_
  refine TOps.call (vs := [_, _]) Try.call54 ⟨rfl, rfl, trivial⟩ (not_g hD hty h8 h hb (by omega)) rfl ?_
  rintro _ _ ⟨t1, r1, rfl, h1, rfl⟩
  have hz := h1.size
  refine TOps.move rfl rfl ?_
  refine TOps.call (vs := [_, _, _, _]) Try.call53 ⟨rfl, rfl, rfl, rfl, trivial⟩ (chooseOp_g hD hty h8 h1.ok (h1.ext.ref ha) h1.ref (h1.ext.ref hb) (by omega)) rfl ?_
  rintro _ _ ⟨t', r, rfl, h2, rfl⟩
  refine TOps.assign rfl rfl ?_
  refine TOps.next ?_
  refine Tri.ret1 (H' := tabE D t' :: H) Try.results25 (fun _ _ h => h) (.tmp rfl) (Le.refl _) ⟨t', r, rfl, (h1.step h2).mono (fun s => by rw [h1.ext.val ha, h1.ext.val hb, h1.val s]; cases t.val s a <;> cases t.val s b <;> rfl) (by omega), rfl⟩
theorem djoin_g {D : TS} {H : List Ent} {t : Tb} {g : Bool → Bool → Bool} {f : FuncId} (hf : OpSpec Try.prog D f g) (hcall : ∀ l w, (callFunc f l).run Try.prog w = .ok (.enter f l) w) (h : TbOk D t) {xs : List Nat} {m : Nat} (hm : xs.length = m) (hx : ∀ x ∈ xs, x < 2 + t.sz) {z : Nat} {zb : Bool} (hz : z < 2 + t.sz) (hzv : ∀ s, t.val s z = zb) {xa sp : Option Nat} {xo xc : Nat} (hr : RdS H xa xo (nats xs) sp) (hm16 : m ≤ 16) (hs : t.sz + 16384 ≤ 1099511627776) :
    Gives Try.prog 74 [slV xa xo m xc sp, natV z, .func (.func f) (List.toArray [.pointer (some ⟨D.bt, 0, none⟩)]) (List.toArray [])] (tabE D t :: H) (OpG D t (fun s => foldV g t s zb xs) 8192 H) := by
  subst hm
  refine Gives.enter Try.func74 rfl (by exact Try.ntmps74) rfl ?_
  refine Tri.seq (Tri.region ?_)
  refine TOps.assign rfl rfl ?_
  refine TOps.next ?_
  refine Tri.seq ?_
  refine Tri.seq (Tri.region ?_)
  refine TOps.move rfl rfl ?_
  refine TOps.len rfl Try.underlying53 rfl ?_
  refine TOps.move rfl rfl ?_
  refine TOps.next ?_
  refine Tri.range (X := Tb × Nat) (fun y k => [(1, natV y.2), (2, .func (.func f) (List.toArray [.pointer (some ⟨D.bt, 0, none⟩)]) (List.toArray [])), (9, slV xa xo xs.length xc sp)]) (fun y k => tabE D y.1 :: H) (fun y k => OpR D t y.1 y.2 (fun s => foldV g t s zb (xs.take k)) (512 * k)) (by omega) rfl rfl rfl (fun _ _ => ⟨rfl, rfl, rfl, rfl⟩) (t, z) (OpR.self h hz (fun s => hzv s)) ⟨rfl, rfl, rfl, trivial⟩ (Le.refl _) (fun k y hlt hp => ?_) (fun y ac wc hp hS hM => ?_)
  · skip
    obtain ⟨xb, rfl, rfl, hxb⟩ := hr.at (i := k) (by simpa using hlt)
    have hxk : (nats xs)[k]'(by simpa using hlt) = natV xs[k] := by simp
    rw [hxk] at hxb
    have hsz := hp.size
    refine Tri.seq (Tri.region ?_)
    refine TOps.indexAddr (off' := xo + k) rfl rfl Try.underlying53 ti3 (by omega) (by omega) (by simp) rfl ?_
    refine TOps.load1 rfl ti3 (hxb.le (Le.drop (Le.refl _))) rfl ?_
    refine TOps.assign rfl rfl ?_
    refine TOps.next ?_
    refine Tri.region ?_
    refine TOps.move rfl rfl ?_
    refine TOps.move rfl rfl ?_
    refine TOps.move rfl rfl ?_
    refine TOps.callB (fs := [_]) (caps := []) (vs := [_, _]) rfl hcall ⟨rfl, rfl, trivial⟩ (hf hp.ok hp.ref (hp.ext.ref (hx _ (List.getElem_mem hlt))) (by omega)) rfl ?_
    rintro _ _ ⟨t2, r2, rfl, h2, rfl⟩
    refine TOps.assign rfl rfl ?_
    refine TOps.fin ?_
    refine Nrm.body (t2, r2) (by refine (hp.step h2).mono (fun s => ?_) (by omega); rw [foldV_snoc _ _ _ _ hlt, hp.val s, hp.ext.val (hx _ (List.getElem_mem hlt))]) ⟨rfl, rfl, rfl, rfl, rfl, trivial⟩ (Le.refl _)
  rw [List.take_length] at hp
  refine Nrm.of hS hM ?_
  refine Nrm.next ?_
  refine Tri.seq (Tri.region ?_)
  refine TOps.move rfl rfl ?_
  refine TOps.assign rfl rfl ?_
  refine TOps.next ?_
  refine Tri.ret1 (H' := tabE D y.1 :: H) Try.results74 (fun _ _ h => h) (.tmp rfl) (Le.refl _) ⟨y.1, y.2, rfl, hp.mono (fun s => rfl) (by omega), rfl⟩
end Go.Proofs
namespace Go.Proofs
open Go.GL
set_option linter.unusedVariables false
set_option linter.unusedSimpArgs false
set_option maxRecDepth 20000 in
theorem dvote_g {D : TS} {H : List Ent} {t : Tb} (hD : TSOk D) (hty : DTy D) (hn8 : D.n ≤ 8) (h : TbOk D t) {xs : List Nat} {m K : Nat} (hm : xs.length = m) (hx : ∀ x ∈ xs, x < 2 + t.sz) {xa sp : Option Nat} {xo xc : Nat} (hr : RdS H xa xo (nats xs) sp) (hm16 : m ≤ 16) (hK : K ≤ 16) (hs : t.sz + 131072 ≤ 1099511627776) :
    Gives Try.prog 76 [.pointer (some ⟨D.bt, 0, none⟩), slV xa xo m xc sp, natV K] (tabE D t :: H) (OpG D t (fun s => decide (K ≤ cntV t s xs)) 65536 H) := by
  subst hm
  refine Gives.enter Try.func76 rfl (by exact Try.ntmps76) rfl ?_
  refine Tri.seq (Tri.region ?_)
  refine TOps.assign rfl rfl ?_
  refine TOps.next ?_
  refine Tri.seq (Tri.region ?_)
  refine TOps.move rfl rfl ?_
  refine TOps.add (r := ((K + 1 : Nat) : Int)) rfl rfl (by rw [wrapI (by omega) (by omega)]; omega) rfl ?_
  refine TOps.make1 rfl rfl Try.underlying53 ti3 (by omega) (by omega) (by omega) rfl (fun b13 => ?_)
  refine TOps.le (Le.swap) ?_
  refine TOps.assign rfl rfl ?_
  refine TOps.next ?_
  refine Tri.seq (Tri.region ?_)
  refine TOps.move rfl rfl ?_
  refine TOps.indexAddr rfl rfl Try.underlying53 ti3 (by omega) (by omega) rfl rfl ?_
  refine TOps.store1 rfl rfl ti3 rfl rfl (by repeat (first | exact Upd.here | apply Upd.there)) (by first | decide | (simp; done) | (simp; omega)) ?_
  show TOps _ _ _ (tabE D t :: row (some b13) 3 1 (K + 1) ((List.replicate (K + 1) (natV 0)).set 0 (natV 1)) :: H) _ _ _
  rw [show (List.replicate (K + 1) (natV 0)).set 0 (natV 1) = nats ((List.replicate (K + 1) 0).set 0 1) by rw [nats_set]; simp; rfl]
  refine TOps.next ?_
  refine Tri.seq ?_
  refine Tri.seq (Tri.region ?_)
  refine TOps.move rfl rfl ?_
  refine TOps.len rfl Try.underlying53 rfl ?_
  refine TOps.move rfl rfl ?_
  refine TOps.next ?_
  refine Tri.range (X := Tb × List Nat) (fun y k => [(0, .pointer (some ⟨D.bt, 0, none⟩)), (2, natV K), (7, slV (some b13) 0 (K + 1) (K + 1)), (16, slV xa xo xs.length xc sp)]) (fun y k => tabE D y.1 :: row (some b13) 3 1 (K + 1) (nats y.2) :: H) (fun y k => Tb.Ext t y.1 ∧ TbOk D y.1 ∧ y.1.sz ≤ t.sz + 4096 * k ∧ Need D y.1 y.2 K (fun s => cntV t s (xs.take k)) (fun s => cntV t s (xs.take k)) K) (by omega) rfl rfl rfl (fun _ _ => ⟨rfl, rfl, rfl, rfl⟩) (t, (List.replicate (K + 1) 0).set 0 1) ⟨Tb.Ext.refl _, h, Nat.le_add_right _ _, Need.start K _ (fun s => rfl)⟩ ⟨rfl, rfl, rfl, rfl, trivial⟩ (Le.refl _) (fun k y hlt hp => ?_) (fun y ac wc hp hS hM => ?_)
  · skip
    obtain ⟨xb, rfl, rfl, hxb⟩ := hr.at (i := k) (by simpa using hlt)
    have hxk : (nats xs)[k]'(by simpa using hlt) = natV xs[k] := by simp
    rw [hxk] at hxb
    obtain ⟨y, zs⟩ := y
    obtain ⟨p1, p2, p3, p4⟩ := hp
    simp only at p1 p2 p3 p4
    refine Tri.seq (Tri.region ?_)
    refine TOps.indexAddr (off' := xo + k) rfl rfl Try.underlying53 ti3 (by omega) (by omega) (by simp) rfl ?_
    refine TOps.load1 rfl ti3 (hxb.le (Le.drop (Le.drop (Le.refl _)))) rfl ?_
    refine TOps.assign rfl rfl ?_
    refine TOps.next ?_
    refine Tri.seq (Tri.region ?_)
    refine TOps.move rfl rfl ?_
    refine TOps.assign rfl rfl ?_
    refine TOps.next ?_
    refine Tri.block ?_
    refine Tri.loop (X := Tb × List Nat × Nat) (fun x => [(0, .pointer (some ⟨D.bt, 0, none⟩)), (2, natV K), (7, slV (some b13) 0 (K + 1) (K + 1)), (9, natV xs[k]), (10, natV x.2.2), (16, slV (some xb) xo xs.length xc), (17, .int .i64 xs.length), (18, .int .i64 k)]) (fun x => tabE D x.1 :: row (some b13) 3 1 (K + 1) (nats x.2.1) :: H) (fun x => x.2.2 ≤ K ∧ Tb.Ext t x.1 ∧ TbOk D x.1 ∧ x.1.sz + 256 * x.2.2 ≤ t.sz + 4096 * k + 256 * K ∧ Need D x.1 x.2.1 K (fun s => cntV t s (xs.take k)) (fun s => cntV t s (xs.take (k + 1))) x.2.2) (fun x => x.2.2) (y, zs, K) ⟨Nat.le_refl _, p1, p2, by simp only; omega, p4.turn0⟩ ⟨rfl, rfl, rfl, rfl, rfl, rfl, rfl, rfl, trivial⟩ (Le.refl _) (fun x hp => ?_)
    obtain ⟨t1, zs1, j⟩ := x
    obtain ⟨q1, q2, q3, q4, q5⟩ := hp
    simp only at q1 q2 q3 q4 q5
    refine Tri.seq ?_
    refine Tri.seq (Tri.region ?_)
    refine TOps.move rfl rfl ?_
    refine TOps.gtr rfl rfl rfl ?_
    refine TOps.next ?_
    refine Tri.cond rfl (fun hc1 => ?_) (fun hc1 => ?_)
    · try simp only [decide_eq_true_eq, decide_eq_false_iff_not, Bool.and_eq_true, Bool.or_eq_true, Bool.not_eq_true', Bool.and_eq_false_iff, Bool.or_eq_false_iff, Bool.not_eq_false', Int.not_lt, Int.not_le, ne_eq, Decidable.not_not, Option.isSome_iff_ne_none, Option.isNone_iff_eq_none] at hc1
      obtain ⟨i, rfl⟩ : ∃ i, j = i + 1 := ⟨j - 1, by simp at hc1; omega⟩
      have hzl := q5.len
      have hs1 : t1.sz + 256 ≤ 1099511627776 := by omega
      have hl2 := q3.len
      have hg : ∀ m, m ≤ K → (nats zs1)[m]? = some (natV (zs1.getD m 0)) := fun m hm => nats_get (by omega)
      refine Tri.fin ?_
      refine Nrm.next ?_
      refine Tri.seq ?_
      refine Tri.block ?_
      refine Tri.drawX (X := Tb × Nat) rfl [(0, .pointer (some ⟨D.bt, 0, none⟩)), (2, natV K), (7, slV (some b13) 0 (K + 1) (K + 1)), (9, natV xs[k]), (10, natV (i + 1)), (16, slV (some xb) xo xs.length xc), (17, .int .i64 xs.length), (18, .int .i64 k)] [] (fun x => [_, _, _, _, _, _, _, _, _, _, _, _, _, natV x.2, _, undef]) (fun x c => match c with | 0 => tabE D t1 :: row (some b13) 3 1 (K + 1) (nats zs1) :: H | 1 => fact (OpR D t1 x.1 x.2 (fun s => bif t1.val s xs[k] then t1.val s (zs1.getD i 0) else t1.val s (zs1.getD (i + 1) 0)) 256) :: tabE D x.1 :: row (some b13) 3 1 (K + 1) (nats zs1) :: H | _ + 2 => fact (OpR D t1 x.1 x.2 (fun s => bif t1.val s xs[k] then t1.val s (zs1.getD i 0) else t1.val s (zs1.getD (i + 1) 0)) 256) :: tabE D x.1 :: row (some b13) 3 1 (K + 1) ((nats zs1).set (i + 1) (natV x.2)) :: H) [13, 15] (t1, 0) [] rfl rfl ⟨rfl, rfl, rfl, rfl, rfl, rfl, rfl, rfl, trivial⟩ trivial (by repeat (first | exact Le.refl _ | assumption | apply Le.drop)) (by
        refine ⟨?_, ?_, ?_, ?_, ?_, ?_, ?_, ?_, ?_, ?_, ?_, ?_, ?_, ?_, ?_, ?_, trivial⟩
        · refine ⟨fun x S c he hw hd hc hcu hm _ => ?_, trivial⟩
          refine TOps.move (he _ _ rfl) rfl ?_
          exact TOps.fd x rfl rfl
        · refine ⟨fun x S c he hw hd hc hcu hm _ => ?_, trivial⟩
          refine TOps.move (he _ _ rfl) rfl ?_
          exact TOps.fd x rfl rfl
        · refine ⟨fun x S c he hw hd hc hcu hm _ => ?_, trivial⟩
          refine TOps.move (he _ _ rfl) rfl ?_
          exact TOps.fd x rfl rfl
        · refine ⟨fun x S c he hw hd hc hcu hm _ => ?_, trivial⟩
          refine TOps.move (he _ _ rfl) rfl ?_
          exact TOps.fd x rfl rfl
        · refine ⟨fun x S c he hw hd hc hcu hm _ => ?_, trivial⟩
          refine TOps.move (he _ _ rfl) rfl ?_
          exact TOps.fd x rfl rfl
        · refine ⟨fun x S c he hw hd hc hcu hm _ => ?_, trivial⟩
          refine TOps.move (he _ _ rfl) rfl ?_
          exact TOps.fd x rfl rfl
        · refine ⟨fun x S c he hw hd hc hcu hm _ => ?_, trivial⟩
          obtain ⟨h5, -⟩ := hd
          refine TOps.sub (r := ((i : Nat) : Int)) h5 rfl (by rw [wrapI (by omega) (by omega)]; omega) rfl ?_
          exact TOps.fd x rfl rfl
        · refine ⟨fun x S c he hw hd hc hcu hm _ => ?_, trivial⟩
          obtain ⟨h4, h6, -⟩ := hd
          refine TOps.indexAddr (off' := i) h4 h6 Try.underlying53 ti3 (by omega) (by omega) (by simp) rfl ?_
          exact TOps.fd x rfl rfl
        · refine ⟨fun x S c he hw hd hc hcu hm _ => ?_, trivial⟩
          obtain ⟨h7, -⟩ := hd
          obtain rfl : c = 0 := by have : c ≤ 0 := hcu; omega
          refine TOps.load1 h7 ti3 (Rd.lit (by repeat (first | exact List.Mem.head _ | apply List.Mem.tail)) (hg i (by omega))) rfl ?_
          exact TOps.fd x rfl rfl
        · refine ⟨fun x S c he hw hd hc hcu hm _ => ?_, trivial⟩
          refine TOps.move (he _ _ rfl) rfl ?_
          exact TOps.fd x rfl rfl
        · refine ⟨fun x S c he hw hd hc hcu hm _ => ?_, trivial⟩
          refine TOps.move (he _ _ rfl) rfl ?_
          exact TOps.fd x rfl rfl
        · refine ⟨fun x S c he hw hd hc hcu hm _ => ?_, trivial⟩
          obtain ⟨h9, h10, -⟩ := hd
          refine TOps.indexAddr (off' := i + 1) h9 h10 Try.underlying53 ti3 (by omega) (by omega) (by omega) rfl ?_
          exact TOps.fd x rfl rfl
        · refine ⟨fun x S c he hw hd hc hcu hm _ => ?_, trivial⟩
          obtain ⟨h11, -⟩ := hd
          obtain rfl : c = 0 := by have : c ≤ 0 := hcu; omega
          refine TOps.load1 h11 ti3 (Rd.lit (by repeat (first | exact List.Mem.head _ | apply List.Mem.tail)) (hg (i + 1) (by omega))) rfl ?_
          exact TOps.fd x rfl rfl
        · refine ⟨fun x S c he hw hd hc hcu hm _ => ?_, trivial⟩
          obtain ⟨h2, h3, h8, h12, -⟩ := hd
          obtain rfl : c = 0 := hm rfl
          refine TOps.call (vs := [_, _, _, _]) Try.call53 ⟨h2, h3, h8, h12, trivial⟩ (chooseOp_g hD hty hn8 q3 (q2.ref (hx _ (List.getElem_mem hlt))) (q5.ref i (by omega)) (q5.ref (i + 1) (by omega)) hs1) rfl ?_
          rintro _ _ ⟨t2, r2, rfl, h2, rfl⟩
          refine TOps.fin (Nrm.draw (t2, r2) ?_ rfl (Le.addFact h2))
          intro j hj hcj; rcases j with _|_|_|_|_|_|_|_|_|_|_|_|_|_|_|_|j <;> first | rfl | exact absurd rfl hj | exact absurd hcj (by decide)
        · refine ⟨fun x S c he hw hd hc hcu hm _ => ?_, trivial⟩
          obtain ⟨h0, h1, _, _, h2, h3, h4, h5, h6, h7, h8, h9, h10, h11, h12, h13, -⟩ := hd
          refine TOps.indexAddr (off' := i + 1) h0 h1 Try.underlying53 ti3 (by omega) (by omega) (by omega) rfl ?_
          exact TOps.fd x rfl rfl
        · refine ⟨fun x S c he hw hd hc hcu hm _ => ?_, trivial⟩
          obtain ⟨h14, h13, _, h0, h1, h2, h3, h4, h5, h6, h7, h8, h9, h10, h11, h12, _, -⟩ := hd
          obtain rfl : c = 1 := hm rfl
          refine TOps.store1 h14 h13 ti3 rfl rfl (by repeat (first | exact Upd.here | apply Upd.there)) (by simp; omega) ?_
          exact TOps.fd x rfl rfl
        ) (fun w => ?_)
      refine Nrm.fact (List.Mem.head _) (fun h2 => ?_)
      refine Nrm.le (Le.drop (Le.refl _)) ?_
      have h2s := h2.size
      have hxv : ∀ s, t1.val s xs[k] = t.val s xs[k] := fun s => q2.val (hx _ (List.getElem_mem hlt)) s
      rw [← nats_set]
      refine Nrm.unB ?_
      refine Nrm.next ?_
      refine Tri.region ?_
      refine TOps.move rfl rfl ?_
      refine TOps.sub (r := ((i : Nat) : Int)) rfl rfl (by rw [wrapI (by omega) (by omega)]; omega) rfl ?_
      refine TOps.assign rfl rfl ?_
      refine TOps.fin ?_
      refine Nrm.loop (w.1, zs1.set (i + 1) w.2, i) ⟨by simp only; omega, q2.trans h2.ext, h2.ok, by simp only; omega, q5.step (by omega) (fun s => by rw [cntV_succ _ _ hlt, hxv s]) h2⟩ (by simp) ⟨rfl, rfl, rfl, rfl, rfl, rfl, rfl, rfl, trivial⟩ (Le.refl _)
    try simp only [decide_eq_true_eq, decide_eq_false_iff_not, Bool.and_eq_true, Bool.or_eq_true, Bool.not_eq_true', Bool.and_eq_false_iff, Bool.or_eq_false_iff, Bool.not_eq_false', Int.not_lt, Int.not_le, ne_eq, Decidable.not_not, Option.isSome_iff_ne_none, Option.isNone_iff_eq_none] at hc1
    obtain rfl : j = 0 := by omega
    first | refine Tri.exitW ?_ | (refine Tri.exitTo ?_; repeat (with_reducible first | refine ExitTo.blk ?_ | refine ExitTo.blkNe rfl ?_ | refine ExitTo.body ?_ | refine ExitTo.brk rfl ?_ | refine ExitTo.bodyNe rfl rfl ?_ | refine ExitTo.seq ?_ | refine ExitTo.loop ?_))
    refine Nrm.body (t1, zs1) ⟨q2, q3, by simp only; omega, q5.turn⟩ ⟨rfl, rfl, rfl, rfl, rfl, rfl, trivial⟩ (Le.refl _)
  obtain ⟨y, zs⟩ := y
  obtain ⟨p1, p2, p3, p4⟩ := hp
  rw [List.take_length] at p4
  have hzl := p4.len
  refine Nrm.of hS hM ?_
  refine Nrm.next ?_
  refine Tri.seq (Tri.region ?_)
  refine TOps.move rfl rfl ?_
  refine TOps.move rfl rfl ?_
  refine TOps.indexAddr (off' := K) rfl rfl Try.underlying53 ti3 (by omega) (by omega) (by simp) rfl ?_
  refine TOps.load1 rfl ti3 (Rd.lit (by repeat (first | exact List.Mem.head _ | apply List.Mem.tail)) (nats_get (by omega))) rfl ?_
  refine TOps.assign rfl rfl ?_
  refine TOps.next ?_
  refine Tri.ret1 (H' := tabE D y :: H) Try.results76 (fun _ _ h => h) (.tmp rfl) (Le.consOf (List.sublist_cons_self _ _)) ⟨y, zs.getD K 0, rfl, ⟨p1, p2, p4.ref K (Nat.le_refl _), fun s => p4.old K (Nat.le_refl _) (Nat.le_refl _) s, by simp only at p3; omega⟩, rfl⟩
end Go.Proofs
namespace Go.Proofs
open Go.GL
set_option linter.unusedVariables false
set_option linter.unusedSimpArgs false
theorem dnode_g {D : TS} {H : List Ent} {t : Tb} (hD : TSOk D) (hty : DTy D) (hn8 : D.n ≤ 8) (h : TbOk D t) {d : Nd} {mm : Int} (hd : d.Fits mm) {xs : List Nat} {m : Nat} (hm : xs.length = m) (hdm : d.args.length = m) (hx : ∀ x ∈ xs, x < 2 + t.sz) {aa asp : Option Nat} {ao ac : Nat} {xa sp : Option Nat} {xo xc : Nat} (hr : RdS H xa xo (nats xs) sp) (hs : t.sz + 131072 ≤ 1099511627776) :
    Gives Try.prog 50 [.pointer (some ⟨D.bt, 0, none⟩), .agg (List.toArray [.int .i64 d.kind, .int .i64 d.k, slV aa ao m ac asp]), slV xa xo m xc sp] (tabE D t :: H) (OpG D t (fun s => nodeVal d (cntV t s xs : Nat)) 65536 H) := by
  have hm16 := hd.len
  rw [hdm] at hm16
  have hk0 := hd.k0; have hk1 := hd.k1; have hkk := hd.kk
  have har := hd.ar
  rw [hdm] at har
  have hcl : ∀ s, cntV t s xs ≤ m := fun s => by rw [← hm]; exact cntV_le _ _ _
  refine Gives.enter Try.func50 rfl (by exact Try.ntmps50) rfl ?_
  refine Tri.seq (Tri.region ?_)
  refine TOps.boxN rfl ti102 rfl rfl (fun b4 => ?_)
  refine TOps.le Le.swap ?_
  have r4 : ∀ t', Rd (tabE D t' :: row (some b4) 102 3 1 [.int .i64 d.kind, .int .i64 d.k, slV aa ao m ac asp] :: H) b4 0 [.int .i64 d.kind, .int .i64 d.k, slV aa ao m ac asp] := fun t' => (Rd.all (List.Mem.head _)).le (Le.drop (Le.refl _))
  have r4 := r4 t
  have hr4 : RdS (row (some b4) 102 3 1 [.int .i64 d.kind, .int .i64 d.k, slV aa ao m ac asp] :: H) xa xo (nats xs) sp := hr.le (Le.drop (Le.refl _))
  refine TOps.assign rfl rfl ?_
  refine TOps.next ?_
  refine Tri.seq ?_
  refine Tri.seq (Tri.region ?_)
  refine TOps.field0 rfl Try.underlying102 rfl rfl ti3 rfl rfl rfl ?_
  refine TOps.load1 rfl ti3 (Rd.fld r4 0 rfl) rfl ?_
  refine TOps.next ?_
  refine Tri.block ?_
  refine Tri.seq (Tri.region ?_)
  refine TOps.eqlI rfl rfl rfl ?_
  refine TOps.assign rfl rfl ?_
  refine TOps.next ?_
  refine Tri.cond rfl (fun hc1 => ?_) (fun hc1 => ?_)
  · try simp only [decide_eq_true_eq, decide_eq_false_iff_not, Bool.and_eq_true, Bool.or_eq_true, Bool.not_eq_true', Bool.and_eq_false_iff, Bool.or_eq_false_iff, Bool.not_eq_false', Int.not_lt, Int.not_le, ne_eq, Decidable.not_not, Option.isSome_iff_ne_none, Option.isNone_iff_eq_none] at hc1
    obtain ⟨z, hz, hzv⟩ : ∃ z : Nat, d.k = z ∧ z < 2 := by
      rcases hkk.1 hc1 with e | e
      · exact ⟨0, by omega, by omega⟩
      · exact ⟨1, by omega, by omega⟩
    refine Tri.seq (Tri.region ?_)
    first | refine TOps.fieldB 1 rfl Try.underlying102 rfl rfl ti3 rfl rfl rfl ?_ | refine TOps.fieldN 1 rfl Try.underlying102 rfl rfl ti3 rfl rfl rfl ?_
    refine TOps.load1 rfl ti3 (Rd.fld r4 1 rfl) rfl ?_
    refine TOps.assign rfl rfl ?_
    refine TOps.next ?_
    rw [hz]
    refine Tri.ret1 (H' := tabE D t :: H) Try.results50 (fun _ _ h => h) (.tmp rfl) (Le.consOf (List.sublist_cons_self _ _)) ⟨t, z, rfl, OpR.self h (by omega) (fun s => ?_), rfl⟩
    rw [nodeVal_const hc1, hz]
    obtain rfl | rfl : z = 0 ∨ z = 1 := by omega
    · exact dval_zero _ _
    · exact dval_one _ _
  try simp only [decide_eq_true_eq, decide_eq_false_iff_not, Bool.and_eq_true, Bool.or_eq_true, Bool.not_eq_true', Bool.and_eq_false_iff, Bool.or_eq_false_iff, Bool.not_eq_false', Int.not_lt, Int.not_le, ne_eq, Decidable.not_not, Option.isSome_iff_ne_none, Option.isNone_iff_eq_none] at hc1
  refine Tri.seq (Tri.region ?_)
  refine TOps.eqlI rfl rfl rfl ?_
  refine TOps.assign rfl rfl ?_
  refine TOps.next ?_
  refine Tri.cond rfl (fun hc2 => ?_) (fun hc2 => ?_)
  · try simp only [decide_eq_true_eq, decide_eq_false_iff_not, Bool.and_eq_true, Bool.or_eq_true, Bool.not_eq_true', Bool.and_eq_false_iff, Bool.or_eq_false_iff, Bool.not_eq_false', Int.not_lt, Int.not_le, ne_eq, Decidable.not_not, Option.isSome_iff_ne_none, Option.isNone_iff_eq_none] at hc2
    obtain rfl : m = 1 := by unfold argsB at har; rw [if_neg hc1, if_pos hc2] at har; have h1m : (m : Int) = 1 := (by simpa using har); omega
    obtain ⟨x, rfl⟩ := List.length_eq_one_iff.1 hm
    obtain ⟨xb, rfl, rfl, hxb⟩ := hr4.at (i := 0) (by simp)
    have hxk : (nats [x])[0]'(by simp) = natV x := by simp
    rw [hxk] at hxb
    refine Tri.seq (Tri.region ?_)
    refine TOps.move rfl rfl ?_
    refine TOps.move rfl rfl ?_
    refine TOps.indexAddr (off' := xo) rfl rfl Try.underlying53 ti3 (by omega) (by omega) (by simp) rfl ?_
    refine TOps.load1 rfl ti3 (hxb.le (Le.drop (Le.refl _))) rfl ?_
    refine TOps.call (vs := [_, _]) Try.call54 ⟨rfl, rfl, trivial⟩ (not_g hD hty hn8 h (hx x (by simp)) (by omega)) rfl ?_
    rintro _ _ ⟨t', r, rfl, h1, rfl⟩
    refine TOps.assign rfl rfl ?_
    refine TOps.next ?_
    refine Tri.ret1 (H' := tabE D t' :: H) Try.results50 (fun _ _ h => h) (.tmp rfl) (Le.consOf (List.sublist_cons_self _ _)) ⟨t', r, rfl, h1.mono (fun s => ?_) (by omega), rfl⟩
    rw [nodeVal_not hc2]
    unfold cntV
    rw [List.countP_singleton]
    cases t.val s x <;> rfl
  try simp only [decide_eq_true_eq, decide_eq_false_iff_not, Bool.and_eq_true, Bool.or_eq_true, Bool.not_eq_true', Bool.and_eq_false_iff, Bool.or_eq_false_iff, Bool.not_eq_false', Int.not_lt, Int.not_le, ne_eq, Decidable.not_not, Option.isSome_iff_ne_none, Option.isNone_iff_eq_none] at hc2
  refine Tri.seq (Tri.region ?_)
  refine TOps.eqlI rfl rfl rfl ?_
  refine TOps.assign rfl rfl ?_
  refine TOps.next ?_
  refine Tri.cond rfl (fun hc3 => ?_) (fun hc3 => ?_)
  · try simp only [decide_eq_true_eq, decide_eq_false_iff_not, Bool.and_eq_true, Bool.or_eq_true, Bool.not_eq_true', Bool.and_eq_false_iff, Bool.or_eq_false_iff, Bool.not_eq_false', Int.not_lt, Int.not_le, ne_eq, Decidable.not_not, Option.isSome_iff_ne_none, Option.isNone_iff_eq_none] at hc3
    refine Tri.seq (Tri.region ?_)
    refine TOps.move rfl rfl ?_
    refine TOps.move rfl rfl ?_
    refine TOps.makeFuncB (fs := [.tmp 23]) (caps := []) (us := [_]) (vs := []) ⟨rfl, trivial⟩ trivial rfl ?_
    refine TOps.call (vs := [_, _, _]) Try.call74 ⟨rfl, rfl, rfl, trivial⟩ (djoin_g (z := 1) (zb := true) (and_g hD hty hn8) Try.call29 h hm hx (by omega) (fun s => dval_one _ _) hr4 (by omega) (by omega)) rfl ?_
    rintro _ _ ⟨t', r, rfl, h1, rfl⟩
    refine TOps.assign rfl rfl ?_
    refine TOps.next ?_
    refine Tri.ret1 (H' := tabE D t' :: H) Try.results50 (fun _ _ h => h) (.tmp rfl) (Le.consOf (List.sublist_cons_self _ _)) ⟨t', r, rfl, h1.mono (fun s => ?_) (by omega), rfl⟩
    rw [nodeVal_and hc3, hdm, foldV_and, hm]
    exact decide_eq_decide.2 (by omega)
  try simp only [decide_eq_true_eq, decide_eq_false_iff_not, Bool.and_eq_true, Bool.or_eq_true, Bool.not_eq_true', Bool.and_eq_false_iff, Bool.or_eq_false_iff, Bool.not_eq_false', Int.not_lt, Int.not_le, ne_eq, Decidable.not_not, Option.isSome_iff_ne_none, Option.isNone_iff_eq_none] at hc3
  refine Tri.seq (Tri.region ?_)
  refine TOps.eqlI rfl rfl rfl ?_
  refine TOps.assign rfl rfl ?_
  refine TOps.next ?_
  refine Tri.cond rfl (fun hc4 => ?_) (fun hc4 => ?_)
  · try simp only [decide_eq_true_eq, decide_eq_false_iff_not, Bool.and_eq_true, Bool.or_eq_true, Bool.not_eq_true', Bool.and_eq_false_iff, Bool.or_eq_false_iff, Bool.not_eq_false', Int.not_lt, Int.not_le, ne_eq, Decidable.not_not, Option.isSome_iff_ne_none, Option.isNone_iff_eq_none] at hc4
    refine Tri.seq (Tri.region ?_)
    refine TOps.move rfl rfl ?_
    refine TOps.move rfl rfl ?_
    refine TOps.makeFuncB (fs := [.tmp 29]) (caps := []) (us := [_]) (vs := []) ⟨rfl, trivial⟩ trivial rfl ?_
    refine TOps.call (vs := [_, _, _]) Try.call74 ⟨rfl, rfl, rfl, trivial⟩ (djoin_g (z := 0) (zb := false) (or_g hD hty hn8) Try.call75 h hm hx (by omega) (fun s => dval_zero _ _) hr4 (by omega) (by omega)) rfl ?_
    rintro _ _ ⟨t', r, rfl, h1, rfl⟩
    refine TOps.assign rfl rfl ?_
    refine TOps.next ?_
    refine Tri.ret1 (H' := tabE D t' :: H) Try.results50 (fun _ _ h => h) (.tmp rfl) (Le.consOf (List.sublist_cons_self _ _)) ⟨t', r, rfl, h1.mono (fun s => ?_) (by omega), rfl⟩
    rw [nodeVal_or hc4, foldV_or]
    exact decide_eq_decide.2 (by omega)
  try simp only [decide_eq_true_eq, decide_eq_false_iff_not, Bool.and_eq_true, Bool.or_eq_true, Bool.not_eq_true', Bool.and_eq_false_iff, Bool.or_eq_false_iff, Bool.not_eq_false', Int.not_lt, Int.not_le, ne_eq, Decidable.not_not, Option.isSome_iff_ne_none, Option.isNone_iff_eq_none] at hc4
  refine Tri.seq (Tri.region ?_)
  refine TOps.eqlI rfl rfl rfl ?_
  refine TOps.assign rfl rfl ?_
  refine TOps.next ?_
  refine Tri.cond rfl (fun hc5 => ?_) (fun hc5 => ?_)
  · try simp only [decide_eq_true_eq, decide_eq_false_iff_not, Bool.and_eq_true, Bool.or_eq_true, Bool.not_eq_true', Bool.and_eq_false_iff, Bool.or_eq_false_iff, Bool.not_eq_false', Int.not_lt, Int.not_le, ne_eq, Decidable.not_not, Option.isSome_iff_ne_none, Option.isNone_iff_eq_none] at hc5
    refine Tri.seq (Tri.region ?_)
    refine TOps.move rfl rfl ?_
    refine TOps.move rfl rfl ?_
    refine TOps.makeFuncB (fs := [.tmp 35]) (caps := []) (us := [_]) (vs := []) ⟨rfl, trivial⟩ trivial rfl ?_
    refine TOps.call (vs := [_, _, _]) Try.call74 ⟨rfl, rfl, rfl, trivial⟩ (djoin_g (z := 0) (zb := false) (xor_g hD hty hn8) Try.call25 h hm hx (by omega) (fun s => dval_zero _ _) hr4 (by omega) (by omega)) rfl ?_
    rintro _ _ ⟨t', r, rfl, h1, rfl⟩
    refine TOps.assign rfl rfl ?_
    refine TOps.next ?_
    refine Tri.ret1 (H' := tabE D t' :: H) Try.results50 (fun _ _ h => h) (.tmp rfl) (Le.consOf (List.sublist_cons_self _ _)) ⟨t', r, rfl, h1.mono (fun s => ?_) (by omega), rfl⟩
    rw [nodeVal_xor hc5, foldV_xor]
  try simp only [decide_eq_true_eq, decide_eq_false_iff_not, Bool.and_eq_true, Bool.or_eq_true, Bool.not_eq_true', Bool.and_eq_false_iff, Bool.or_eq_false_iff, Bool.not_eq_false', Int.not_lt, Int.not_le, ne_eq, Decidable.not_not, Option.isSome_iff_ne_none, Option.isNone_iff_eq_none] at hc5
  have h4 : d.kind = 4 := by omega
  obtain ⟨K, hK⟩ : ∃ K : Nat, d.k = K := ⟨d.k.toNat, by have := (hkk.2.1 h4).1; omega⟩
  have hK2 := (hkk.2.1 h4).2
  rw [hdm] at hK2
  refine Tri.fin ?_
  refine Nrm.unB ?_
  refine Nrm.next ?_
  refine Tri.seq (Tri.region ?_)
  refine TOps.move rfl rfl ?_
  refine TOps.move rfl rfl ?_
  first | refine TOps.fieldB 1 rfl Try.underlying102 rfl rfl ti3 rfl rfl rfl ?_ | refine TOps.fieldN 1 rfl Try.underlying102 rfl rfl ti3 rfl rfl rfl ?_
  refine TOps.load1 rfl ti3 (Rd.fld r4 1 rfl) rfl ?_
  rw [hK] at hr4 ⊢
  refine TOps.call (vs := [_, _, _]) Try.call76 ⟨rfl, rfl, rfl, trivial⟩ (dvote_g hD hty hn8 h hm hx hr4 (by omega) (K := K) (by omega) (by omega)) rfl ?_
  rintro _ _ ⟨t', r, rfl, h1, rfl⟩
  refine TOps.assign rfl rfl ?_
  refine TOps.next ?_
  refine Tri.ret1 (H' := tabE D t' :: H) Try.results50 (fun _ _ h => h) (.tmp rfl) (Le.consOf (List.sublist_cons_self _ _)) ⟨t', r, rfl, h1.mono (fun s => ?_) (by omega), rfl⟩
  rw [nodeVal_vote h4, hK]
  exact decide_eq_decide.2 (by omega)
end Go.Proofs
namespace Go.Proofs
open Go.GL
set_option linter.unusedVariables false
set_option linter.unusedSimpArgs false
theorem zeroBool (w : World) : (zeroValue 4).run Try.prog w = .ok (.bool false) w := zeroAny (by kernel_rfl) w
theorem small1_g {D : TS} {t : Tb} (hD : TSOk D) (h : TbOk D t) {bs bo bw bb md : Nat} {H : List Ent} (ht : TabRd H D t) (r1 : Rd H bs 0 [.map (some md)]) (r2 : Rd H bo 0 [.int .i64 4096]) (r3 : Rd H bw 0 [.func (.func 55) #[] (List.toArray [.pointer (some ⟨bs, 0, none⟩), .pointer (some ⟨bo, 0, none⟩), .pointer (some ⟨bw, 0, none⟩), .pointer (some ⟨bb, 0, none⟩)])]) (r4 : Rd H bb 0 [.pointer (some ⟨D.bt, 0, none⟩)]) :
    ∀ (k : Nat) {r : Nat} {m : List (Nat × Bool)}, r < 2 + t.sz → D.n - D.lv t r < k → KeysOk ok63 m →
    Gives Try.prog 55 [natV r, .pointer (some ⟨bs, 0, none⟩), .pointer (some ⟨bo, 0, none⟩), .pointer (some ⟨bw, 0, none⟩), .pointer (some ⟨bb, 0, none⟩)] (tmap natV Value.bool md m :: H) (SmR D t r md m H) := by
  intro k
  induction k with
  | zero => intro r m hr hk; omega
  | succ k ih =>
  intro r m hr hk hks
  have hr63 := h.u63 hr
  have hp0 := Nat.two_pow_pos (D.n - D.lv t r)
  have hlen := h.len
  refine Gives.enter Try.func55 rfl (by exact Try.ntmps55) rfl ?_
  refine Tri.seq ?_
  refine Tri.seq (Tri.region ?_)
  refine TOps.move rfl rfl ?_
  refine TOps.lss rfl rfl rfl ?_
  refine TOps.move rfl rfl ?_
  refine' TOps.orB 3 rfl rfl rfl rfl (fun hg0_2 => ?_) ?_; rotate_left
  · have hg0_2' := hg0_2
    try simp only [decide_eq_true_eq, decide_eq_false_iff_not, Bool.and_eq_true, Bool.or_eq_true, Bool.not_eq_true', Bool.and_eq_false_iff, Bool.or_eq_false_iff, Bool.not_eq_false', Int.not_lt, Int.not_le, ne_eq, Decidable.not_not] at hg0_2'
    refine TOps.strip 2 false rfl rfl hg0_2 rfl ?_
    refine TOps.load1 rfl ti125 r1.up rfl ?_
    refine TOps.move rfl rfl ?_
    refine TOps.lookT1 (k := r) (vE := Value.bool) (z := .bool false) keyNat rfl rfl Try.underlying125 zeroBool (List.Mem.head _) hks hr63 rfl ?_
    rw [lookB]
    refine TOps.blk rfl (by repeat (first | exact Ext.refl _ | refine Ext.cons rfl ?_)) (by repeat (first | exact Le.refl _ | apply Le.drop))
  refine TOps.move rfl rfl ?_
  refine' TOps.orB 4 rfl rfl rfl rfl (fun hg0_7 => ?_) ?_; rotate_left
  · have hg0_7' := hg0_7
    try simp only [decide_eq_true_eq, decide_eq_false_iff_not, Bool.and_eq_true, Bool.or_eq_true, Bool.not_eq_true', Bool.and_eq_false_iff, Bool.or_eq_false_iff, Bool.not_eq_false', Int.not_lt, Int.not_le, ne_eq, Decidable.not_not] at hg0_7'
    refine TOps.strip 7 false rfl rfl hg0_7 rfl ?_
    refine TOps.load1 rfl ti125 r1.up rfl ?_
    refine TOps.lenT (kE := natV) (vE := Value.bool) rfl Try.underlying125 (List.Mem.head _) rfl ?_
    refine TOps.load1 rfl ti3 r2.up rfl ?_
    refine TOps.gtr rfl rfl rfl ?_
    refine TOps.blk rfl (by repeat (first | exact Ext.refl _ | refine Ext.cons rfl ?_)) (by repeat (first | exact Le.refl _ | apply Le.drop))
  refine TOps.next ?_
  refine Tri.cond rfl (fun hc1 => ?_) (fun hc1 => ?_)
  · try simp only [decide_eq_true_eq, decide_eq_false_iff_not, Bool.and_eq_true, Bool.or_eq_true, Bool.not_eq_true', Bool.and_eq_false_iff, Bool.or_eq_false_iff, Bool.not_eq_false', Int.not_lt, Int.not_le, ne_eq, Decidable.not_not, Option.isSome_iff_ne_none, Option.isNone_iff_eq_none] at hc1
    refine Tri.ret0 (H' := tmap natV Value.bool md m :: H) Try.results55 (fun _ _ h => h) (Le.refl _) ⟨m, rfl, hks, by omega, rfl⟩
  try simp only [decide_eq_true_eq, decide_eq_false_iff_not, Bool.and_eq_true, Bool.or_eq_true, Bool.not_eq_true', Bool.and_eq_false_iff, Bool.or_eq_false_iff, Bool.not_eq_false', Int.not_lt, Int.not_le, ne_eq, Decidable.not_not, Option.isSome_iff_ne_none, Option.isNone_iff_eq_none] at hc1
  have h2r : 2 ≤ r := by omega
  obtain ⟨i, rfl⟩ : ∃ i, r = 2 + i := ⟨r - 2, by omega⟩
  have hi : i < t.ns.length := by unfold Tb.sz at hr; omega
  have NP := node_pow hD h hi
  obtain ⟨nb, hnb, hn⟩ := ht.node hi
  have hh := ht.hd
  unfold TS.head at hh
  rw [hnb] at hh
  have q0 := NP.plo; have q1 := NP.phi; have q2 := NP.p; have g0 := NP.llo; have g1 := NP.lhi; have g2 := NP.lt
  have hpl := putT_length (k := 2 + i) (v := true) (m := m)
  refine Tri.fin ?_
  refine Nrm.next ?_
  refine Tri.seq (Tri.region ?_)
  refine TOps.load1 rfl ti125 r1.up rfl ?_
  refine TOps.move rfl rfl ?_
  refine TOps.putT (k := 2 + i) (vE := Value.bool) (v := true) keyNat rfl rfl rfl Try.underlying125 Upd.here hks hr63 ?_
  refine TOps.next ?_
  refine Tri.seq ?_
  refine Tri.drawX (X := List (Nat × Bool)) rfl [(0, natV (2 + i)), (1, .pointer (some ⟨bs, 0, none⟩)), (2, .pointer (some ⟨bo, 0, none⟩)), (3, .pointer (some ⟨bw, 0, none⟩)), (4, .pointer (some ⟨bb, 0, none⟩))] [] (fun x => [_, _, _, _, _, _, _, _, _, _, .tuple (List.toArray [])]) (fun x c => match c with | 0 => tmap natV Value.bool md (putT (2 + i) true m) :: H | _ + 1 => fact (KeysOk ok63 x ∧ x.length + 1 ≤ (putT (2 + i) true m).length + 2 ^ (D.n - D.lv t t.ns[i].lo)) :: tmap natV Value.bool md x :: H) [10] [] [] rfl rfl ⟨rfl, rfl, rfl, rfl, rfl, trivial⟩ trivial (by repeat (first | exact Le.refl _ | assumption | apply Le.drop)) (by
    refine ⟨?_, ?_, ?_, ?_, ?_, ?_, ?_, ?_, ?_, ?_, ?_, trivial⟩
    · refine ⟨fun x S c he hw hd hc hcu hm _ => ?_, trivial⟩
      obtain rfl : c = 0 := by have : c ≤ 0 := hcu; omega
      refine TOps.load1 (he _ _ rfl) ti126 r3.up rfl ?_
      exact TOps.fd x rfl rfl
    · refine ⟨fun x S c he hw hd hc hcu hm _ => ?_, trivial⟩
      obtain rfl : c = 0 := by have : c ≤ 0 := hcu; omega
      refine TOps.load1 (he _ _ rfl) ti61 r4.up rfl ?_
      exact TOps.fd x rfl rfl
    · refine ⟨fun x S c he hw hd hc hcu hm _ => ?_, trivial⟩
      obtain ⟨h1, -⟩ := hd
      refine TOps.nilCheck h1 rfl ?_
      exact TOps.fd x rfl rfl
    · refine ⟨fun x S c he hw hd hc hcu hm _ => ?_, trivial⟩
      obtain ⟨h2, -⟩ := hd
      first | refine TOps.fieldB 2 h2 Try.underlying115 rfl rfl ti65 rfl rfl rfl ?_ | refine TOps.fieldN 2 h2 Try.underlying115 rfl rfl ti65 rfl rfl rfl ?_
      exact TOps.fd x rfl rfl
    · refine ⟨fun x S c he hw hd hc hcu hm _ => ?_, trivial⟩
      obtain ⟨h3, -⟩ := hd
      obtain rfl : c = 0 := by have : c ≤ 0 := hcu; omega
      refine TOps.load1 h3 ti65 (Rd.fld hh.up 2 rfl) rfl ?_
      exact TOps.fd x rfl rfl
    · refine ⟨fun x S c he hw hd hc hcu hm _ => ?_, trivial⟩
      refine TOps.move (he _ _ rfl) rfl ?_
      exact TOps.fd x rfl rfl
    · refine ⟨fun x S c he hw hd hc hcu hm _ => ?_, trivial⟩
      obtain ⟨h5, -⟩ := hd
      refine TOps.sub (r := (i : Int)) h5 rfl (by rw [wrapI (by omega) (by omega)]; omega) rfl ?_
      exact TOps.fd x rfl rfl
    · refine ⟨fun x S c he hw hd hc hcu hm _ => ?_, trivial⟩
      obtain ⟨h4, h6, -⟩ := hd
      refine TOps.indexAddr (off' := i * 3) h4 h6 Try.underlying65 ti123 (by omega) (by omega) (by simp) rfl ?_
      exact TOps.fd x rfl rfl
    · refine ⟨fun x S c he hw hd hc hcu hm _ => ?_, trivial⟩
      obtain ⟨h7, -⟩ := hd
      first | refine TOps.fieldB 1 h7 Try.underlying123 rfl rfl ti3 rfl rfl rfl ?_ | refine TOps.fieldN 1 h7 Try.underlying123 rfl rfl ti3 rfl rfl rfl ?_
      exact TOps.fd x rfl rfl
    · refine ⟨fun x S c he hw hd hc hcu hm _ => ?_, trivial⟩
      obtain ⟨h8, -⟩ := hd
      obtain rfl : c = 0 := by have : c ≤ 0 := hcu; omega
      refine TOps.load1 h8 ti3 (Rd.part hn.up 1 rfl) rfl ?_
      exact TOps.fd x rfl rfl
    · refine ⟨fun x S c he hw hd hc hcu hm _ => ?_, trivial⟩
      obtain ⟨h0, h9, -⟩ := hd
      obtain rfl : c = 0 := hm rfl
      refine TOps.callV (caps := [_, _, _, _]) (vs := [_]) h0 Try.call55 ⟨h9, trivial⟩ (ih NP.lo (by omega) (hks.put hr63 true)) rfl ?_
      rintro _ _ ⟨m2, rfl, k2, l2, rfl⟩
      refine TOps.fin (Nrm.draw m2 ?_ rfl (Le.addFact ⟨k2, l2⟩))
      intro j hj hcj; rcases j with _|_|_|_|_|_|_|_|_|_|_|j <;> first | rfl | exact absurd rfl hj | exact absurd hcj (by decide)
      skip
    ) (fun m1 => ?_)
  refine Nrm.fact (List.Mem.head _) (fun hf => ?_)
  obtain ⟨f1, f2⟩ := hf
  refine Nrm.le (Le.drop (Le.refl _)) ?_
  refine Nrm.next ?_
  refine Tri.drawX (X := List (Nat × Bool)) rfl [(0, natV (2 + i)), (1, .pointer (some ⟨bs, 0, none⟩)), (2, .pointer (some ⟨bo, 0, none⟩)), (3, .pointer (some ⟨bw, 0, none⟩)), (4, .pointer (some ⟨bb, 0, none⟩))] [] (fun x => [_, _, _, _, _, _, _, _, _, _, .tuple (List.toArray [])]) (fun x c => match c with | 0 => tmap natV Value.bool md m1 :: H | _ + 1 => fact (KeysOk ok63 x ∧ x.length + 1 ≤ m1.length + 2 ^ (D.n - D.lv t t.ns[i].hi)) :: tmap natV Value.bool md x :: H) [10] [] [] rfl rfl ⟨rfl, rfl, rfl, rfl, rfl, trivial⟩ trivial (by repeat (first | exact Le.refl _ | assumption | apply Le.drop)) (by
    refine ⟨?_, ?_, ?_, ?_, ?_, ?_, ?_, ?_, ?_, ?_, ?_, trivial⟩
    · refine ⟨fun x S c he hw hd hc hcu hm _ => ?_, trivial⟩
      obtain rfl : c = 0 := by have : c ≤ 0 := hcu; omega
      refine TOps.load1 (he _ _ rfl) ti126 r3.up rfl ?_
      exact TOps.fd x rfl rfl
    · refine ⟨fun x S c he hw hd hc hcu hm _ => ?_, trivial⟩
      obtain rfl : c = 0 := by have : c ≤ 0 := hcu; omega
      refine TOps.load1 (he _ _ rfl) ti61 r4.up rfl ?_
      exact TOps.fd x rfl rfl
    · refine ⟨fun x S c he hw hd hc hcu hm _ => ?_, trivial⟩
      obtain ⟨h1, -⟩ := hd
      refine TOps.nilCheck h1 rfl ?_
      exact TOps.fd x rfl rfl
    · refine ⟨fun x S c he hw hd hc hcu hm _ => ?_, trivial⟩
      obtain ⟨h2, -⟩ := hd
      first | refine TOps.fieldB 2 h2 Try.underlying115 rfl rfl ti65 rfl rfl rfl ?_ | refine TOps.fieldN 2 h2 Try.underlying115 rfl rfl ti65 rfl rfl rfl ?_
      exact TOps.fd x rfl rfl
    · refine ⟨fun x S c he hw hd hc hcu hm _ => ?_, trivial⟩
      obtain ⟨h3, -⟩ := hd
      obtain rfl : c = 0 := by have : c ≤ 0 := hcu; omega
      refine TOps.load1 h3 ti65 (Rd.fld hh.up 2 rfl) rfl ?_
      exact TOps.fd x rfl rfl
    · refine ⟨fun x S c he hw hd hc hcu hm _ => ?_, trivial⟩
      refine TOps.move (he _ _ rfl) rfl ?_
      exact TOps.fd x rfl rfl
    · refine ⟨fun x S c he hw hd hc hcu hm _ => ?_, trivial⟩
      obtain ⟨h5, -⟩ := hd
      refine TOps.sub (r := (i : Int)) h5 rfl (by rw [wrapI (by omega) (by omega)]; omega) rfl ?_
      exact TOps.fd x rfl rfl
    · refine ⟨fun x S c he hw hd hc hcu hm _ => ?_, trivial⟩
      obtain ⟨h4, h6, -⟩ := hd
      refine TOps.indexAddr (off' := i * 3) h4 h6 Try.underlying65 ti123 (by omega) (by omega) (by simp) rfl ?_
      exact TOps.fd x rfl rfl
    · refine ⟨fun x S c he hw hd hc hcu hm _ => ?_, trivial⟩
      obtain ⟨h7, -⟩ := hd
      first | refine TOps.fieldB 2 h7 Try.underlying123 rfl rfl ti3 rfl rfl rfl ?_ | refine TOps.fieldN 2 h7 Try.underlying123 rfl rfl ti3 rfl rfl rfl ?_
      exact TOps.fd x rfl rfl
    · refine ⟨fun x S c he hw hd hc hcu hm _ => ?_, trivial⟩
      obtain ⟨h8, -⟩ := hd
      obtain rfl : c = 0 := by have : c ≤ 0 := hcu; omega
      refine TOps.load1 h8 ti3 (Rd.part hn.up 2 rfl) rfl ?_
      exact TOps.fd x rfl rfl
    · refine ⟨fun x S c he hw hd hc hcu hm _ => ?_, trivial⟩
      obtain ⟨h0, h9, -⟩ := hd
      obtain rfl : c = 0 := hm rfl
      refine TOps.callV (caps := [_, _, _, _]) (vs := [_]) h0 Try.call55 ⟨h9, trivial⟩ (ih NP.hi (by omega) f1) rfl ?_
      rintro _ _ ⟨m2, rfl, k2, l2, rfl⟩
      refine TOps.fin (Nrm.draw m2 ?_ rfl (Le.addFact ⟨k2, l2⟩))
      intro j hj hcj; rcases j with _|_|_|_|_|_|_|_|_|_|_|j <;> first | rfl | exact absurd rfl hj | exact absurd hcj (by decide)
      skip
    ) (fun m3 => ?_)
  refine Nrm.fact (List.Mem.head _) (fun hf => ?_)
  obtain ⟨f3, f4⟩ := hf
  refine Nrm.le (Le.drop (Le.refl _)) ?_
  exact Nrm.ret0 (H' := tmap natV Value.bool md m3 :: H) Try.results55 (Le.refl _) ⟨m3, rfl, f3, by omega, rfl⟩
theorem small_g {D : TS} {t : Tb} (hD : TSOk D) (hn8 : D.n ≤ 8) (h : TbOk D t) {H : List Ent} (ht : TabRd H D t) {r : Nat} (hr : r < 2 + t.sz) :
    Gives Try.prog 26 [.pointer (some ⟨D.bt, 0, none⟩), natV r, .int .i64 4096] H (R1 (.bool true) H) := by
  refine Gives.enter Try.func26 rfl (by exact Try.ntmps26) rfl ?_
  refine Tri.seq (Tri.region ?_)
  refine TOps.box1 rfl rfl ti61 rfl (fun b3 => ?_)
  refine TOps.box1 rfl rfl ti3 rfl (fun b5 => ?_)
  refine TOps.assign rfl rfl ?_
  refine TOps.next ?_
  refine Tri.seq (Tri.region ?_)
  refine TOps.makeT natV Value.bool rfl (fun b9 => ?_)
  refine TOps.alloc ti125 rfl (fun b7 => ?_)
  refine TOps.store1 rfl rfl ti125 rfl rfl (by repeat (first | exact Upd.here | apply Upd.there)) (by first | decide | (simp; done) | (simp; omega)) ?_
  refine TOps.next ?_
  refine Tri.seq (Tri.region ?_)
  refine TOps.alloc ti126 rfl (fun b8 => ?_)
  refine TOps.next ?_
  refine Tri.seq (Tri.region ?_)
  refine TOps.makeFunc (vs := [_, _, _, _]) ⟨rfl, rfl, rfl, rfl, trivial⟩ rfl ?_
  refine TOps.store1 rfl rfl ti126 rfl rfl (by repeat (first | exact Upd.here | apply Upd.there)) (by first | decide | (simp; done) | (simp; omega)) ?_
  refine TOps.le (H' := tmap natV Value.bool b9 [] :: row (some b8) 126 1 1 [.func (.func 55) #[] (List.toArray [.pointer (some ⟨b7, 0, none⟩), .pointer (some ⟨b5, 0, none⟩), .pointer (some ⟨b8, 0, none⟩), .pointer (some ⟨b3, 0, none⟩)])] :: row (some b7) 125 1 1 [.map (some b9)] :: row (some b5) 3 1 1 [.int .i64 4096] :: row (some b3) 61 1 1 [.pointer (some ⟨D.bt, 0, none⟩)] :: H) (Sp.le (by repeat (first | exact Sp.refl _ | exact Sp.sub (by assumption) | refine Sp.cons (by repeat (first | exact Pick.here | apply Pick.there)) ?_ | exact Sp.nil | apply Sp.skip))) ?_
  refine TOps.next ?_
  refine Tri.seq (Tri.region ?_)
  refine TOps.load1 rfl ti126 (Rd.lit (by repeat (first | exact List.Mem.head _ | apply List.Mem.tail)) rfl) rfl ?_
  refine TOps.move rfl rfl ?_
  refine TOps.callV (caps := [_, _, _, _]) (vs := [_]) rfl Try.call55 ⟨rfl, trivial⟩ (small1_g (H := row (some b8) 126 1 1 [.func (.func 55) #[] (List.toArray [.pointer (some ⟨b7, 0, none⟩), .pointer (some ⟨b5, 0, none⟩), .pointer (some ⟨b8, 0, none⟩), .pointer (some ⟨b3, 0, none⟩)])] :: row (some b7) 125 1 1 [.map (some b9)] :: row (some b5) 3 1 1 [.int .i64 4096] :: row (some b3) 61 1 1 [.pointer (some ⟨D.bt, 0, none⟩)] :: H) hD h (ht.le (Le.drop (Le.drop (Le.drop (Le.drop (Le.refl _)))))) (Rd.lit (by repeat (first | exact List.Mem.head _ | apply List.Mem.tail)) rfl) (Rd.lit (by repeat (first | exact List.Mem.head _ | apply List.Mem.tail)) rfl) (Rd.lit (by repeat (first | exact List.Mem.head _ | apply List.Mem.tail)) rfl) (Rd.lit (by repeat (first | exact List.Mem.head _ | apply List.Mem.tail)) rfl) (D.n + 1) hr (by omega) KeysOk.nil) rfl ?_
  rintro _ _ ⟨m', rfl, k2, l2, rfl⟩
  have hml : m'.length ≤ 256 := by have := pow8 hn8 (D.lv t r); simp only [List.length_nil] at l2; omega
  refine TOps.next ?_
  refine Tri.seq (Tri.region ?_)
  refine TOps.load1 rfl ti125 (Rd.lit (by repeat (first | exact List.Mem.head _ | apply List.Mem.tail)) rfl) rfl ?_
  refine TOps.lenT (kE := natV) (vE := Value.bool) rfl Try.underlying125 (List.Mem.head _) rfl ?_
  refine TOps.load1 rfl ti3 (by first | exact Rd.lit (by repeat (first | exact List.Mem.head _ | apply List.Mem.tail)) rfl | (repeat (first | assumption | apply Rd.up))) rfl ?_
  refine TOps.leq rfl rfl rfl ?_
  refine TOps.assign rfl rfl ?_
  refine TOps.next ?_
  refine Tri.ret1 (H' := H) Try.results26 (fun _ _ h => h) (.tmp rfl) (by repeat (first | exact Le.refl _ | apply Le.drop)) ⟨?_, rfl⟩
  exact congrArg Value.bool (decide_eq_true (by omega))
end Go.Proofs
namespace Go.Proofs
open Go.GL
set_option linter.unusedVariables false
set_option linter.unusedSimpArgs false
theorem count1_g {D : TS} {t : Tb} (hD : TSOk D) (h : TbOk D t) {bs bw bb md : Nat} {H : List Ent} (ht : TabRd H D t) (r1 : Rd H bs 0 [.map (some md)]) (r3 : Rd H bw 0 [.func (.func 57) #[] (List.toArray [.pointer (some ⟨bs, 0, none⟩), .pointer (some ⟨bw, 0, none⟩), .pointer (some ⟨bb, 0, none⟩)])]) (r4 : Rd H bb 0 [.pointer (some ⟨D.bt, 0, none⟩)]) :
    ∀ (k : Nat) {r : Nat} {m : List (Nat × Nat)}, r < 2 + t.sz → D.n - D.lv t r < k → CtOk D t m →
    Gives Try.prog 57 [natV r, .pointer (some ⟨bs, 0, none⟩), .pointer (some ⟨bw, 0, none⟩), .pointer (some ⟨bb, 0, none⟩)] (tmap natV natV md m :: H) (CtR D t r md H) := by
  intro k
  induction k with
  | zero => intro r m hr hk; omega
  | succ k ih =>
  intro r m hr hk hks
  have hr63 := h.u63 hr
  have hlen := h.len
  have n24 := hD.n24
  have hp24 : 2 ^ D.n ≤ 16777216 := pow24 n24
  refine Gives.enter Try.func57 rfl (by exact Try.ntmps57) rfl ?_
  refine Tri.seq (Tri.region ?_)
  refine TOps.assign rfl rfl ?_
  refine TOps.next ?_
  refine Tri.seq (Tri.region ?_)
  refine TOps.load1 rfl ti128 r1.up rfl ?_
  refine TOps.move rfl rfl ?_
  refine TOps.lookT (k := r) (vE := natV) (z := natV 0) keyNat rfl rfl Try.underlying128 zeroNat (List.Mem.head _) hks.keys hr63 rfl ?_
  refine TOps.move rfl rfl ?_
  refine TOps.extract rfl rfl rfl ?_
  refine TOps.extract rfl rfl rfl ?_
  refine TOps.assign rfl rfl ?_
  refine TOps.assign rfl rfl ?_
  refine TOps.next ?_
  refine Tri.seq ?_
  refine Tri.seq (Tri.region ?_)
  refine TOps.move rfl rfl ?_
  refine TOps.not rfl rfl ?_
  refine TOps.next ?_
  refine Tri.cond rfl (fun hc1 => ?_) (fun hc1 => ?_)
  · try simp only [decide_eq_true_eq, decide_eq_false_iff_not, Bool.and_eq_true, Bool.or_eq_true, Bool.not_eq_true', Bool.and_eq_false_iff, Bool.or_eq_false_iff, Bool.not_eq_false', Int.not_lt, Int.not_le, ne_eq, Decidable.not_not, Option.isSome_iff_ne_none, Option.isNone_iff_eq_none] at hc1
    have hx : lookT r m = none := by simpa using hc1
    have h2r : 2 ≤ r := Nat.le_of_not_lt fun h2 => hks.has r h2 hx
    obtain ⟨i, rfl⟩ : ∃ i, r = 2 + i := ⟨r - 2, by omega⟩
    have hi : i < t.ns.length := by unfold Tb.sz at hr; omega
    have NP := node_pow hD h hi
    obtain ⟨nb, hnb, hn⟩ := ht.node hi
    have hh := ht.hd
    unfold TS.head at hh
    rw [hnb] at hh
    have g0 := NP.llo; have g1 := NP.lhi; have g2 := NP.lt
    have hcn := cn_node hD h hi
    have c0 := D.cn_le t t.ns[i].lo; have c1 := D.cn_le t t.ns[i].hi
    have hle : ∀ (x : List (Nat × Nat) × List (Nat × Nat)) (c : Nat), Le (match c with | 0 => tmap natV natV md m :: H | 1 => fact (CtOk D t x.1) :: tmap natV natV md x.1 :: H | _ + 2 => fact (CtOk D t x.2) :: tmap natV natV md x.2 :: H) H := by intro x c; match c with | 0 => exact Le.drop (Le.refl _) | 1 => exact Le.drop (Le.drop (Le.refl _)) | _ + 2 => exact Le.drop (Le.drop (Le.refl _))
    refine Tri.seq ?_
    refine Tri.drawX (X := List (Nat × Nat) × List (Nat × Nat)) rfl [(0, natV (2 + i)), (1, .pointer (some ⟨bs, 0, none⟩)), (2, .pointer (some ⟨bw, 0, none⟩)), (3, .pointer (some ⟨bb, 0, none⟩))] [] (fun x => [_, _, _, _, _, _, _, _, _, _, natV (D.cn t t.ns[i].lo), _, _, _, _, _, _, _, _, _, _, natV (D.cn t t.ns[i].hi), _, _, _]) (fun x c => match c with | 0 => tmap natV natV md m :: H | 1 => fact (CtOk D t x.1) :: tmap natV natV md x.1 :: H | _ + 2 => fact (CtOk D t x.2) :: tmap natV natV md x.2 :: H) [10, 21] ([], []) [24] rfl rfl ⟨rfl, rfl, rfl, rfl, trivial⟩ trivial (by repeat (first | exact Le.refl _ | assumption | apply Le.drop)) (by
      refine ⟨?_, ?_, ?_, ?_, ?_, ?_, ?_, ?_, ?_, ?_, ?_, ?_, ?_, ?_, ?_, ?_, ?_, ?_, ?_, ?_, ?_, ?_, ?_, ?_, ?_, trivial⟩
      · refine ⟨fun x S c he hw hd hc hcu hm _ => ?_, trivial⟩
        refine TOps.load1 (he _ _ rfl) ti75 (r3.le (hle x c)) rfl ?_
        exact TOps.fd x rfl rfl
      · refine ⟨fun x S c he hw hd hc hcu hm _ => ?_, trivial⟩
        refine TOps.load1 (he _ _ rfl) ti61 (r4.le (hle x c)) rfl ?_
        exact TOps.fd x rfl rfl
      · refine ⟨fun x S c he hw hd hc hcu hm _ => ?_, trivial⟩
        obtain ⟨h1, -⟩ := hd
        refine TOps.nilCheck h1 rfl ?_
        exact TOps.fd x rfl rfl
      · refine ⟨fun x S c he hw hd hc hcu hm _ => ?_, trivial⟩
        obtain ⟨h2, -⟩ := hd
        first | refine TOps.fieldB 2 h2 Try.underlying115 rfl rfl ti65 rfl rfl rfl ?_ | refine TOps.fieldN 2 h2 Try.underlying115 rfl rfl ti65 rfl rfl rfl ?_
        exact TOps.fd x rfl rfl
      · refine ⟨fun x S c he hw hd hc hcu hm _ => ?_, trivial⟩
        obtain ⟨h3, -⟩ := hd
        refine TOps.load1 h3 ti65 (Rd.fld (hh.le (hle x c)) 2 rfl) rfl ?_
        exact TOps.fd x rfl rfl
      · refine ⟨fun x S c he hw hd hc hcu hm _ => ?_, trivial⟩
        refine TOps.move (he _ _ rfl) rfl ?_
        exact TOps.fd x rfl rfl
      · refine ⟨fun x S c he hw hd hc hcu hm _ => ?_, trivial⟩
        obtain ⟨h5, -⟩ := hd
        refine TOps.sub (r := (i : Int)) h5 rfl (by rw [wrapI (by omega) (by omega)]; omega) rfl ?_
        exact TOps.fd x rfl rfl
      · refine ⟨fun x S c he hw hd hc hcu hm _ => ?_, trivial⟩
        obtain ⟨h4, h6, -⟩ := hd
        refine TOps.indexAddr (off' := i * 3) h4 h6 Try.underlying65 ti123 (by omega) (by omega) (by simp) rfl ?_
        exact TOps.fd x rfl rfl
      · refine ⟨fun x S c he hw hd hc hcu hm _ => ?_, trivial⟩
        obtain ⟨h7, -⟩ := hd
        first | refine TOps.fieldB 1 h7 Try.underlying123 rfl rfl ti3 rfl rfl rfl ?_ | refine TOps.fieldN 1 h7 Try.underlying123 rfl rfl ti3 rfl rfl rfl ?_
        exact TOps.fd x rfl rfl
      · refine ⟨fun x S c he hw hd hc hcu hm _ => ?_, trivial⟩
        obtain ⟨h8, -⟩ := hd
        refine TOps.load1 h8 ti3 (Rd.part (hn.le (hle x c)) 1 rfl) rfl ?_
        exact TOps.fd x rfl rfl
      · refine ⟨fun x S c he hw hd hc hcu hm _ => ?_, trivial⟩
        obtain ⟨h0, h9, -⟩ := hd
        obtain rfl : c = 0 := hm rfl
        refine TOps.callV (caps := [_, _, _]) (vs := [_]) h0 Try.call57 ⟨h9, trivial⟩ (ih NP.lo (by omega) hks) rfl ?_
        rintro _ _ ⟨m2, rfl, k2, rfl⟩
        refine TOps.fin (Nrm.draw (m2, x.2) ?_ rfl (Le.addFact k2))
        intro j hj hcj; rcases j with _|_|_|_|_|_|_|_|_|_|_|_|_|_|_|_|_|_|_|_|_|_|_|_|_|j <;> first | rfl | exact absurd rfl hj | exact absurd hcj (by decide)
        skip
      · refine ⟨fun x S c he hw hd hc hcu hm _ => ?_, trivial⟩
        refine TOps.load1 (he _ _ rfl) ti75 (r3.le (hle x c)) rfl ?_
        exact TOps.fd x rfl rfl
      · refine ⟨fun x S c he hw hd hc hcu hm _ => ?_, trivial⟩
        refine TOps.load1 (he _ _ rfl) ti61 (r4.le (hle x c)) rfl ?_
        exact TOps.fd x rfl rfl
      · refine ⟨fun x S c he hw hd hc hcu hm _ => ?_, trivial⟩
        obtain ⟨h12, -⟩ := hd
        refine TOps.nilCheck h12 rfl ?_
        exact TOps.fd x rfl rfl
      · refine ⟨fun x S c he hw hd hc hcu hm _ => ?_, trivial⟩
        obtain ⟨h13, -⟩ := hd
        first | refine TOps.fieldB 2 h13 Try.underlying115 rfl rfl ti65 rfl rfl rfl ?_ | refine TOps.fieldN 2 h13 Try.underlying115 rfl rfl ti65 rfl rfl rfl ?_
        exact TOps.fd x rfl rfl
      · refine ⟨fun x S c he hw hd hc hcu hm _ => ?_, trivial⟩
        obtain ⟨h14, -⟩ := hd
        refine TOps.load1 h14 ti65 (Rd.fld (hh.le (hle x c)) 2 rfl) rfl ?_
        exact TOps.fd x rfl rfl
      · refine ⟨fun x S c he hw hd hc hcu hm _ => ?_, trivial⟩
        refine TOps.move (he _ _ rfl) rfl ?_
        exact TOps.fd x rfl rfl
      · refine ⟨fun x S c he hw hd hc hcu hm _ => ?_, trivial⟩
        obtain ⟨h16, -⟩ := hd
        refine TOps.sub (r := (i : Int)) h16 rfl (by rw [wrapI (by omega) (by omega)]; omega) rfl ?_
        exact TOps.fd x rfl rfl
      · refine ⟨fun x S c he hw hd hc hcu hm _ => ?_, trivial⟩
        obtain ⟨h15, h17, -⟩ := hd
        refine TOps.indexAddr (off' := i * 3) h15 h17 Try.underlying65 ti123 (by omega) (by omega) (by simp) rfl ?_
        exact TOps.fd x rfl rfl
      · refine ⟨fun x S c he hw hd hc hcu hm _ => ?_, trivial⟩
        obtain ⟨h18, -⟩ := hd
        first | refine TOps.fieldB 2 h18 Try.underlying123 rfl rfl ti3 rfl rfl rfl ?_ | refine TOps.fieldN 2 h18 Try.underlying123 rfl rfl ti3 rfl rfl rfl ?_
        exact TOps.fd x rfl rfl
      · refine ⟨fun x S c he hw hd hc hcu hm _ => ?_, trivial⟩
        obtain ⟨h19, -⟩ := hd
        refine TOps.load1 h19 ti3 (Rd.part (hn.le (hle x c)) 2 rfl) rfl ?_
        exact TOps.fd x rfl rfl
      · refine ⟨fun x S c he hw hd hc hcu hm _ => ?_, trivial⟩
        obtain ⟨h11, h20, h10, -⟩ := hd
        obtain rfl : c = 1 := hm rfl
        refine TOps.fact (List.Mem.head _) (fun f1 => ?_)
        refine TOps.le (Le.drop (Le.refl _)) ?_
        refine TOps.callV (caps := [_, _, _]) (vs := [_]) h11 Try.call57 ⟨h20, trivial⟩ (ih NP.hi (by omega) f1) rfl ?_
        rintro _ _ ⟨m2, rfl, k2, rfl⟩
        refine TOps.fin (Nrm.draw (x.1, m2) ?_ rfl (Le.addFact k2))
        intro j hj hcj; rcases j with _|_|_|_|_|_|_|_|_|_|_|_|_|_|_|_|_|_|_|_|_|_|_|_|_|j <;> first | rfl | exact absurd rfl hj | exact absurd hcj (by decide)
        skip
      · refine ⟨fun x S c he hw hd hc hcu hm _ => ?_, trivial⟩
        obtain ⟨h10, h21, -⟩ := hd
        refine TOps.add (r := ((2 * D.cn t (2 + i) : Nat) : Int)) h10 h21 (by rw [wrapI (by omega) (by omega)]; omega) rfl ?_
        exact TOps.fd x rfl rfl
      · refine ⟨fun x S c he hw hd hc hcu hm _ => ?_, trivial⟩
        obtain ⟨h22, -⟩ := hd
        refine TOps.quo (r := (D.cn t (2 + i) : Int)) h22 rfl (by decide) (by rw [show ((2 * D.cn t (2 + i) : Nat) : Int).tdiv 2 = (D.cn t (2 + i) : Int) by rw [Int.tdiv_eq_ediv_of_nonneg (by omega)]; omega]; exact wrapI (by omega) (by omega)) rfl ?_
        exact TOps.fd x rfl rfl
      · refine ⟨fun x S c he hw hd hc hcu hm _ => ?_, trivial⟩
        obtain ⟨h23, h21, h0, h1, h2, h3, h4, h5, h6, h7, h8, h9, h10, h11, h12, h13, h14, h15, h16, h17, h18, h19, h20, _, h22, _, -⟩ := hd
        refine TOps.assign h23 rfl ?_
        exact TOps.fd x rfl rfl
      ) (fun w => ?_)
    refine Nrm.fact (List.Mem.head _) (fun f2 => ?_)
    refine Nrm.le (Le.drop (Le.refl _)) ?_
    refine Nrm.next ?_
    refine Tri.region ?_
    refine TOps.load1 rfl ti128 r1.up rfl ?_
    refine TOps.move rfl rfl ?_
    refine TOps.move rfl rfl ?_
    refine TOps.putT (k := 2 + i) (vE := natV) (v := D.cn t (2 + i)) keyNat rfl rfl rfl Try.underlying128 Upd.here f2.keys hr63 ?_
    refine TOps.fin ?_
    refine Nrm.next ?_
    refine Tri.seq (Tri.region ?_)
    refine TOps.move rfl rfl ?_
    refine TOps.assign rfl rfl ?_
    refine TOps.next ?_
    refine Tri.ret1 (H' := tmap natV natV md (putT (2 + i) (D.cn t (2 + i)) w.2) :: H) Try.results57 (fun _ _ h => h) (.tmp rfl) (Le.refl _) ⟨_, rfl, f2.put hr63, rfl⟩
  try simp only [decide_eq_true_eq, decide_eq_false_iff_not, Bool.and_eq_true, Bool.or_eq_true, Bool.not_eq_true', Bool.and_eq_false_iff, Bool.or_eq_false_iff, Bool.not_eq_false', Int.not_lt, Int.not_le, ne_eq, Decidable.not_not, Option.isSome_iff_ne_none, Option.isNone_iff_eq_none] at hc1
  obtain ⟨x, hx⟩ : ∃ x, lookT r m = some x := Option.ne_none_iff_exists'.1 hc1
  rw [hx]
  have hxe := hks.get hx
  subst hxe
  refine Tri.fin ?_
  refine Nrm.next ?_
  refine Tri.seq (Tri.region ?_)
  refine TOps.move rfl rfl ?_
  refine TOps.assign rfl rfl ?_
  refine TOps.next ?_
  refine Tri.ret1 (H' := tmap natV natV md m :: H) Try.results57 (fun _ _ h => h) (.tmp rfl) (Le.refl _) ⟨m, rfl, hks, rfl⟩
theorem count_g {D : TS} {t : Tb} (hD : TSOk D) (h : TbOk D t) {H : List Ent} (ht : TabRd H D t) {r : Nat} (hr : r < 2 + t.sz) :
    Gives Try.prog 28 [.pointer (some ⟨D.bt, 0, none⟩), natV r] H (R1 (natV (D.cn t r)) H) := by
  have n24 := hD.n24
  have hp24 : 2 ^ D.n ≤ 16777216 := pow24 n24
  have hh := ht.hd
  unfold TS.head at hh
  refine Gives.enter Try.func28 rfl (by exact Try.ntmps28) rfl ?_
  refine Tri.seq (Tri.region ?_)
  refine TOps.box1 rfl rfl ti61 rfl (fun b2 => ?_)
  refine TOps.assign rfl rfl ?_
  refine TOps.next ?_
  refine Tri.seq (Tri.region ?_)
  refine TOps.makeT natV natV rfl (fun b7 => ?_)
  refine TOps.insT (k := 0) (kE := natV) (vE := natV) (v := 0) keyNat rfl rfl rfl Try.underlying128 Upd.here KeysOk.nil (by unfold ok63; omega) ?_
  refine TOps.load1 rfl ti61 (by first | exact Rd.lit (by repeat (first | exact List.Mem.head _ | apply List.Mem.tail)) rfl | (repeat (first | assumption | apply Rd.up))) rfl ?_
  refine TOps.nilCheck rfl rfl ?_
  refine TOps.field0 rfl Try.underlying115 rfl rfl ti53 rfl rfl rfl ?_
  refine TOps.load1 rfl ti53 (by first | exact Rd.lit (by repeat (first | exact List.Mem.head _ | apply List.Mem.tail)) rfl | (repeat (first | assumption | exact Rd.fld (by assumption) 0 rfl | apply Rd.up))) rfl ?_
  refine TOps.len rfl Try.underlying53 rfl ?_
  refine TOps.shl (r := ((2 ^ D.n : Nat) : Int)) rfl rfl (by omega) (by rw [Int.toNat_natCast]; exact ishl_one (by omega)) rfl ?_
  refine TOps.insT (k := 1) (kE := natV) (vE := natV) (v := 2 ^ D.n) keyNat rfl rfl rfl Try.underlying128 Upd.here (KeysOk.nil.put (by unfold ok63; omega) _) (by unfold ok63; omega) ?_
  refine TOps.move rfl rfl ?_
  refine TOps.alloc ti128 rfl (fun b5 => ?_)
  refine TOps.store1 rfl rfl ti128 rfl rfl (by repeat (first | exact Upd.here | apply Upd.there)) (by first | decide | (simp; done) | (simp; omega)) ?_
  refine TOps.next ?_
  refine Tri.seq (Tri.region ?_)
  refine TOps.alloc ti75 rfl (fun b6 => ?_)
  refine TOps.next ?_
  refine Tri.seq (Tri.region ?_)
  refine TOps.makeFunc (vs := [_, _, _]) ⟨rfl, rfl, rfl, trivial⟩ rfl ?_
  refine TOps.store1 rfl rfl ti75 rfl rfl (by repeat (first | exact Upd.here | apply Upd.there)) (by first | decide | (simp; done) | (simp; omega)) ?_
  refine TOps.le (H' := tmap natV natV b7 (putT 1 (2 ^ D.n) (putT 0 0 [])) :: row (some b6) 75 1 1 [.func (.func 57) #[] (List.toArray [.pointer (some ⟨b5, 0, none⟩), .pointer (some ⟨b6, 0, none⟩), .pointer (some ⟨b2, 0, none⟩)])] :: row (some b5) 128 1 1 [.map (some b7)] :: row (some b2) 61 1 1 [.pointer (some ⟨D.bt, 0, none⟩)] :: H) (Sp.le (by repeat (first | exact Sp.refl _ | exact Sp.sub (by assumption) | refine Sp.cons (by repeat (first | exact Pick.here | apply Pick.there)) ?_ | exact Sp.nil | apply Sp.skip))) ?_
  refine TOps.next ?_
  refine Tri.seq (Tri.region ?_)
  refine TOps.load1 rfl ti75 (Rd.lit (by repeat (first | exact List.Mem.head _ | apply List.Mem.tail)) rfl) rfl ?_
  refine TOps.move rfl rfl ?_
  refine TOps.callV (caps := [_, _, _]) (vs := [_]) rfl Try.call57 ⟨rfl, trivial⟩ (count1_g (H := row (some b6) 75 1 1 [.func (.func 57) #[] (List.toArray [.pointer (some ⟨b5, 0, none⟩), .pointer (some ⟨b6, 0, none⟩), .pointer (some ⟨b2, 0, none⟩)])] :: row (some b5) 128 1 1 [.map (some b7)] :: row (some b2) 61 1 1 [.pointer (some ⟨D.bt, 0, none⟩)] :: H) hD h (ht.le (Le.drop (Le.drop (Le.drop (Le.refl _))))) (Rd.lit (by repeat (first | exact List.Mem.head _ | apply List.Mem.tail)) rfl) (Rd.lit (by repeat (first | exact List.Mem.head _ | apply List.Mem.tail)) rfl) (Rd.lit (by repeat (first | exact List.Mem.head _ | apply List.Mem.tail)) rfl) (D.n + 1) hr (by omega) (CtOk.start D t)) rfl ?_
  rintro _ _ ⟨m', rfl, k2, rfl⟩
  refine TOps.assign rfl rfl ?_
  refine TOps.next ?_
  refine Tri.ret1 (H' := H) Try.results28 (fun _ _ h => h) (.tmp rfl) (by repeat (first | exact Le.refl _ | apply Le.drop)) ⟨rfl, rfl⟩
end Go.Proofs
namespace Go.Proofs
open Go.GL
set_option linter.unusedVariables false
set_option linter.unusedSimpArgs false
set_option maxRecDepth 20000 in
theorem compose1_g {D : TS} (hD : TSOk D) (hty : DTy D) (hn8 : D.n ≤ 8) {bb be bs bo bw md ev : Nat} {bv : Bool} (hev : ev < D.n) :
    ∀ (k : Nat) {H : List Ent} {t : Tb} {r : Nat} {m : List (Nat × Nat)}, Rd H bb 0 [.pointer (some ⟨D.bt, 0, none⟩)] → Rd H be 0 [natV ev] → Rd H bs 0 [.map (some md)] → Rd H bo 0 [natV (byN bv)] → Rd H bw 0 [.func (.func 90) #[] (List.toArray [.pointer (some ⟨bb, 0, none⟩), .pointer (some ⟨be, 0, none⟩), .pointer (some ⟨bs, 0, none⟩), .pointer (some ⟨bo, 0, none⟩), .pointer (some ⟨bw, 0, none⟩)])] → TbOk D t → r < 2 + t.sz → D.n - D.lv t r < k → CoOk D ev bv t m → t.sz + 2 * 4 ^ (D.n - D.lv t r) ≤ 1099511000000 →
    Gives Try.prog 90 [natV r, .pointer (some ⟨bb, 0, none⟩), .pointer (some ⟨be, 0, none⟩), .pointer (some ⟨bs, 0, none⟩), .pointer (some ⟨bo, 0, none⟩), .pointer (some ⟨bw, 0, none⟩)] (tabE D t :: tmap natV natV md m :: H) (CmG D ev bv t r md H) := by
  intro k
  induction k with
  | zero => intro H t r m _ _ _ _ _ _ hr hk; omega
  | succ k ih =>
  intro H t r m rb re rs ro rw' h hr hk hks hs
  have hr63 := h.u63 hr
  have hlen := h.len
  have n24 := hD.n24
  have hrl := D.lv_le hD h hr
  have hh := (tab_rd hD h (H := tmap natV natV md m :: H)).hd
  unfold TS.head at hh
  have hpl := (tab_rd hD h (H := tmap natV natV md m :: H)).place (v := ev) (by rw [hD.op.lp]; exact hev)
  have hpe := (hD.op.po ev hev).1
  refine Gives.enter Try.func90 rfl (by exact Try.ntmps90) rfl ?_
  refine Tri.seq (Tri.region ?_)
  refine TOps.assign rfl rfl ?_
  refine TOps.next ?_
  refine Tri.seq ?_
  refine Tri.seq ?_
  refine Tri.drawC rfl [(0, natV r), (1, .pointer (some ⟨bb, 0, none⟩)), (2, .pointer (some ⟨be, 0, none⟩)), (3, .pointer (some ⟨bs, 0, none⟩)), (4, .pointer (some ⟨bo, 0, none⟩)), (5, .pointer (some ⟨bw, 0, none⟩))] [] [_, _, _, _, _, _, _, _, _, _, _] (tabE D t :: tmap natV natV md m :: H) [10] rfl ⟨rfl, rfl, rfl, rfl, rfl, rfl, trivial⟩ trivial (by repeat (first | exact Le.refl _ | assumption | apply Le.drop)) (by
    refine ⟨?_, ?_, ?_, ?_, ?_, ?_, ?_, ?_, ?_, ?_, ?_, trivial⟩
    · refine ⟨fun x S c he hw hd hc hcu hm _ => ?_, trivial⟩
      refine TOps.load1 (he _ _ rfl) ti61 rb.up.up rfl ?_
      exact TOps.fd x rfl rfl
    · refine ⟨fun x S c he hw hd hc hcu hm _ => ?_, trivial⟩
      refine TOps.move (he _ _ rfl) rfl ?_
      exact TOps.fd x rfl rfl
    · refine ⟨fun x S c he hw hd hc hcu hm _ => ?_, trivial⟩
      obtain ⟨h0, h1, -⟩ := hd
      refine TOps.call (vs := [_, _]) Try.call78 ⟨h0, h1, trivial⟩ (dlvl_g hD h (tab_rd hD h) hr) rfl ?_
      rintro _ _ ⟨rfl, rfl⟩
      exact TOps.fd x rfl rfl
    · refine ⟨fun x S c he hw hd hc hcu hm _ => ?_, trivial⟩
      refine TOps.load1 (he _ _ rfl) ti61 rb.up.up rfl ?_
      exact TOps.fd x rfl rfl
    · refine ⟨fun x S c he hw hd hc hcu hm _ => ?_, trivial⟩
      obtain ⟨h3, -⟩ := hd
      refine TOps.nilCheck h3 rfl ?_
      exact TOps.fd x rfl rfl
    · refine ⟨fun x S c he hw hd hc hcu hm _ => ?_, trivial⟩
      obtain ⟨h4, -⟩ := hd
      first | refine TOps.fieldB 1 h4 Try.underlying115 rfl rfl ti53 rfl rfl rfl ?_ | refine TOps.fieldN 1 h4 Try.underlying115 rfl rfl ti53 rfl rfl rfl ?_
      exact TOps.fd x rfl rfl
    · refine ⟨fun x S c he hw hd hc hcu hm _ => ?_, trivial⟩
      obtain ⟨h5, -⟩ := hd
      refine TOps.load1 h5 ti53 (by first | exact Rd.lit (by repeat (first | exact List.Mem.head _ | apply List.Mem.tail)) rfl | (repeat (first | assumption | exact Rd.fld (by assumption) 1 rfl | apply Rd.up))) rfl ?_
      exact TOps.fd x rfl rfl
    · refine ⟨fun x S c he hw hd hc hcu hm _ => ?_, trivial⟩
      refine TOps.load1 (he _ _ rfl) ti3 re.up.up rfl ?_
      exact TOps.fd x rfl rfl
    · refine ⟨fun x S c he hw hd hc hcu hm _ => ?_, trivial⟩
      obtain ⟨h6, h7, -⟩ := hd
      refine TOps.indexAddr (off' := ev) h6 h7 Try.underlying53 ti3 (by omega) (by omega) (by simp) rfl ?_
      exact TOps.fd x rfl rfl
    · refine ⟨fun x S c he hw hd hc hcu hm _ => ?_, trivial⟩
      obtain ⟨h8, -⟩ := hd
      refine TOps.load1 h8 ti3 hpl rfl ?_
      exact TOps.fd x rfl rfl
    · refine ⟨fun x S c he hw hd hc hcu hm _ => ?_, trivial⟩
      obtain ⟨h2, h9, -⟩ := hd
      refine TOps.gtr h2 h9 rfl ?_
      exact TOps.fd x rfl rfl
    ) ?_
  refine Nrm.next ?_
  refine Tri.cond rfl (fun hc1 => ?_) (fun hc1 => ?_)
  · try simp only [decide_eq_true_eq, decide_eq_false_iff_not, Bool.and_eq_true, Bool.or_eq_true, Bool.not_eq_true', Bool.and_eq_false_iff, Bool.or_eq_false_iff, Bool.not_eq_false', Int.not_lt, Int.not_le, ne_eq, Decidable.not_not, Option.isSome_iff_ne_none, Option.isNone_iff_eq_none] at hc1
    refine Tri.seq (Tri.region ?_)
    refine TOps.move rfl rfl ?_
    refine TOps.assign rfl rfl ?_
    refine TOps.next ?_
    refine Tri.ret1 (H' := tabE D t :: tmap natV natV md m :: H) Try.results90 (fun _ _ h => h) (.tmp rfl) (Le.refl _) ⟨t, m, r, rfl, CmR.same hD h hev hr (by omega), hks, rfl⟩
  try simp only [decide_eq_true_eq, decide_eq_false_iff_not, Bool.and_eq_true, Bool.or_eq_true, Bool.not_eq_true', Bool.and_eq_false_iff, Bool.or_eq_false_iff, Bool.not_eq_false', Int.not_lt, Int.not_le, ne_eq, Decidable.not_not, Option.isSome_iff_ne_none, Option.isNone_iff_eq_none] at hc1
  refine Tri.fin ?_
  refine Nrm.next ?_
  refine Tri.seq ?_
  refine Tri.seq (Tri.region ?_)
  refine TOps.load1 rfl ti128 rs.up.up rfl ?_
  refine TOps.move rfl rfl ?_
  refine TOps.lookT (k := r) (vE := natV) (z := natV 0) keyNat rfl rfl Try.underlying128 zeroNat (List.Mem.tail _ (List.Mem.head _)) hks.keys hr63 rfl ?_
  refine TOps.move rfl rfl ?_
  refine TOps.extract rfl rfl rfl ?_
  refine TOps.extract rfl rfl rfl ?_
  refine TOps.assign rfl rfl ?_
  refine TOps.assign rfl rfl ?_
  refine TOps.next ?_
  refine Tri.seq (Tri.region ?_)
  refine TOps.move rfl rfl ?_
  refine TOps.next ?_
  refine Tri.cond rfl (fun hc2 => ?_) (fun hc2 => ?_)
  · try simp only [decide_eq_true_eq, decide_eq_false_iff_not, Bool.and_eq_true, Bool.or_eq_true, Bool.not_eq_true', Bool.and_eq_false_iff, Bool.or_eq_false_iff, Bool.not_eq_false', Int.not_lt, Int.not_le, ne_eq, Decidable.not_not, Option.isSome_iff_ne_none, Option.isNone_iff_eq_none] at hc2
    obtain ⟨x, hx⟩ : ∃ x, lookT r m = some x := Option.ne_none_iff_exists'.1 hc2
    rw [hx]
    refine Tri.seq (Tri.region ?_)
    refine TOps.move rfl rfl ?_
    refine TOps.assign rfl rfl ?_
    refine TOps.next ?_
    refine Tri.ret1 (H' := tabE D t :: tmap natV natV md m :: H) Try.results90 (fun _ _ h => h) (.tmp rfl) (Le.refl _) ⟨t, m, x, rfl, CmR.old h hks hx, hks, rfl⟩
  try simp only [decide_eq_true_eq, decide_eq_false_iff_not, Bool.and_eq_true, Bool.or_eq_true, Bool.not_eq_true', Bool.and_eq_false_iff, Bool.or_eq_false_iff, Bool.not_eq_false', Int.not_lt, Int.not_le, ne_eq, Decidable.not_not, Option.isSome_iff_ne_none, Option.isNone_iff_eq_none] at hc2
  have h2r : 2 ≤ r := Nat.le_of_not_lt fun h2 => by have : D.lv t r = D.n := lvl_const _ _ _ h2; omega
  obtain ⟨i, rfl⟩ : ∃ i, r = 2 + i := ⟨r - 2, by omega⟩
  have hi : i < t.ns.length := by unfold Tb.sz at hr; omega
  have NP := node_pow hD h hi
  obtain ⟨nb, hnb, hn⟩ := (tab_rd hD h (H := tmap natV natV md m :: H)).node hi
  have hp42 := pow42 (k := D.n - D.lv t (2 + i)) (by have := NP.lt; omega)
  have hp4 := pow4 (D.n - D.lv t (2 + i))
  have l0 := NP.llo; have l1 := NP.lhi; have l2 := NP.lt
  rw [hnb] at hh
  refine Tri.fin ?_
  refine Nrm.next ?_
  refine Tri.seq (Tri.region ?_)
  refine TOps.load1 rfl ti61 rb.up.up rfl ?_
  refine TOps.nilCheck rfl rfl ?_
  first | refine TOps.fieldB 2 rfl Try.underlying115 rfl rfl ti65 rfl rfl rfl ?_ | refine TOps.fieldN 2 rfl Try.underlying115 rfl rfl ti65 rfl rfl rfl ?_
  refine TOps.load1 rfl ti65 (by first | exact Rd.lit (by repeat (first | exact List.Mem.head _ | apply List.Mem.tail)) rfl | (repeat (first | assumption | exact Rd.fld (by assumption) 2 rfl | apply Rd.up))) rfl ?_
  refine TOps.move rfl rfl ?_
  refine TOps.sub (r := (i : Int)) rfl rfl (by rw [wrapI (by omega) (by omega)]; omega) rfl ?_
  refine TOps.indexAddr (off' := i * 3) rfl rfl Try.underlying65 ti123 (by omega) (by omega) (by simp) rfl ?_
  refine TOps.loadN (vs := dnCells t.ns[i]) rfl ti123 hn rfl rfl ?_
  refine TOps.alloc ti123 rfl (fun b10 => ?_)
  refine TOps.storeN rfl rfl ti123 rfl rfl (by repeat (first | exact Upd.here | apply Upd.there)) (by first | decide | (simp; done) | (simp; omega)) ?_
  refine TOps.le (show Le (row (some b10) 123 3 1 [natV t.ns[i].v, natV t.ns[i].lo, natV t.ns[i].hi] :: tabE D t :: tmap natV natV md m :: H) (tabE D t :: tmap natV natV md m :: row (some b10) 123 3 1 [natV t.ns[i].v, natV t.ns[i].lo, natV t.ns[i].hi] :: H) from Le.mid1) ?_
  have hrN : Rd (row (some b10) 123 3 1 [natV t.ns[i].v, natV t.ns[i].lo, natV t.ns[i].hi] :: H) b10 0 [natV t.ns[i].v, natV t.ns[i].lo, natV t.ns[i].hi] := Rd.all (List.Mem.head _)
  refine TOps.next ?_
  refine Tri.seq (Tri.region ?_)
  refine TOps.assign rfl rfl ?_
  refine TOps.next ?_
  refine Tri.seqMid (X := Tb × List (Nat × Nat) × Nat) (fun y => [(0, natV (2 + i)), (3, .pointer (some ⟨bs, 0, none⟩)), (11, natV y.2.2)]) (fun y => tabE D y.1 :: tmap natV natV md y.2.1 :: row (some b10) 123 3 1 [natV t.ns[i].v, natV t.ns[i].lo, natV t.ns[i].hi] :: H) (fun y => CmR D ev bv t y.1 (2 + i) y.2.2 ∧ CoOk D ev bv y.1 y.2.1) ?_ (fun y hmid => ?_)
  · skip
    refine Tri.seq (Tri.region ?_)
    refine TOps.field0 rfl Try.underlying123 rfl rfl ti3 rfl rfl rfl ?_
    refine TOps.load1 rfl ti3 (Rd.fld hrN.up.up 0 rfl) rfl ?_
    refine TOps.load1 rfl ti3 re.up.up.up rfl ?_
    refine TOps.eqlI rfl rfl rfl ?_
    refine TOps.next ?_
    refine Tri.cond rfl (fun hc3 => ?_) (fun hc3 => ?_)
    · try simp only [decide_eq_true_eq, decide_eq_false_iff_not, Bool.and_eq_true, Bool.or_eq_true, Bool.not_eq_true', Bool.and_eq_false_iff, Bool.or_eq_false_iff, Bool.not_eq_false', Int.not_lt, Int.not_le, ne_eq, Decidable.not_not, Option.isSome_iff_ne_none, Option.isNone_iff_eq_none] at hc3
      have hvv : t.ns[i].v = ev := by omega
      have hml : D.n - D.ml t (byN bv) t.ns[i].hi t.ns[i].lo ≤ D.n - D.lv t (2 + i) := by have : D.lv t (byN bv) = D.n := lvl_const _ _ _ (byN_lt bv); unfold TS.ml; omega
      have hpm := Nat.pow_le_pow_right (n := 2) (by decide) hml
      have hsm : t.sz + 2 ^ (D.n - D.ml t (byN bv) t.ns[i].hi t.ns[i].lo) ≤ 1099511627776 := by omega
      refine Tri.region ?_
      refine TOps.load1 rfl ti61 rb.up.up.up rfl ?_
      refine TOps.load1 rfl ti3 ro.up.up.up rfl ?_
      first | refine TOps.fieldB 2 rfl Try.underlying123 rfl rfl ti3 rfl rfl rfl ?_ | refine TOps.fieldN 2 rfl Try.underlying123 rfl rfl ti3 rfl rfl rfl ?_
      refine TOps.load1 rfl ti3 (Rd.fld hrN.up.up 2 rfl) rfl ?_
      first | refine TOps.fieldB 1 rfl Try.underlying123 rfl rfl ti3 rfl rfl rfl ?_ | refine TOps.fieldN 1 rfl Try.underlying123 rfl rfl ti3 rfl rfl rfl ?_
      refine TOps.load1 rfl ti3 (Rd.fld hrN.up.up 1 rfl) rfl ?_
      refine TOps.call (vs := [_, _, _, _]) Try.call53 ⟨rfl, rfl, rfl, rfl, trivial⟩ (choose_g hD hty (D.n + 1) h (Nat.lt_of_lt_of_le (byN_lt bv) (Nat.le_add_right _ _)) NP.hi NP.lo (by omega) hsm) rfl ?_
      rintro _ _ ⟨t', x, rfl, hc, rfl⟩
      have HR := CmR.here hD h hev hi hvv hc
      have HC := hks.ext HR.ext
      refine TOps.assign rfl rfl ?_
      refine TOps.fin ?_
      refine Nrm.mid (t', m, x) ⟨HR, HC⟩ (by exact ⟨rfl, rfl, rfl, trivial⟩) (by repeat (first | exact Le.refl _ | assumption | apply Le.drop))
    try simp only [decide_eq_true_eq, decide_eq_false_iff_not, Bool.and_eq_true, Bool.or_eq_true, Bool.not_eq_true', Bool.and_eq_false_iff, Bool.or_eq_false_iff, Bool.not_eq_false', Int.not_lt, Int.not_le, ne_eq, Decidable.not_not, Option.isSome_iff_ne_none, Option.isNone_iff_eq_none] at hc3
    have hvv : t.ns[i].v ≠ ev := by omega
    have hle : ∀ (x : (Tb × Nat) × (Tb × List (Nat × Nat) × Nat) × (Tb × List (Nat × Nat) × Nat) × (Tb × Nat)) (c : Nat), Le (match c with | 0 => tabE D t :: tmap natV natV md m :: row (some b10) 123 3 1 [natV t.ns[i].v, natV t.ns[i].lo, natV t.ns[i].hi] :: H | 1 => fact (MkOk D t x.1.1 t.ns[i].v 0 1 x.1.2) :: tabE D x.1.1 :: tmap natV natV md m :: row (some b10) 123 3 1 [natV t.ns[i].v, natV t.ns[i].lo, natV t.ns[i].hi] :: H | 2 => fact (MkOk D t x.1.1 t.ns[i].v 0 1 x.1.2 ∧ (CmR D ev bv x.1.1 x.2.1.1 t.ns[i].hi x.2.1.2.2 ∧ CoOk D ev bv x.2.1.1 x.2.1.2.1)) :: tabE D x.2.1.1 :: tmap natV natV md x.2.1.2.1 :: row (some b10) 123 3 1 [natV t.ns[i].v, natV t.ns[i].lo, natV t.ns[i].hi] :: H | 3 => fact (MkOk D t x.1.1 t.ns[i].v 0 1 x.1.2 ∧ (CmR D ev bv x.1.1 x.2.1.1 t.ns[i].hi x.2.1.2.2 ∧ CoOk D ev bv x.2.1.1 x.2.1.2.1) ∧ (CmR D ev bv x.2.1.1 x.2.2.1.1 t.ns[i].lo x.2.2.1.2.2 ∧ CoOk D ev bv x.2.2.1.1 x.2.2.1.2.1)) :: tabE D x.2.2.1.1 :: tmap natV natV md x.2.2.1.2.1 :: row (some b10) 123 3 1 [natV t.ns[i].v, natV t.ns[i].lo, natV t.ns[i].hi] :: H | _ + 4 => fact (MkOk D t x.1.1 t.ns[i].v 0 1 x.1.2 ∧ (CmR D ev bv x.1.1 x.2.1.1 t.ns[i].hi x.2.1.2.2 ∧ CoOk D ev bv x.2.1.1 x.2.1.2.1) ∧ (CmR D ev bv x.2.1.1 x.2.2.1.1 t.ns[i].lo x.2.2.1.2.2 ∧ CoOk D ev bv x.2.2.1.1 x.2.2.1.2.1) ∧ ChR D x.2.2.1.1 x.2.2.2.1 x.1.2 x.2.1.2.2 x.2.2.1.2.2 x.2.2.2.2) :: tabE D x.2.2.2.1 :: tmap natV natV md x.2.2.1.2.1 :: row (some b10) 123 3 1 [natV t.ns[i].v, natV t.ns[i].lo, natV t.ns[i].hi] :: H) (row (some b10) 123 3 1 [natV t.ns[i].v, natV t.ns[i].lo, natV t.ns[i].hi] :: H) := by intro x c; match c with | 0 => exact Le.drop (Le.drop (Le.refl _)) | 1 => exact Le.drop (Le.drop (Le.drop (Le.refl _))) | 2 => exact Le.drop (Le.drop (Le.drop (Le.refl _))) | 3 => exact Le.drop (Le.drop (Le.drop (Le.refl _))) | _ + 4 => exact Le.drop (Le.drop (Le.drop (Le.refl _)))
    have hsk : t.sz + 1 + 4 * 4 ^ (D.n - D.lv t (2 + i) - 1) + 2 ^ (D.n - D.lv t (2 + i)) ≤ 1099511000001 := by omega
    refine Tri.drawX (X := (Tb × Nat) × (Tb × List (Nat × Nat) × Nat) × (Tb × List (Nat × Nat) × Nat) × (Tb × Nat)) rfl [(0, natV (2 + i)), (1, .pointer (some ⟨bb, 0, none⟩)), (2, .pointer (some ⟨be, 0, none⟩)), (3, .pointer (some ⟨bs, 0, none⟩)), (4, .pointer (some ⟨bo, 0, none⟩)), (5, .pointer (some ⟨bw, 0, none⟩)), (10, .pointer (some ⟨b10, 0, none⟩))] [] (fun x => [_, _, _, _, natV x.1.2, _, _, _, natV x.2.1.2.2, _, _, _, natV x.2.2.1.2.2, natV x.2.2.2.2, natV x.2.2.2.2]) (fun x c => match c with | 0 => tabE D t :: tmap natV natV md m :: row (some b10) 123 3 1 [natV t.ns[i].v, natV t.ns[i].lo, natV t.ns[i].hi] :: H | 1 => fact (MkOk D t x.1.1 t.ns[i].v 0 1 x.1.2) :: tabE D x.1.1 :: tmap natV natV md m :: row (some b10) 123 3 1 [natV t.ns[i].v, natV t.ns[i].lo, natV t.ns[i].hi] :: H | 2 => fact (MkOk D t x.1.1 t.ns[i].v 0 1 x.1.2 ∧ (CmR D ev bv x.1.1 x.2.1.1 t.ns[i].hi x.2.1.2.2 ∧ CoOk D ev bv x.2.1.1 x.2.1.2.1)) :: tabE D x.2.1.1 :: tmap natV natV md x.2.1.2.1 :: row (some b10) 123 3 1 [natV t.ns[i].v, natV t.ns[i].lo, natV t.ns[i].hi] :: H | 3 => fact (MkOk D t x.1.1 t.ns[i].v 0 1 x.1.2 ∧ (CmR D ev bv x.1.1 x.2.1.1 t.ns[i].hi x.2.1.2.2 ∧ CoOk D ev bv x.2.1.1 x.2.1.2.1) ∧ (CmR D ev bv x.2.1.1 x.2.2.1.1 t.ns[i].lo x.2.2.1.2.2 ∧ CoOk D ev bv x.2.2.1.1 x.2.2.1.2.1)) :: tabE D x.2.2.1.1 :: tmap natV natV md x.2.2.1.2.1 :: row (some b10) 123 3 1 [natV t.ns[i].v, natV t.ns[i].lo, natV t.ns[i].hi] :: H | _ + 4 => fact (MkOk D t x.1.1 t.ns[i].v 0 1 x.1.2 ∧ (CmR D ev bv x.1.1 x.2.1.1 t.ns[i].hi x.2.1.2.2 ∧ CoOk D ev bv x.2.1.1 x.2.1.2.1) ∧ (CmR D ev bv x.2.1.1 x.2.2.1.1 t.ns[i].lo x.2.2.1.2.2 ∧ CoOk D ev bv x.2.2.1.1 x.2.2.1.2.1) ∧ ChR D x.2.2.1.1 x.2.2.2.1 x.1.2 x.2.1.2.2 x.2.2.1.2.2 x.2.2.2.2) :: tabE D x.2.2.2.1 :: tmap natV natV md x.2.2.1.2.1 :: row (some b10) 123 3 1 [natV t.ns[i].v, natV t.ns[i].lo, natV t.ns[i].hi] :: H) [4, 8, 12, 13] ((t, 0), (t, m, 0), (t, m, 0), (t, 0)) [14] rfl rfl ⟨rfl, rfl, rfl, rfl, rfl, rfl, rfl, trivial⟩ trivial (by repeat (first | exact Le.refl _ | assumption | apply Le.drop)) (by
      refine ⟨?_, ?_, ?_, ?_, ?_, ?_, ?_, ?_, ?_, ?_, ?_, ?_, ?_, ?_, ?_, trivial⟩
      · refine ⟨fun x S c he hw hd hc hcu hm _ => ?_, trivial⟩
        refine TOps.load1 (he _ _ rfl) ti61 (rb.up.le (hle x c)) rfl ?_
        exact TOps.fd x rfl rfl
      · refine ⟨fun x S c he hw hd hc hcu hm _ => ?_, trivial⟩
        refine TOps.load1 (he _ _ rfl) ti61 (rb.up.le (hle x c)) rfl ?_
        exact TOps.fd x rfl rfl
      · refine ⟨fun x S c he hw hd hc hcu hm _ => ?_, trivial⟩
        refine TOps.field0 (he _ _ rfl) Try.underlying123 rfl rfl ti3 rfl rfl rfl ?_
        exact TOps.fd x rfl rfl
      · refine ⟨fun x S c he hw hd hc hcu hm _ => ?_, trivial⟩
        obtain ⟨h2, -⟩ := hd
        refine TOps.load1 h2 ti3 (Rd.fld (hrN.le (hle x c)) 0 rfl) rfl ?_
        exact TOps.fd x rfl rfl
      · refine ⟨fun x S c he hw hd hc hcu hm _ => ?_, trivial⟩
        obtain ⟨h1, h3, -⟩ := hd
        obtain rfl : c = 0 := hm rfl
        refine TOps.call (vs := [_, _]) Try.call49 ⟨h1, h3, trivial⟩ (event_g hD hty h NP.v (by omega)) rfl ?_
        rintro _ _ ⟨u1, e1, rfl, k1, rfl⟩
        refine TOps.fin (Nrm.draw ((u1, e1), x.2) ?_ rfl (Le.addFact k1))
        intro j hj hcj; rcases j with _|_|_|_|_|_|_|_|_|_|_|_|_|_|_|j <;> first | rfl | exact absurd rfl hj | exact absurd hcj (by decide)
      · refine ⟨fun x S c he hw hd hc hcu hm _ => ?_, trivial⟩
        refine TOps.load1 (he _ _ rfl) ti75 (rw'.up.le (hle x c)) rfl ?_
        exact TOps.fd x rfl rfl
      · refine ⟨fun x S c he hw hd hc hcu hm _ => ?_, trivial⟩
        first | refine TOps.fieldB 2 (he _ _ rfl) Try.underlying123 rfl rfl ti3 rfl rfl rfl ?_ | refine TOps.fieldN 2 (he _ _ rfl) Try.underlying123 rfl rfl ti3 rfl rfl rfl ?_
        exact TOps.fd x rfl rfl
      · refine ⟨fun x S c he hw hd hc hcu hm _ => ?_, trivial⟩
        obtain ⟨h6, -⟩ := hd
        refine TOps.load1 h6 ti3 (Rd.fld (hrN.le (hle x c)) 2 rfl) rfl ?_
        exact TOps.fd x rfl rfl
      · refine ⟨fun x S c he hw hd hc hcu hm _ => ?_, trivial⟩
        obtain ⟨h5, h7, h4, -⟩ := hd
        obtain rfl : c = 1 := hm rfl
        refine TOps.fact (List.Mem.head _) (fun f1 => ?_)
        refine TOps.le (Le.drop (Le.refl _)) ?_
        have z1 := f1.size
        have y1 := f1.ext.lv D NP.hi
        have y2 := Nat.pow_le_pow_right (n := 4) (by decide) (show D.n - D.lv x.1.1 t.ns[i].hi ≤ D.n - D.lv t (2 + i) - 1 by omega)
        refine TOps.callV (caps := [_, _, _, _, _]) (vs := [_]) h5 Try.call90 ⟨h7, trivial⟩ (ih rb.up re.up rs.up ro.up rw'.up f1.ok (f1.ext.ref NP.hi) (by omega) (hks.ext f1.ext) (by omega)) rfl ?_
        rintro _ _ ⟨u2, m2, v2, rfl, k1, k2, rfl⟩
        refine TOps.fin (Nrm.draw (x.1, (u2, m2, v2), x.2.2) ?_ rfl (Le.addFact ⟨f1, k1, k2⟩))
        intro j hj hcj; rcases j with _|_|_|_|_|_|_|_|_|_|_|_|_|_|_|j <;> first | rfl | exact absurd rfl hj | exact absurd hcj (by decide)
        skip
      · refine ⟨fun x S c he hw hd hc hcu hm _ => ?_, trivial⟩
        refine TOps.load1 (he _ _ rfl) ti75 (rw'.up.le (hle x c)) rfl ?_
        exact TOps.fd x rfl rfl
      · refine ⟨fun x S c he hw hd hc hcu hm _ => ?_, trivial⟩
        first | refine TOps.fieldB 1 (he _ _ rfl) Try.underlying123 rfl rfl ti3 rfl rfl rfl ?_ | refine TOps.fieldN 1 (he _ _ rfl) Try.underlying123 rfl rfl ti3 rfl rfl rfl ?_
        exact TOps.fd x rfl rfl
      · refine ⟨fun x S c he hw hd hc hcu hm _ => ?_, trivial⟩
        obtain ⟨h10, -⟩ := hd
        refine TOps.load1 h10 ti3 (Rd.fld (hrN.le (hle x c)) 1 rfl) rfl ?_
        exact TOps.fd x rfl rfl
      · refine ⟨fun x S c he hw hd hc hcu hm _ => ?_, trivial⟩
        obtain ⟨h9, h11, h8, -⟩ := hd
        obtain rfl : c = 2 := hm rfl
        refine TOps.fact (List.Mem.head _) (fun f1 => ?_)
        obtain ⟨f1, f2, f3⟩ := f1
        refine TOps.le (Le.drop (Le.refl _)) ?_
        have z1 := f1.size; have z2 := f2.size
        have y1 := f1.ext.lv D NP.hi
        have y2 := Nat.pow_le_pow_right (n := 4) (by decide) (show D.n - D.lv x.1.1 t.ns[i].hi ≤ D.n - D.lv t (2 + i) - 1 by omega)
        have y3 := (f1.ext.trans f2.ext).lv D NP.lo
        have y4 := Nat.pow_le_pow_right (n := 4) (by decide) (show D.n - D.lv x.2.1.1 t.ns[i].lo ≤ D.n - D.lv t (2 + i) - 1 by omega)
        refine TOps.callV (caps := [_, _, _, _, _]) (vs := [_]) h9 Try.call90 ⟨h11, trivial⟩ (ih rb.up re.up rs.up ro.up rw'.up f2.ok ((f1.ext.trans f2.ext).ref NP.lo) (by omega) f3 (by omega)) rfl ?_
        rintro _ _ ⟨u2, m2, v2, rfl, k1, k2, rfl⟩
        refine TOps.fin (Nrm.draw (x.1, x.2.1, (u2, m2, v2), x.2.2.2) ?_ rfl (Le.addFact ⟨f1, ⟨f2, f3⟩, k1, k2⟩))
        intro j hj hcj; rcases j with _|_|_|_|_|_|_|_|_|_|_|_|_|_|_|j <;> first | rfl | exact absurd rfl hj | exact absurd hcj (by decide)
        skip
      · refine ⟨fun x S c he hw hd hc hcu hm _ => ?_, trivial⟩
        obtain ⟨h0, h4, h8, h12, _, -⟩ := hd
        obtain rfl : c = 3 := hm rfl
        refine TOps.fact (List.Mem.head _) (fun f1 => ?_)
        obtain ⟨f1, ⟨f2, f3⟩, f4, f5⟩ := f1
        refine TOps.le (Le.drop (Le.refl _)) ?_
        have z1 := f1.size; have z2 := f2.size; have z3 := f4.size
        have y1 := f1.ext.lv D NP.hi
        have y2 := Nat.pow_le_pow_right (n := 4) (by decide) (show D.n - D.lv x.1.1 t.ns[i].hi ≤ D.n - D.lv t (2 + i) - 1 by omega)
        have y3 := (f1.ext.trans f2.ext).lv D NP.lo
        have y4 := Nat.pow_le_pow_right (n := 4) (by decide) (show D.n - D.lv x.2.1.1 t.ns[i].lo ≤ D.n - D.lv t (2 + i) - 1 by omega)
        have y5 := (f2.ext.trans f4.ext).lv D f1.ref
        have y6 := f4.ext.lv D f2.ref
        have y7 := f1.lev; have y8 := f2.lev; have y9 := f4.lev; have y0 := NP.pl
        have hml : D.lv t (2 + i) ≤ D.ml x.2.2.1.1 x.1.2 x.2.1.2.2 x.2.2.1.2.2 := by unfold TS.ml; omega
        have hpm := Nat.pow_le_pow_right (n := 2) (by decide) (show D.n - D.ml x.2.2.1.1 x.1.2 x.2.1.2.2 x.2.2.1.2.2 ≤ D.n - D.lv t (2 + i) by omega)
        have hsm : x.2.2.1.1.sz + 2 ^ (D.n - D.ml x.2.2.1.1 x.1.2 x.2.1.2.2 x.2.2.1.2.2) ≤ 1099511627776 := by omega
        refine TOps.call (vs := [_, _, _, _]) Try.call53 ⟨h0, h4, h8, h12, trivial⟩ (choose_g hD hty (D.n + 1) f4.ok ((f2.ext.trans f4.ext).ref f1.ref) (f4.ext.ref f2.ref) f4.ref (by omega) hsm) rfl ?_
        rintro _ _ ⟨u2, v2, rfl, k1, rfl⟩
        refine TOps.fin (Nrm.draw (x.1, x.2.1, x.2.2.1, (u2, v2)) ?_ rfl (Le.addFact ⟨f1, ⟨f2, f3⟩, ⟨f4, f5⟩, k1⟩))
        intro j hj hcj; rcases j with _|_|_|_|_|_|_|_|_|_|_|_|_|_|_|j <;> first | rfl | exact absurd rfl hj | exact absurd hcj (by decide)
        skip
      · refine ⟨fun x S c he hw hd hc hcu hm _ => ?_, trivial⟩
        obtain ⟨h13, _, h0, h1, h2, h3, h4, h5, h6, h7, h8, h9, h10, h11, h12, _, -⟩ := hd
        refine TOps.assign h13 rfl ?_
        exact TOps.fd x rfl rfl
      ) (fun w => ?_)
    refine Nrm.fact (List.Mem.head _) (fun f1 => ?_)
    obtain ⟨f1, ⟨f2, f3⟩, ⟨f4, f5⟩, f6⟩ := f1
    refine Nrm.le (Le.drop (Le.refl _)) ?_
    obtain ⟨⟨u1, e1⟩, ⟨u2, m2, x2⟩, ⟨u3, m, x3⟩, ⟨t', x⟩⟩ := w
    have HR := CmR.step hD h hev hi hvv f1 f2 f4 f6
    have HC := f5.ext f6.ext
    refine Nrm.mid (t', m, x) ⟨HR, HC⟩ (by exact ⟨rfl, rfl, rfl, trivial⟩) (by repeat (first | exact Le.refl _ | assumption | apply Le.drop))
  refine Tri.seq (Tri.region ?_)
  obtain ⟨t', m', x⟩ := y
  obtain ⟨HR, HC⟩ := hmid
  refine TOps.load1 rfl ti128 rs.up.up.up rfl ?_
  refine TOps.move rfl rfl ?_
  refine TOps.move rfl rfl ?_
  refine TOps.putT (k := 2 + i) (vE := natV) (v := x) keyNat rfl rfl rfl Try.underlying128 (Upd.there Upd.here) HC.keys hr63 ?_
  refine TOps.next ?_
  refine Tri.seq (Tri.region ?_)
  refine TOps.move rfl rfl ?_
  refine TOps.assign rfl rfl ?_
  refine TOps.next ?_
  refine Tri.ret1 (H' := tabE D t' :: tmap natV natV md (putT (2 + i) x m') :: H) Try.results90 (fun _ _ h => h) (.tmp rfl) (Le.sub (List.Sublist.cons_cons _ (List.Sublist.cons_cons _ (List.sublist_cons_self _ _)))) ⟨t', _, x, rfl, HR, HC.put hr hr63 HR, rfl⟩
end Go.Proofs
namespace Go.Proofs
open Go.GL
set_option linter.unusedVariables false
set_option linter.unusedSimpArgs false
theorem compose_g {D : TS} {t : Tb} (hD : TSOk D) (hty : DTy D) (hn8 : D.n ≤ 8) (h : TbOk D t) {H : List Ent} {r ev : Nat} (hr : r < 2 + t.sz) (hev : ev < D.n) (bv : Bool) (hs : t.sz ≤ 1099510868928) :
    Gives Try.prog 80 [.pointer (some ⟨D.bt, 0, none⟩), natV r, natV ev, natV (byN bv)] (tabE D t :: H) (CpG D ev bv t r H) := by
  have hp4 : 4 ^ (D.n - D.lv t r) ≤ 65536 := by
    have := Nat.pow_le_pow_right (n := 4) (by decide) (show D.n - D.lv t r ≤ 8 by omega)
    exact this
  refine Gives.enter Try.func80 rfl (by exact Try.ntmps80) rfl ?_
  refine Tri.seq (Tri.region ?_)
  refine TOps.box1 rfl rfl ti61 rfl (fun b4 => ?_)
  refine TOps.box1 rfl rfl ti3 rfl (fun b6 => ?_)
  refine TOps.box1 rfl rfl ti3 rfl (fun b7 => ?_)
  refine TOps.assign rfl rfl ?_
  refine TOps.next ?_
  refine Tri.seq (Tri.region ?_)
  refine TOps.makeT natV natV rfl (fun b11 => ?_)
  refine TOps.alloc ti128 rfl (fun b9 => ?_)
  refine TOps.store1 rfl rfl ti128 rfl rfl (by repeat (first | exact Upd.here | apply Upd.there)) (by first | decide | (simp; done) | (simp; omega)) ?_
  refine TOps.next ?_
  refine Tri.seq (Tri.region ?_)
  refine TOps.alloc ti75 rfl (fun b10 => ?_)
  refine TOps.next ?_
  refine Tri.seq (Tri.region ?_)
  refine TOps.makeFunc (vs := [_, _, _, _, _]) ⟨rfl, rfl, rfl, rfl, rfl, trivial⟩ rfl ?_
  refine TOps.store1 rfl rfl ti75 rfl rfl (by repeat (first | exact Upd.here | apply Upd.there)) (by first | decide | (simp; done) | (simp; omega)) ?_
  refine TOps.le (H' := tabE D t :: tmap natV natV b11 [] :: row (some b10) 75 1 1 [.func (.func 90) #[] (List.toArray [.pointer (some ⟨b4, 0, none⟩), .pointer (some ⟨b6, 0, none⟩), .pointer (some ⟨b9, 0, none⟩), .pointer (some ⟨b7, 0, none⟩), .pointer (some ⟨b10, 0, none⟩)])] :: row (some b9) 128 1 1 [.map (some b11)] :: row (some b7) 3 1 1 [natV (byN bv)] :: row (some b6) 3 1 1 [natV ev] :: row (some b4) 61 1 1 [.pointer (some ⟨D.bt, 0, none⟩)] :: H) (Sp.le (by repeat (first | exact Sp.refl _ | exact Sp.sub (by assumption) | refine Sp.cons (by repeat (first | exact Pick.here | apply Pick.there)) ?_ | exact Sp.nil | apply Sp.skip))) ?_
  refine TOps.next ?_
  refine Tri.seq (Tri.region ?_)
  refine TOps.load1 rfl ti75 (Rd.lit (by repeat (first | exact List.Mem.head _ | apply List.Mem.tail)) rfl) rfl ?_
  refine TOps.move rfl rfl ?_
  refine TOps.callV (caps := [_, _, _, _, _]) (vs := [_]) rfl Try.call90 ⟨rfl, trivial⟩ (compose1_g (H := row (some b10) 75 1 1 [.func (.func 90) #[] (List.toArray [.pointer (some ⟨b4, 0, none⟩), .pointer (some ⟨b6, 0, none⟩), .pointer (some ⟨b9, 0, none⟩), .pointer (some ⟨b7, 0, none⟩), .pointer (some ⟨b10, 0, none⟩)])] :: row (some b9) 128 1 1 [.map (some b11)] :: row (some b7) 3 1 1 [natV (byN bv)] :: row (some b6) 3 1 1 [natV ev] :: row (some b4) 61 1 1 [.pointer (some ⟨D.bt, 0, none⟩)] :: H) (bv := bv) hD hty hn8 hev (D.n + 1) (Rd.lit (by repeat (first | exact List.Mem.head _ | apply List.Mem.tail)) rfl) (Rd.lit (by repeat (first | exact List.Mem.head _ | apply List.Mem.tail)) rfl) (Rd.lit (by repeat (first | exact List.Mem.head _ | apply List.Mem.tail)) rfl) (Rd.lit (by repeat (first | exact List.Mem.head _ | apply List.Mem.tail)) rfl) (Rd.lit (by repeat (first | exact List.Mem.head _ | apply List.Mem.tail)) rfl) h hr (by omega) CoOk.nil (by omega)) rfl ?_
  rintro _ _ ⟨t', m', x, rfl, k1, k2, rfl⟩
  refine TOps.assign rfl rfl ?_
  refine TOps.next ?_
  refine Tri.ret1 (H' := tabE D t' :: H) Try.results80 (fun _ _ h => h) (.tmp rfl) (Le.sub (List.Sublist.cons_cons _ (by repeat (first | exact List.Sublist.refl _ | apply List.Sublist.cons)))) ⟨t', x, rfl, k1, rfl⟩
theorem restrict_g {D : TS} {t : Tb} (hD : TSOk D) (hty : DTy D) (hn8 : D.n ≤ 8) (h : TbOk D t) {H : List Ent} {r ev : Nat} (hr : r < 2 + t.sz) (hev : ev < D.n) (bv : Bool) (hs : t.sz ≤ 1099510868928) :
    Gives Try.prog 56 [.pointer (some ⟨D.bt, 0, none⟩), natV r, natV ev, .bool bv] (tabE D t :: H) (CpG D ev bv t r H) := by
  refine Gives.enter Try.func56 rfl (by exact Try.ntmps56) rfl ?_
  refine Tri.seq (Tri.region ?_)
  refine TOps.assign rfl rfl ?_
  refine TOps.next ?_
  refine Tri.seq ?_
  refine Tri.seq (Tri.region ?_)
  refine TOps.move rfl rfl ?_
  refine TOps.next ?_
  refine Tri.cond rfl (fun hc1 => ?_) (fun hc1 => ?_)
  · try simp only [decide_eq_true_eq, decide_eq_false_iff_not, Bool.and_eq_true, Bool.or_eq_true, Bool.not_eq_true', Bool.and_eq_false_iff, Bool.or_eq_false_iff, Bool.not_eq_false', Int.not_lt, Int.not_le, ne_eq, Decidable.not_not, Option.isSome_iff_ne_none, Option.isNone_iff_eq_none] at hc1
    subst hc1
    refine Tri.seq (Tri.region ?_)
    refine TOps.move rfl rfl ?_
    refine TOps.move rfl rfl ?_
    refine TOps.move rfl rfl ?_
    refine TOps.call (vs := [_, _, _, _]) Try.call80 ⟨rfl, rfl, rfl, rfl, trivial⟩ (compose_g hD hty hn8 h hr hev true hs) rfl ?_
    rintro _ _ ⟨t', x, rfl, k1, rfl⟩
    refine TOps.assign rfl rfl ?_
    refine TOps.next ?_
    refine Tri.ret1 (H' := tabE D t' :: H) Try.results56 (fun _ _ h => h) (.tmp rfl) (Le.refl _) ⟨t', x, rfl, k1, rfl⟩
  try simp only [decide_eq_true_eq, decide_eq_false_iff_not, Bool.and_eq_true, Bool.or_eq_true, Bool.not_eq_true', Bool.and_eq_false_iff, Bool.or_eq_false_iff, Bool.not_eq_false', Int.not_lt, Int.not_le, ne_eq, Decidable.not_not, Option.isSome_iff_ne_none, Option.isNone_iff_eq_none] at hc1
  obtain rfl : bv = false := by simpa using hc1
  refine Tri.fin ?_
  refine Nrm.next ?_
  refine Tri.seq (Tri.region ?_)
  refine TOps.move rfl rfl ?_
  refine TOps.move rfl rfl ?_
  refine TOps.move rfl rfl ?_
  refine TOps.call (vs := [_, _, _, _]) Try.call80 ⟨rfl, rfl, rfl, rfl, trivial⟩ (compose_g hD hty hn8 h hr hev false hs) rfl ?_
  rintro _ _ ⟨t', x, rfl, k1, rfl⟩
  refine TOps.assign rfl rfl ?_
  refine TOps.next ?_
  refine Tri.ret1 (H' := tabE D t' :: H) Try.results56 (fun _ _ h => h) (.tmp rfl) (Le.refl _) ⟨t', x, rfl, k1, rfl⟩
set_option maxRecDepth 20000 in
theorem least_g {D : TS} {t : Tb} (hD : TSOk D) (hty : DTy D) (hn8 : D.n ≤ 8) (h : TbOk D t) {H : List Ent} {r : Nat} (hr : r < 2 + t.sz) (hne : r ≠ 0) (hs : t.sz ≤ 1099506805696) :
    Gives Try.prog 27 [.pointer (some ⟨D.bt, 0, none⟩), natV r, natV D.n] (tabE D t :: H) (fun u H' => ∃ t' z, u = natV z ∧ Tb.Ext t t' ∧ TbOk D t' ∧ t'.sz ≤ t.sz + 4194304 ∧ LsOk D t r z ∧ tabE D t' :: H = H') := by
  refine Gives.enter Try.func27 rfl (by exact Try.ntmps27) rfl ?_
  refine Tri.seq (Tri.region ?_)
  refine TOps.assign rfl rfl ?_
  refine TOps.next ?_
  refine Tri.seq (Tri.region ?_)
  refine TOps.assign rfl rfl ?_
  refine TOps.next ?_
  refine Tri.seq ?_
  refine Tri.seq (Tri.region ?_)
  refine TOps.move rfl rfl ?_
  refine TOps.sub rfl rfl (wrapI (by omega) (by omega)) rfl ?_
  refine TOps.assign rfl rfl ?_
  refine TOps.next ?_
  refine Tri.block ?_
  refine Tri.loop (X := Tb × Nat × Nat × Nat) (fun x => [(0, .pointer (some ⟨D.bt, 0, none⟩)), (1, natV x.2.1), (7, natV (2 ^ x.2.2.1 * x.2.2.2)), (8, .int .i64 ((x.2.2.1 : Int) - 1))]) (fun x => tabE D x.1 :: H) (fun x => LsInv D t r x.1 x.2.1 x.2.2.1 x.2.2.2 ∧ x.2.2.1 ≤ D.n ∧ x.1.sz + 262144 * x.2.2.1 ≤ t.sz + 262144 * D.n) (fun x => x.2.2.1) (t, r, D.n, 0) ⟨LsInv.start hD h hr hne, Nat.le_refl _, Nat.le_refl _⟩ ⟨rfl, rfl, rfl, rfl, trivial⟩ (Le.refl _) (fun x hp => ?_)
  obtain ⟨t1, r1, j, w⟩ := x
  obtain ⟨p1, p2, p3⟩ := hp
  simp only at p1 p2 p3
  refine Tri.seq ?_
  refine Tri.seq (Tri.region ?_)
  refine TOps.move rfl rfl ?_
  refine TOps.geq rfl rfl rfl ?_
  refine TOps.next ?_
  refine Tri.cond rfl (fun hc1 => ?_) (fun hc1 => ?_)
  · try simp only [decide_eq_true_eq, decide_eq_false_iff_not, Bool.and_eq_true, Bool.or_eq_true, Bool.not_eq_true', Bool.and_eq_false_iff, Bool.or_eq_false_iff, Bool.not_eq_false', Int.not_lt, Int.not_le, ne_eq, Decidable.not_not, Option.isSome_iff_ne_none, Option.isNone_iff_eq_none] at hc1
    obtain ⟨i, rfl⟩ : ∃ i, j = i + 1 := ⟨j - 1, by omega⟩
    have hs2 : t1.sz ≤ 1099510868928 := by omega
    have hii : (((i + 1 : Nat) : Int) - 1) = (i : Int) := by omega
    simp only [hii]
    have hw := p1.lt
    have hpi := pow24 (k := D.n) (by omega)
    have hpp : 2 ^ i * (2 * w + 1) < 2 ^ D.n := by
      have e : 2 ^ D.n = 2 ^ i * (2 * 2 ^ (D.n - (i + 1))) := by rw [← Nat.mul_assoc, ← Nat.pow_succ, ← Nat.pow_add]; congr 1; omega
      rw [e]
      exact Nat.mul_lt_mul_of_pos_left (by omega) (Nat.two_pow_pos i)
    refine Tri.fin ?_
    refine Nrm.next ?_
    refine Tri.seq ?_
    refine Tri.block ?_
    refine Tri.seq (Tri.region ?_)
    refine TOps.move rfl rfl ?_
    refine TOps.move rfl rfl ?_
    refine TOps.move rfl rfl ?_
    refine TOps.call (vs := [_, _, _, _]) Try.call56 ⟨rfl, rfl, rfl, rfl, trivial⟩ (restrict_g hD hty hn8 p1.ok p1.ref (by omega) false hs2) rfl ?_
    rintro _ _ ⟨t2, x2, rfl, k2, rfl⟩
    have z2 := k2.size
    have y2 := Nat.pow_le_pow_right (n := 4) (by decide) (show D.n - D.lv t1 r1 ≤ 8 by omega)
    have hs3 : t2.sz ≤ 1099510868928 := by omega
    refine TOps.assign rfl rfl ?_
    refine TOps.next ?_
    refine Tri.seqMid (X := Tb × Nat × Nat) (fun y => [(0, .pointer (some ⟨D.bt, 0, none⟩)), (7, natV (2 ^ i * y.2.2)), (8, natV i), (9, natV y.2.1)]) (fun y => tabE D y.1 :: H) (fun y => LsInv D t r y.1 y.2.1 i y.2.2 ∧ y.1.sz + 262144 * i ≤ t.sz + 262144 * D.n) ?_ (fun y hmid => ?_)
    · skip
      refine Tri.seq (Tri.region ?_)
      refine TOps.move rfl rfl ?_
      refine TOps.eqlI rfl rfl rfl ?_
      refine TOps.next ?_
      refine Tri.cond rfl (fun hc2 => ?_) (fun hc2 => ?_)
      · try simp only [decide_eq_true_eq, decide_eq_false_iff_not, Bool.and_eq_true, Bool.or_eq_true, Bool.not_eq_true', Bool.and_eq_false_iff, Bool.or_eq_false_iff, Bool.not_eq_false', Int.not_lt, Int.not_le, ne_eq, Decidable.not_not, Option.isSome_iff_ne_none, Option.isNone_iff_eq_none] at hc2
        obtain rfl : x2 = 0 := by omega
        refine Tri.seq (Tri.region ?_)
        refine TOps.move rfl rfl ?_
        refine TOps.move rfl rfl ?_
        refine TOps.move rfl rfl ?_
        refine TOps.call (vs := [_, _, _, _]) Try.call56 ⟨rfl, rfl, rfl, rfl, trivial⟩ (restrict_g hD hty hn8 k2.ok (k2.ext.ref p1.ref) (by omega) true hs3) rfl ?_
        rintro _ _ ⟨t3, x3, rfl, k3, rfl⟩
        have z3 := k3.size
        have y3 := Nat.pow_le_pow_right (n := 4) (by decide) (show D.n - D.lv t2 r1 ≤ 8 by omega)
        have hsz3 : t3.sz + 262144 * i ≤ t.sz + 262144 * D.n := by omega
        obtain ⟨w3, hw3⟩ : ∃ w3, w3 = 2 * w + 1 := ⟨_, rfl⟩
        have LV : LsInv D t r t3 x3 i w3 := by rw [hw3]; exact p1.one hD (by omega) k2 k3
        have hor : ior (2 ^ (i + 1) * w : Nat) (2 ^ i : Nat) = ((2 ^ i * w3 : Nat) : Int) := by
          have h2 : 2 ^ i * (2 * w + 1) = 2 ^ (i + 1) * w + 2 ^ i := by rw [Nat.mul_add, Nat.mul_one, ← Nat.mul_assoc, ← Nat.pow_succ]
          have h3 := Nat.two_pow_add_eq_or_of_lt (i := i + 1) (b := 2 ^ i) (Nat.pow_lt_pow_right (by decide) (by omega)) w
          have h4 : 2 ^ (i + 1) * w + 2 ^ i < 16777217 := by rw [← h2]; omega
          have h5 : 2 ^ (i + 1) * w < 9223372036854775808 := Nat.lt_of_le_of_lt (Nat.le_add_right _ (2 ^ i)) (Nat.lt_of_lt_of_le h4 (by decide))
          have h6 : 2 ^ i < 9223372036854775808 := Nat.lt_of_le_of_lt (Nat.le_add_left _ (2 ^ (i + 1) * w)) (Nat.lt_of_lt_of_le h4 (by decide))
          rw [ior_nat h5 h6, ← h3, hw3, h2]
        refine TOps.assign rfl rfl ?_
        refine TOps.next ?_
        refine Tri.region ?_
        refine TOps.move rfl rfl ?_
        refine TOps.move rfl rfl ?_
        refine TOps.shl (r := ((2 ^ i : Nat) : Int)) rfl rfl (by omega) (by rw [Int.toNat_natCast]; exact ishl_one (by omega)) rfl ?_
        refine TOps.or (r := ((2 ^ i * w3 : Nat) : Int)) rfl rfl hor rfl ?_
        refine TOps.assign rfl rfl ?_
        have HE : some (natV (2 ^ i * w3)) = some (natV (2 ^ i * w3)) := rfl
        refine TOps.fin ?_
        refine Nrm.mid (t3, x3, w3) ⟨LV, hsz3⟩ (by exact ⟨rfl, HE, rfl, rfl, trivial⟩) (by repeat (first | exact Le.refl _ | assumption | apply Le.drop))
      try simp only [decide_eq_true_eq, decide_eq_false_iff_not, Bool.and_eq_true, Bool.or_eq_true, Bool.not_eq_true', Bool.and_eq_false_iff, Bool.or_eq_false_iff, Bool.not_eq_false', Int.not_lt, Int.not_le, ne_eq, Decidable.not_not, Option.isSome_iff_ne_none, Option.isNone_iff_eq_none] at hc2
      obtain ⟨t3, ht3⟩ : ∃ t3, t3 = t2 := ⟨_, rfl⟩
      obtain ⟨x3, hx3⟩ : ∃ x3, x3 = x2 := ⟨_, rfl⟩
      rw [← ht3, ← hx3] at k2 ⊢
      rw [← ht3] at z2
      have hsz3 : t3.sz + 262144 * i ≤ t.sz + 262144 * D.n := by omega
      obtain ⟨w3, hw3⟩ : ∃ w3, w3 = 2 * w := ⟨_, rfl⟩
      have LV : LsInv D t r t3 x3 i w3 := by rw [hw3]; exact p1.zero (by omega) k2 (by omega)
      have HE : some (natV (2 ^ (i + 1) * w)) = some (natV (2 ^ i * w3)) := by rw [hw3, ← Nat.mul_assoc, ← Nat.pow_succ]
      refine Tri.fin ?_
      refine Nrm.mid (t3, x3, w3) ⟨LV, hsz3⟩ (by exact ⟨rfl, HE, rfl, rfl, trivial⟩) (by repeat (first | exact Le.refl _ | assumption | apply Le.drop))
    refine Tri.region ?_
    obtain ⟨t3, x3, w3⟩ := y
    obtain ⟨LV, hsz3⟩ := hmid
    refine TOps.move rfl rfl ?_
    refine TOps.assign rfl rfl ?_
    refine TOps.fin ?_
    refine Nrm.unB ?_
    refine Nrm.next ?_
    refine Tri.region ?_
    refine TOps.move rfl rfl ?_
    refine TOps.sub (r := ((i : Int) - 1)) rfl rfl (wrapI (by omega) (by omega)) rfl ?_
    refine TOps.assign rfl rfl ?_
    refine TOps.fin ?_
    refine Nrm.loop (t3, x3, i, w3) ⟨LV, by simp only; omega, hsz3⟩ (by simp) ⟨rfl, rfl, rfl, rfl, trivial⟩ (Le.refl _)
  try simp only [decide_eq_true_eq, decide_eq_false_iff_not, Bool.and_eq_true, Bool.or_eq_true, Bool.not_eq_true', Bool.and_eq_false_iff, Bool.or_eq_false_iff, Bool.not_eq_false', Int.not_lt, Int.not_le, ne_eq, Decidable.not_not, Option.isSome_iff_ne_none, Option.isNone_iff_eq_none] at hc1
  obtain rfl : j = 0 := by omega
  have LF := p1.fin hD
  simp only [Nat.pow_zero, Nat.one_mul]
  first | refine Tri.exitW ?_ | (refine Tri.exitTo ?_; repeat (with_reducible first | refine ExitTo.blk ?_ | refine ExitTo.blkNe rfl ?_ | refine ExitTo.body ?_ | refine ExitTo.brk rfl ?_ | refine ExitTo.bodyNe rfl rfl ?_ | refine ExitTo.seq ?_ | refine ExitTo.loop ?_))
  refine Nrm.next ?_
  refine Tri.seq (Tri.region ?_)
  refine TOps.move rfl rfl ?_
  refine TOps.assign rfl rfl ?_
  refine TOps.next ?_
  refine Tri.ret1 (H' := tabE D t1 :: H) Try.results27 (fun _ _ h => h) (.tmp rfl) (Le.refl _) ⟨t1, w, rfl, p1.ext, p1.ok, by omega, LF, rfl⟩
end Go.Proofs
namespace Go.Proofs
open Go.GL
set_option linter.unusedVariables false
set_option linter.unusedSimpArgs false
set_option maxRecDepth 20000 in
theorem export1_g {D : TS} {t : Tb} (hD : TSOk D) (hn8 : D.n ≤ 8) (h : TbOk D t) {bb bs bo bw mr : Nat} {oa : Option Nat} {oc : Nat} :
    ∀ (k : Nat) {H : List Ent} {r : Nat} {dn : List DN} {na : Option Nat} {nc : Nat} {m : List (Nat × Nat)}, TabRd H D t → Rd H bs 0 [.map (some mr)] → Rd H bb 0 [.pointer (some ⟨D.bt, 0, none⟩)] → Rd H bw 0 [.func (.func 77) #[] (List.toArray [.pointer (some ⟨bs, 0, none⟩), .pointer (some ⟨bb, 0, none⟩), .pointer (some ⟨bw, 0, none⟩), .pointer (some ⟨bo, 0, none⟩)])] → r < 2 + t.sz → D.n - D.lv t r < k → DgOk D.n D.pl dn → ExOk D t dn m → (dn ≠ [] → ∃ b, na = some b) → dn.length + 2 ^ (D.n - D.lv t r) ≤ 1000000 →
    Gives Try.prog 77 [natV r, .pointer (some ⟨bs, 0, none⟩), .pointer (some ⟨bb, 0, none⟩), .pointer (some ⟨bw, 0, none⟩), .pointer (some ⟨bo, 0, none⟩)] (exE D bo mr 67 123 oa oc dn na nc m H) (ExG D t bo mr 67 123 oa oc dn r H) := by
  intro k
  induction k with
  | zero => intro H r dn na nc m _ _ _ _ hr hk; omega
  | succ k ih =>
  intro H r dn na nc m ht rs rb rw' hr hk hdn hks hna hsz
  have hr63 := h.u63 hr
  have hlen := h.len
  have n24 := hD.n24
  have hh := ht.hd
  unfold TS.head at hh
  refine Gives.enter Try.func77 rfl (by exact Try.ntmps77) rfl ?_
  refine Tri.seq (Tri.region ?_)
  refine TOps.assign rfl rfl ?_
  unfold exE
  refine TOps.next ?_
  refine Tri.seq ?_
  refine Tri.seq (Tri.region ?_)
  refine TOps.load1 rfl ti128 rs.up.up.up rfl ?_
  refine TOps.move rfl rfl ?_
  refine TOps.lookT (k := r) (vE := natV) (z := natV 0) keyNat rfl rfl Try.underlying128 zeroNat (List.Mem.head _) hks.keys hr63 rfl ?_
  refine TOps.move rfl rfl ?_
  refine TOps.extract rfl rfl rfl ?_
  refine TOps.extract rfl rfl rfl ?_
  refine TOps.assign rfl rfl ?_
  refine TOps.assign rfl rfl ?_
  refine TOps.next ?_
  refine Tri.seq (Tri.region ?_)
  refine TOps.move rfl rfl ?_
  refine TOps.next ?_
  refine Tri.cond rfl (fun hc1 => ?_) (fun hc1 => ?_)
  · try simp only [decide_eq_true_eq, decide_eq_false_iff_not, Bool.and_eq_true, Bool.or_eq_true, Bool.not_eq_true', Bool.and_eq_false_iff, Bool.or_eq_false_iff, Bool.not_eq_false', Int.not_lt, Int.not_le, ne_eq, Decidable.not_not, Option.isSome_iff_ne_none, Option.isNone_iff_eq_none] at hc1
    obtain ⟨x, hx⟩ : ∃ x, lookT r m = some x := Option.ne_none_iff_exists'.1 hc1
    rw [hx]
    refine Tri.seq (Tri.region ?_)
    refine TOps.move rfl rfl ?_
    refine TOps.assign rfl rfl ?_
    refine TOps.next ?_
    refine Tri.ret1 (H' := exE D bo mr 67 123 oa oc dn na nc m H) Try.results77 (fun _ _ h => h) (.tmp rfl) (Le.refl _) ⟨dn, na, nc, m, x, rfl, ExR.old hdn hks hx, hks, hna, rfl⟩
  try simp only [decide_eq_true_eq, decide_eq_false_iff_not, Bool.and_eq_true, Bool.or_eq_true, Bool.not_eq_true', Bool.and_eq_false_iff, Bool.or_eq_false_iff, Bool.not_eq_false', Int.not_lt, Int.not_le, ne_eq, Decidable.not_not, Option.isSome_iff_ne_none, Option.isNone_iff_eq_none] at hc1
  have hx : lookT r m = none := by simpa using hc1
  have h2r : 2 ≤ r := Nat.le_of_not_lt fun h2 => hks.has r h2 hx
  obtain ⟨i, rfl⟩ : ∃ i, r = 2 + i := ⟨r - 2, by omega⟩
  have hi : i < t.ns.length := by unfold Tb.sz at hr; omega
  have NP := node_pow hD h hi
  obtain ⟨nb, hnb, hn⟩ := ht.node hi
  have l0 := NP.llo; have l1 := NP.lhi; have l2 := NP.lt; have q0 := NP.plo; have q1 := NP.phi; have q2 := NP.p
  have qp := Nat.two_pow_pos (D.n - (D.lv t (2 + i) + 1))
  rw [hnb] at hh
  refine Tri.fin ?_
  refine Nrm.next ?_
  refine Tri.seq (Tri.region ?_)
  refine TOps.load1 rfl ti61 rb.up.up.up rfl ?_
  refine TOps.nilCheck rfl rfl ?_
  first | refine TOps.fieldB 2 rfl Try.underlying115 rfl rfl ti65 rfl rfl rfl ?_ | refine TOps.fieldN 2 rfl Try.underlying115 rfl rfl ti65 rfl rfl rfl ?_
  refine TOps.load1 rfl ti65 (Rd.fld hh.up.up.up 2 rfl) rfl ?_
  refine TOps.move rfl rfl ?_
  refine TOps.sub (r := (i : Int)) rfl rfl (by rw [wrapI (by omega) (by omega)]; omega) rfl ?_
  refine TOps.indexAddr (off' := i * 3) rfl rfl Try.underlying65 ti123 (by omega) (by omega) (by simp) rfl ?_
  refine TOps.loadN (vs := dnCells t.ns[i]) rfl ti123 hn.up.up.up rfl rfl ?_
  refine TOps.alloc ti123 rfl (fun b9 => ?_)
  refine TOps.storeN rfl rfl ti123 rfl rfl (by repeat (first | exact Upd.here | apply Upd.there)) (by first | decide | (simp; done) | (simp; omega)) ?_
  show TOps _ _ _ (row (some b9) 123 3 1 [natV t.ns[i].v, natV t.ns[i].lo, natV t.ns[i].hi] :: exE D bo mr 67 123 oa oc dn na nc m H) _ _ _
  refine TOps.le (H' := exE D bo mr 67 123 oa oc dn na nc m (row (some b9) 123 3 1 [natV t.ns[i].v, natV t.ns[i].lo, natV t.ns[i].hi] :: H)) (by unfold exE; exact (Sp.le (by repeat (first | exact Sp.refl _ | exact Sp.sub (by assumption) | refine Sp.cons (by repeat (first | exact Pick.here | apply Pick.there)) ?_ | exact Sp.nil | apply Sp.skip)))) ?_
  have hrN : Rd (row (some b9) 123 3 1 [natV t.ns[i].v, natV t.ns[i].lo, natV t.ns[i].hi] :: H) b9 0 [natV t.ns[i].v, natV t.ns[i].lo, natV t.ns[i].hi] := Rd.all (List.Mem.head _)
  have exLe : ∀ {dn na nc m}, Le (exE D bo mr 67 123 oa oc dn na nc m (row (some b9) 123 3 1 [natV t.ns[i].v, natV t.ns[i].lo, natV t.ns[i].hi] :: H)) (row (some b9) 123 3 1 [natV t.ns[i].v, natV t.ns[i].lo, natV t.ns[i].hi] :: H) := fun {dn na nc m} => Le.drop (Le.drop (Le.drop (Le.refl _)))
  refine TOps.next ?_
  refine Tri.seq (Tri.region ?_)
  refine TOps.load1 rfl ti75 (rw'.up.le exLe) rfl ?_
  first | refine TOps.fieldB 1 rfl Try.underlying123 rfl rfl ti3 rfl rfl rfl ?_ | refine TOps.fieldN 1 rfl Try.underlying123 rfl rfl ti3 rfl rfl rfl ?_
  refine TOps.load1 rfl ti3 (Rd.fld (hrN.le exLe) 1 rfl) rfl ?_
  refine TOps.callV (caps := [_, _, _, _]) (vs := [_]) rfl Try.call77 ⟨rfl, trivial⟩ (ih (ht.le (Le.drop (Le.refl _))) rs.up rb.up rw'.up NP.lo (by omega) hdn hks hna (by omega)) rfl ?_
  rintro _ _ ⟨d1, na1, nc1, m1, x0, rfl, k0, e0, a0, rfl⟩
  have s0 := k0.size
  refine TOps.assign rfl rfl ?_
  refine TOps.next ?_
  refine Tri.seq (Tri.region ?_)
  refine TOps.load1 rfl ti75 (rw'.up.le exLe) rfl ?_
  first | refine TOps.fieldB 2 rfl Try.underlying123 rfl rfl ti3 rfl rfl rfl ?_ | refine TOps.fieldN 2 rfl Try.underlying123 rfl rfl ti3 rfl rfl rfl ?_
  refine TOps.load1 rfl ti3 (Rd.fld (hrN.le exLe) 2 rfl) rfl ?_
  refine TOps.callV (caps := [_, _, _, _]) (vs := [_]) rfl Try.call77 ⟨rfl, trivial⟩ (ih (ht.le (Le.drop (Le.refl _))) rs.up rb.up rw'.up NP.hi (by omega) k0.ok e0 a0 (by omega)) rfl ?_
  rintro _ _ ⟨d2, na2, nc2, m2, x1, rfl, k1, e1, a1, rfl⟩
  have s1 := k1.size
  have HR := ExR.step hD h hi k0 k1
  refine TOps.assign rfl rfl ?_
  refine TOps.next ?_
  refine Tri.seq (Tri.region ?_)
  unfold exE
  first | refine TOps.fieldB 1 rfl Try.underlying67 rfl rfl ti65 rfl rfl rfl ?_ | refine TOps.fieldN 1 rfl Try.underlying67 rfl rfl ti65 rfl rfl rfl ?_
  refine TOps.load1 rfl ti65 (by first | exact Rd.lit (by repeat (first | exact List.Mem.head _ | apply List.Mem.tail)) rfl | (repeat (first | assumption | exact Rd.fld (by assumption) 1 rfl | apply Rd.up))) rfl ?_
  refine TOps.field0 rfl Try.underlying123 rfl rfl ti3 rfl rfl rfl ?_
  refine TOps.load1 rfl ti3 (Rd.fld hrN.up.up.up 0 rfl) rfl ?_
  refine TOps.move rfl rfl ?_
  refine TOps.move rfl rfl ?_
  refine TOps.buildStruct (vs := [(0, _), (1, _), (2, _)]) (xs := [_, _, _]) [(0, 1), (1, 1), (2, 1)] Try.underlying123 ti123 (fun w => by simp) ⟨rfl, rfl, rfl, rfl, rfl, rfl, trivial⟩ rfl rfl ?_
  refine TOps.buildSlice (vs := [_]) (xs := [_, _, _]) Try.underlying65 ti123 ⟨rfl, rfl, trivial⟩ rfl rfl rfl rfl rfl rfl (by decide) rfl (fun b43 => ?_)
  refine TOps.appendLit rfl rfl Try.underlying65 ti123 rfl (fun _ _ => (by repeat (first | exact Upd.here | apply Upd.there))) rfl (dnsV_length _) rfl (by omega) (by omega) (by simp) rfl (fun b44 cap44 => ?_)
  first | refine TOps.fieldB 1 rfl Try.underlying67 rfl rfl ti65 rfl rfl rfl ?_ | refine TOps.fieldN 1 rfl Try.underlying67 rfl rfl ti65 rfl rfl rfl ?_
  refine TOps.store1 rfl rfl ti65 rfl rfl (by repeat (first | exact Upd.here | apply Upd.there)) (by first | decide | (simp; done) | (simp; omega) | exact (show (1 : Nat) < 3 by decide)) ?_
  refine TOps.next ?_
  refine Tri.seq (Tri.region ?_)
  refine TOps.load1 rfl ti128 rs.up.up.up.up rfl ?_
  refine TOps.move rfl rfl ?_
  first | refine TOps.fieldB 1 rfl Try.underlying67 rfl rfl ti65 rfl rfl rfl ?_ | refine TOps.fieldN 1 rfl Try.underlying67 rfl rfl ti65 rfl rfl rfl ?_
  refine TOps.load1 rfl ti65 (by first | exact Rd.lit (by repeat (first | exact List.Mem.head _ | apply List.Mem.tail)) rfl | (repeat (first | assumption | exact Rd.fld (by assumption) 1 rfl | apply Rd.up))) rfl ?_
  refine TOps.len rfl Try.underlying65 rfl ?_
  refine TOps.add (r := ((2 + d2.length : Nat) : Int)) rfl rfl (by rw [wrapI (by omega) (by omega)]; omega) rfl ?_
  refine TOps.putT (k := 2 + i) (vE := natV) (v := 2 + d2.length) keyNat rfl rfl rfl Try.underlying128 Upd.here e1.keys hr63 ?_
  have E2 := (e1.ext (dn' := d2 ++ [⟨t.ns[i].v, x0, x1⟩]) ⟨_, rfl⟩).put hr hr63 HR
  refine TOps.next ?_
  refine Tri.seq (Tri.region ?_)
  refine TOps.load1 rfl ti128 rs.up.up.up.up rfl ?_
  refine TOps.move rfl rfl ?_
  refine TOps.lookT1 (k := 2 + i) (vE := natV) (z := natV 0) keyNat rfl rfl Try.underlying128 zeroNat (List.Mem.head _) E2.keys hr63 rfl ?_
  rw [look_putT e1.keys.1]
  refine TOps.assign rfl rfl ?_
  refine TOps.next ?_
  refine Tri.ret1 (H' := exE D bo mr 67 123 oa oc (d2 ++ [⟨t.ns[i].v, x0, x1⟩]) (some b44) cap44 (putT (2 + i) (2 + d2.length) m2) H) Try.results77 (fun _ _ h => h) (.tmp rfl) ?_ ⟨_, _, _, _, _, rfl, HR, E2, fun _ => ⟨_, rfl⟩, rfl⟩
  unfold exE
  rw [dnsV_append, List.length_append]
  exact Le.sub (List.Sublist.cons_cons _ (List.Sublist.cons_cons _ (List.Sublist.cons_cons _ (List.sublist_cons_self _ _))))
theorem export_g {D : TS} {t : Tb} (hD : TSOk D) (hn8 : D.n ≤ 8) (h : TbOk D t) {H : List Ent} (ht : TabRd H D t) {r : Nat} (hr : r < 2 + t.sz) :
    Gives Try.prog 51 [.pointer (some ⟨D.bt, 0, none⟩), natV r] H (DgG D.n D.ord D.pl 3 123 (fun s => t.val s r) H) := by
  have hh := ht.hd
  unfold TS.head at hh
  have n24 := hD.n24
  have hlo := hD.op.lo
  refine Gives.enter Try.func51 rfl (by exact Try.ntmps51) rfl ?_
  refine Tri.seq (Tri.region ?_)
  refine TOps.box1 rfl rfl ti61 rfl (fun b2 => ?_)
  refine TOps.alloc ti67 rfl (fun b4 => ?_)
  refine TOps.next ?_
  refine Tri.seq (Tri.region ?_)
  refine TOps.load1 rfl ti61 (Rd.lit (by repeat (first | exact List.Mem.head _ | apply List.Mem.tail)) rfl) rfl ?_
  refine TOps.nilCheck rfl rfl ?_
  refine TOps.field0 rfl Try.underlying115 rfl rfl ti53 rfl rfl rfl ?_
  refine TOps.load1 rfl ti53 (Rd.fld hh.up.up 0 rfl) rfl ?_
  refine TOps.le (Le.addNil (E := 3) (sz := 1)) ?_
  refine TOps.append (ys := nats D.ord) (H' := fun a' cap' => row a' 3 1 cap' (nats D.ord) :: row (some b4) 67 3 1 [slV none 0 0 0, slV none 0 0 0, .int .i64 0] :: row (some b2) 61 1 1 [.pointer (some ⟨D.bt, 0, none⟩)] :: H) rfl rfl Try.underlying53 ti3 rfl (fun _ _ => Upd.here) (ht.od.le (Le.drop (Le.drop (Le.drop (Le.refl _))))) (by simp; omega) rfl (fun u hu => by obtain ⟨k, _, rfl⟩ := List.mem_map.1 hu; rfl) (by omega) (by omega) rfl (fun oa oc hoa => ?_)
  rw [Nat.zero_add]
  refine TOps.buildStruct (vs := [(0, _)]) (xs := [_, _, _]) [(0, 1), (1, 1), (2, 1)] Try.underlying67 ti67 (fun w => by simp) ⟨rfl, rfl, trivial⟩ rfl rfl ?_
  refine TOps.alloc ti67 rfl (fun b5 => ?_)
  refine TOps.storeN rfl rfl ti67 rfl rfl (by repeat (first | exact Upd.here | apply Upd.there)) (by first | decide | (simp; done) | (simp; omega)) ?_
  refine TOps.next ?_
  refine Tri.seq (Tri.region ?_)
  refine TOps.makeT natV natV rfl (fun b14 => ?_)
  refine TOps.insT (k := 0) (kE := natV) (vE := natV) (v := 0) keyNat rfl rfl rfl Try.underlying128 Upd.here KeysOk.nil (by unfold ok63; omega) ?_
  refine TOps.insT (k := 1) (kE := natV) (vE := natV) (v := 1) keyNat rfl rfl rfl Try.underlying128 Upd.here (KeysOk.nil.put (by unfold ok63; omega) _) (by unfold ok63; omega) ?_
  refine TOps.move rfl rfl ?_
  refine TOps.alloc ti128 rfl (fun b6 => ?_)
  refine TOps.store1 rfl rfl ti128 rfl rfl (by repeat (first | exact Upd.here | apply Upd.there)) (by first | decide | (simp; done) | (simp; omega)) ?_
  refine TOps.next ?_
  refine Tri.seq (Tri.region ?_)
  refine TOps.alloc ti75 rfl (fun b7 => ?_)
  refine TOps.next ?_
  refine Tri.seq (Tri.region ?_)
  refine TOps.makeFunc (vs := [_, _, _, _]) ⟨rfl, rfl, rfl, rfl, trivial⟩ rfl ?_
  refine TOps.store1 rfl rfl ti75 rfl rfl (by repeat (first | exact Upd.here | apply Upd.there)) (by first | decide | (simp; done) | (simp; omega)) ?_
  refine TOps.le (Le.addNil (E := 123) (sz := 3)) ?_
  refine TOps.le (H' := exE D b5 b14 67 123 oa oc [] none 0 (putT 1 1 (putT 0 0 [])) (row (some b7) 75 1 1 [.func (.func 77) #[] (List.toArray [.pointer (some ⟨b6, 0, none⟩), .pointer (some ⟨b2, 0, none⟩), .pointer (some ⟨b7, 0, none⟩), .pointer (some ⟨b5, 0, none⟩)])] :: row (some b6) 128 1 1 [.map (some b14)] :: row (some b4) 67 3 1 [slV none 0 0 0, slV none 0 0 0, .int .i64 0] :: row (some b2) 61 1 1 [.pointer (some ⟨D.bt, 0, none⟩)] :: row oa 3 1 oc (nats D.ord) :: H)) (by unfold exE; exact (Sp.le (by repeat (first | exact Sp.refl _ | exact Sp.sub (by assumption) | refine Sp.cons (by repeat (first | exact Pick.here | apply Pick.there)) ?_ | exact Sp.nil | apply Sp.skip)))) ?_
  have exLe : ∀ {dn na nc m}, Le (exE D b5 b14 67 123 oa oc dn na nc m (row (some b7) 75 1 1 [.func (.func 77) #[] (List.toArray [.pointer (some ⟨b6, 0, none⟩), .pointer (some ⟨b2, 0, none⟩), .pointer (some ⟨b7, 0, none⟩), .pointer (some ⟨b5, 0, none⟩)])] :: row (some b6) 128 1 1 [.map (some b14)] :: row (some b4) 67 3 1 [slV none 0 0 0, slV none 0 0 0, .int .i64 0] :: row (some b2) 61 1 1 [.pointer (some ⟨D.bt, 0, none⟩)] :: row oa 3 1 oc (nats D.ord) :: H)) (row (some b7) 75 1 1 [.func (.func 77) #[] (List.toArray [.pointer (some ⟨b6, 0, none⟩), .pointer (some ⟨b2, 0, none⟩), .pointer (some ⟨b7, 0, none⟩), .pointer (some ⟨b5, 0, none⟩)])] :: row (some b6) 128 1 1 [.map (some b14)] :: row (some b4) 67 3 1 [slV none 0 0 0, slV none 0 0 0, .int .i64 0] :: row (some b2) 61 1 1 [.pointer (some ⟨D.bt, 0, none⟩)] :: row oa 3 1 oc (nats D.ord) :: H) := fun {dn na nc m} => Le.drop (Le.drop (Le.drop (Le.refl _)))
  refine TOps.next ?_
  refine Tri.seq (Tri.region ?_)
  refine TOps.load1 rfl ti75 (Rd.le (Rd.lit (List.Mem.head _) rfl) exLe) rfl ?_
  refine TOps.move rfl rfl ?_
  refine TOps.callV (caps := [_, _, _, _]) (vs := [_]) rfl Try.call77 ⟨rfl, trivial⟩ (export1_g (H := row (some b7) 75 1 1 [.func (.func 77) #[] (List.toArray [.pointer (some ⟨b6, 0, none⟩), .pointer (some ⟨b2, 0, none⟩), .pointer (some ⟨b7, 0, none⟩), .pointer (some ⟨b5, 0, none⟩)])] :: row (some b6) 128 1 1 [.map (some b14)] :: row (some b4) 67 3 1 [slV none 0 0 0, slV none 0 0 0, .int .i64 0] :: row (some b2) 61 1 1 [.pointer (some ⟨D.bt, 0, none⟩)] :: row oa 3 1 oc (nats D.ord) :: H) hD hn8 h (D.n + 1) (ht.le (Le.drop (Le.drop (Le.drop (Le.drop (Le.drop (Le.refl _))))))) (Rd.lit (by repeat (first | exact List.Mem.head _ | apply List.Mem.tail)) rfl) (Rd.lit (by repeat (first | exact List.Mem.head _ | apply List.Mem.tail)) rfl) (Rd.lit (by repeat (first | exact List.Mem.head _ | apply List.Mem.tail)) rfl) hr (by omega) (DgOk.nil _ _) (ExOk.start h) (fun h => absurd rfl h) (by have := pow8 hn8 (D.lv t r); simp; omega)) rfl ?_
  rintro _ _ ⟨dn, na, nc, m, x, rfl, k0, e0, a0, rfl⟩
  unfold exE
  have hsz := k0.size
  have hp8 := pow8 hn8 (D.lv t r)
  simp only [List.length_nil] at hsz
  first | refine TOps.fieldB 2 rfl Try.underlying67 rfl rfl ti3 rfl rfl rfl ?_ | refine TOps.fieldN 2 rfl Try.underlying67 rfl rfl ti3 rfl rfl rfl ?_
  refine TOps.store1 rfl rfl ti3 rfl rfl (by repeat (first | exact Upd.here | apply Upd.there)) (by first | decide | (simp; done) | (simp; omega) | exact (show (2 : Nat) < 3 by decide)) ?_
  refine TOps.next ?_
  refine Tri.seq (Tri.region ?_)
  refine TOps.loadN rfl ti67 (by first | exact Rd.all (by repeat (first | exact List.Mem.head _ | apply List.Mem.tail)) | (repeat (first | assumption | apply Rd.up))) rfl rfl ?_
  refine TOps.storeN rfl rfl ti67 rfl rfl (by repeat (first | exact Upd.here | apply Upd.there)) (by first | decide | (simp; done) | (simp; omega)) ?_
  refine TOps.next ?_
  refine Tri.ret1 (H' := row na 123 3 nc (dnsV dn) :: row oa 3 1 oc (nats D.ord) :: H) Try.results51 (fun _ _ h => h) (.cellN rfl rfl ti67 (Rd.all (by repeat (first | exact List.Mem.head _ | apply List.Mem.tail))) rfl) (Sp.le (by repeat (first | exact Sp.refl _ | exact Sp.sub (by assumption) | refine Sp.cons (by repeat (first | exact Pick.here | apply Pick.there)) ?_ | exact Sp.nil | apply Sp.skip))) ⟨dn, x, oa, oc, na, nc, rfl, ⟨k0.ok, k0.ref, k0.val, by omega⟩, a0, rfl⟩
end Go.Proofs
namespace Go.Proofs
open Go.GL
set_option linter.unusedVariables false
set_option linter.unusedSimpArgs false
set_option maxRecDepth 20000 in
theorem import_g {D : TS} {t : Tb} (hD : TSOk D) (hty : DTy D) (h : TbOk D t) {H : List Ent} {dn : List DN} {rt n : Nat} {f : (Nat → Bool) → Bool} (hd : DgR D.n D.pl dn rt f) {oa na : Option Nat} {oc nc : Nat} (hr : RdS H na 0 (dnsV dn)) (hs : t.sz ≤ 1099511000000) :
    Gives Try.prog 24 [.pointer (some ⟨D.bt, 0, none⟩), .agg (List.toArray [slV oa 0 n oc, slV na 0 dn.length nc, natV rt])] (tabE D t :: H) (OpG D t f 256 H) := by
  have hl := hd.size
  have hrt := hd.ref
  have n24 := hD.n24
  refine Gives.enter Try.func24 rfl (by exact Try.ntmps24) rfl ?_
  refine Tri.seq (Tri.region ?_)
  refine TOps.boxN rfl ti67 rfl rfl (fun b3 => ?_)
  refine TOps.le Le.swap ?_
  have rB : Rd (row (some b3) 67 3 1 [slV oa 0 n oc, slV na 0 dn.length nc, natV rt] :: H) b3 0 [slV oa 0 n oc, slV na 0 dn.length nc, natV rt] := Rd.all (List.Mem.head _)
  refine TOps.assign rfl rfl ?_
  refine TOps.next ?_
  refine Tri.seq (Tri.region ?_)
  first | refine TOps.fieldB 1 rfl Try.underlying67 rfl rfl ti65 rfl rfl rfl ?_ | refine TOps.fieldN 1 rfl Try.underlying67 rfl rfl ti65 rfl rfl rfl ?_
  refine TOps.load1 rfl ti65 (Rd.fld rB.up 1 rfl) rfl ?_
  refine TOps.len rfl Try.underlying65 rfl ?_
  refine TOps.add (r := ((2 + dn.length : Nat) : Int)) rfl rfl (by rw [wrapI (by omega) (by omega)]; omega) rfl ?_
  refine TOps.make1 rfl rfl Try.underlying53 ti3 (by omega) (by omega) (by omega) rfl (fun b12 => ?_)
  refine TOps.le Le.swap ?_
  refine TOps.assign rfl rfl ?_
  refine TOps.next ?_
  refine Tri.seq (Tri.region ?_)
  refine TOps.move rfl rfl ?_
  refine TOps.indexAddr (off' := 1) rfl rfl Try.underlying53 ti3 (by omega) (by omega) (by simp) rfl ?_
  refine TOps.store1 rfl rfl ti3 rfl rfl (Upd.there Upd.here) (by simp; omega) ?_
  show TOps _ _ _ (tabE D t :: row (some b12) 3 1 (2 + dn.length) ((List.replicate (2 + dn.length) (natV 0)).set 1 (natV 1)) :: row (some b3) 67 3 1 [slV oa 0 n oc, slV na 0 dn.length nc, natV rt] :: H) _ _ _
  rw [show (List.replicate (2 + dn.length) (natV 0)).set 1 (natV 1) = nats ((List.replicate (2 + dn.length) 0).set 1 1) by rw [nats_set]; simp; rfl]
  refine TOps.next ?_
  refine Tri.seq ?_
  refine Tri.seq (Tri.region ?_)
  first | refine TOps.fieldB 1 rfl Try.underlying67 rfl rfl ti65 rfl rfl rfl ?_ | refine TOps.fieldN 1 rfl Try.underlying67 rfl rfl ti65 rfl rfl rfl ?_
  refine TOps.load1 rfl ti65 (Rd.fld rB.up.up 1 rfl) rfl ?_
  refine TOps.len rfl Try.underlying65 rfl ?_
  refine TOps.move rfl rfl ?_
  refine TOps.next ?_
  refine Tri.range (X := Tb × List Nat) (fun y k => [(0, .pointer (some ⟨D.bt, 0, none⟩)), (3, .pointer (some ⟨b3, 0, none⟩)), (5, slV (some b12) 0 (2 + dn.length) (2 + dn.length)), (16, slV na 0 dn.length nc)]) (fun y k => tabE D y.1 :: row (some b12) 3 1 (2 + dn.length) (nats y.2) :: row (some b3) 67 3 1 [slV oa 0 n oc, slV na 0 dn.length nc, natV rt] :: H) (fun y k => ImOk D t y.1 dn y.2 k) (by omega) rfl rfl rfl (fun _ _ => ⟨rfl, rfl, rfl, rfl⟩) (t, (List.replicate (2 + dn.length) 0).set 1 1) (ImOk.start hD h dn) ⟨rfl, rfl, rfl, rfl, trivial⟩ (Le.refl _) (fun k y hlt hp => ?_) (fun y ac wc hp hS hM => ?_)
  · skip
    obtain ⟨t1, zs⟩ := y
    simp only at hp
    have hno : ∃ nb, na = some nb ∧ Rd H nb (k * 3) (dnCells dn[k]) := by
      rcases hr with e | ⟨b, h1, _, h2⟩
      · have := dnsV_length dn; rw [e] at this; simp at this; omega
      · refine ⟨b, h1, fun w hM j v hj => ?_⟩
        have := h2 w hM (k * 3 + j) v (dnsV_get hlt j v hj)
        rwa [Nat.zero_add] at this
    obtain ⟨nb, hnb, hn⟩ := hno
    have hdk := hd.ok k hlt
    have a := hdk.lo; have b := hdk.hi; have hv := hdk.v; have la := hdk.llo; have lb := hdk.lhi
    have ha := hp.lev _ (show dn[k].lo < 2 + k from a); have hb := hp.lev _ (show dn[k].hi < 2 + k from b)
    have hzl := hp.len
    have hlz := hp.ok.len
    have hz := hp.size
    have hs1 : t1.sz < 1099511627776 := by omega
    have hg : ∀ m, m < 2 + dn.length → (nats zs)[m]? = some (natV (zs.getD m 0)) := fun m hm => nats_get (by omega)
    refine Tri.seq (Tri.region ?_)
    refine TOps.move rfl rfl ?_
    refine TOps.indexAddr (b := nb) (off := 0) (m := dn.length) (cap := nc) (off' := k * 3) (by rw [← hnb]; rfl) rfl Try.underlying65 ti123 (by omega) (by omega) (by simp) rfl ?_
    refine TOps.loadN (vs := dnCells dn[k]) rfl ti123 hn.up.up.up rfl rfl ?_
    refine TOps.alloc ti123 rfl (fun b7 => ?_)
    refine TOps.assign rfl rfl ?_
    refine TOps.storeN rfl rfl ti123 rfl rfl (by repeat (first | exact Upd.here | apply Upd.there)) (by first | decide | (simp; done) | (simp; omega)) ?_
    show TOps _ _ _ (row (some b7) 123 3 1 [natV dn[k].v, natV dn[k].lo, natV dn[k].hi] :: tabE D t1 :: row (some b12) 3 1 (2 + dn.length) (nats zs) :: row (some b3) 67 3 1 [slV oa 0 n oc, slV na 0 dn.length nc, natV rt] :: H) _ _ _
    refine TOps.le Le.swap ?_
    refine TOps.next ?_
    refine Tri.drawX (X := Tb × Nat) rfl [(0, .pointer (some ⟨D.bt, 0, none⟩)), (3, .pointer (some ⟨b3, 0, none⟩)), (5, slV (some b12) 0 (2 + dn.length) (2 + dn.length)), (6, natV k), (7, .pointer (some ⟨b7, 0, none⟩)), (16, slV na 0 dn.length nc), (17, natV dn.length), (18, natV k)] [] (fun x => [_, _, _, _, _, _, _, _, _, _, _, _, _, _, _, _, natV x.2, _, undef]) (fun x c => match c with | 0 => tabE D t1 :: row (some b7) 123 3 1 [natV dn[k].v, natV dn[k].lo, natV dn[k].hi] :: row (some b12) 3 1 (2 + dn.length) (nats zs) :: row (some b3) 67 3 1 [slV oa 0 n oc, slV na 0 dn.length nc, natV rt] :: H | 1 => fact (MkOk D t1 x.1 dn[k].v (zs.getD dn[k].lo 0) (zs.getD dn[k].hi 0) x.2) :: tabE D x.1 :: row (some b7) 123 3 1 [natV dn[k].v, natV dn[k].lo, natV dn[k].hi] :: row (some b12) 3 1 (2 + dn.length) (nats zs) :: row (some b3) 67 3 1 [slV oa 0 n oc, slV na 0 dn.length nc, natV rt] :: H | _ + 2 => fact (MkOk D t1 x.1 dn[k].v (zs.getD dn[k].lo 0) (zs.getD dn[k].hi 0) x.2) :: tabE D x.1 :: row (some b7) 123 3 1 [natV dn[k].v, natV dn[k].lo, natV dn[k].hi] :: row (some b12) 3 1 (2 + dn.length) ((nats zs).set (2 + k) (natV x.2)) :: row (some b3) 67 3 1 [slV oa 0 n oc, slV na 0 dn.length nc, natV rt] :: H) [16, 18] (t1, 0) [] rfl rfl ⟨rfl, rfl, rfl, rfl, rfl, rfl, rfl, rfl, trivial⟩ trivial (by repeat (first | exact Le.refl _ | assumption | apply Le.drop)) (by
      refine ⟨?_, ?_, ?_, ?_, ?_, ?_, ?_, ?_, ?_, ?_, ?_, ?_, ?_, ?_, ?_, ?_, ?_, ?_, ?_, trivial⟩
      · refine ⟨fun x S c he hw hd hc hcu hm _ => ?_, trivial⟩
        refine TOps.move (he _ _ rfl) rfl ?_
        exact TOps.fd x rfl rfl
      · refine ⟨fun x S c he hw hd hc hcu hm _ => ?_, trivial⟩
        refine TOps.move (he _ _ rfl) rfl ?_
        exact TOps.fd x rfl rfl
      · refine ⟨fun x S c he hw hd hc hcu hm _ => ?_, trivial⟩
        obtain ⟨h1, -⟩ := hd
        refine TOps.add (r := ((2 + k : Nat) : Int)) rfl h1 (by rw [wrapI (by omega) (by omega)]; omega) rfl ?_
        exact TOps.fd x rfl rfl
      · refine ⟨fun x S c he hw hd hc hcu hm _ => ?_, trivial⟩
        refine TOps.move (he _ _ rfl) rfl ?_
        exact TOps.fd x rfl rfl
      · refine ⟨fun x S c he hw hd hc hcu hm _ => ?_, trivial⟩
        refine TOps.field0 (he _ _ rfl) Try.underlying123 rfl rfl ti3 rfl rfl rfl ?_
        exact TOps.fd x rfl rfl
      · refine ⟨fun x S c he hw hd hc hcu hm _ => ?_, trivial⟩
        obtain ⟨h4, -⟩ := hd
        obtain rfl : c = 0 := by have : c ≤ 0 := hcu; omega
        refine TOps.load1 h4 ti3 (Rd.lit (by repeat (first | exact List.Mem.head _ | apply List.Mem.tail)) rfl) rfl ?_
        exact TOps.fd x rfl rfl
      · refine ⟨fun x S c he hw hd hc hcu hm _ => ?_, trivial⟩
        refine TOps.move (he _ _ rfl) rfl ?_
        exact TOps.fd x rfl rfl
      · refine ⟨fun x S c he hw hd hc hcu hm _ => ?_, trivial⟩
        first | refine TOps.fieldB 1 (he _ _ rfl) Try.underlying123 rfl rfl ti3 rfl rfl rfl ?_ | refine TOps.fieldN 1 (he _ _ rfl) Try.underlying123 rfl rfl ti3 rfl rfl rfl ?_
        exact TOps.fd x rfl rfl
      · refine ⟨fun x S c he hw hd hc hcu hm _ => ?_, trivial⟩
        obtain ⟨h7, -⟩ := hd
        obtain rfl : c = 0 := by have : c ≤ 0 := hcu; omega
        refine TOps.load1 h7 ti3 (Rd.lit (by repeat (first | exact List.Mem.head _ | apply List.Mem.tail)) rfl) rfl ?_
        exact TOps.fd x rfl rfl
      · refine ⟨fun x S c he hw hd hc hcu hm _ => ?_, trivial⟩
        obtain ⟨h6, h8, -⟩ := hd
        refine TOps.indexAddr (off' := dn[k].lo) h6 h8 Try.underlying53 ti3 (by omega) (by omega) (by simp) rfl ?_
        exact TOps.fd x rfl rfl
      · refine ⟨fun x S c he hw hd hc hcu hm _ => ?_, trivial⟩
        obtain ⟨h9, -⟩ := hd
        obtain rfl : c = 0 := by have : c ≤ 0 := hcu; omega
        refine TOps.load1 h9 ti3 (Rd.lit (by repeat (first | exact List.Mem.head _ | apply List.Mem.tail)) (hg _ (by omega))) rfl ?_
        exact TOps.fd x rfl rfl
      · refine ⟨fun x S c he hw hd hc hcu hm _ => ?_, trivial⟩
        refine TOps.move (he _ _ rfl) rfl ?_
        exact TOps.fd x rfl rfl
      · refine ⟨fun x S c he hw hd hc hcu hm _ => ?_, trivial⟩
        first | refine TOps.fieldB 2 (he _ _ rfl) Try.underlying123 rfl rfl ti3 rfl rfl rfl ?_ | refine TOps.fieldN 2 (he _ _ rfl) Try.underlying123 rfl rfl ti3 rfl rfl rfl ?_
        exact TOps.fd x rfl rfl
      · refine ⟨fun x S c he hw hd hc hcu hm _ => ?_, trivial⟩
        obtain ⟨h12, -⟩ := hd
        obtain rfl : c = 0 := by have : c ≤ 0 := hcu; omega
        refine TOps.load1 h12 ti3 (Rd.lit (by repeat (first | exact List.Mem.head _ | apply List.Mem.tail)) rfl) rfl ?_
        exact TOps.fd x rfl rfl
      · refine ⟨fun x S c he hw hd hc hcu hm _ => ?_, trivial⟩
        obtain ⟨h11, h13, -⟩ := hd
        refine TOps.indexAddr (off' := dn[k].hi) h11 h13 Try.underlying53 ti3 (by omega) (by omega) (by simp) rfl ?_
        exact TOps.fd x rfl rfl
      · refine ⟨fun x S c he hw hd hc hcu hm _ => ?_, trivial⟩
        obtain ⟨h14, -⟩ := hd
        obtain rfl : c = 0 := by have : c ≤ 0 := hcu; omega
        refine TOps.load1 h14 ti3 (Rd.lit (by repeat (first | exact List.Mem.head _ | apply List.Mem.tail)) (hg _ (by omega))) rfl ?_
        exact TOps.fd x rfl rfl
      · refine ⟨fun x S c he hw hd hc hcu hm _ => ?_, trivial⟩
        obtain ⟨h3, h5, h10, h15, -⟩ := hd
        obtain rfl : c = 0 := hm rfl
        refine TOps.call (vs := [_, _, _, _]) Try.call52 ⟨h3, h5, h10, h15, trivial⟩ (make_g hD hty hp.ok hv (hp.ref _ a) (hp.ref _ b) (Nat.lt_of_lt_of_le la ha) (Nat.lt_of_lt_of_le lb hb) hs1) rfl ?_
        rintro _ _ ⟨t2, r2, rfl, h2', rfl⟩
        refine TOps.fin (Nrm.draw (t2, r2) ?_ rfl (Le.addFact h2'))
        intro j hj hcj; rcases j with _|_|_|_|_|_|_|_|_|_|_|_|_|_|_|_|_|_|_|j <;> first | rfl | exact absurd rfl hj | exact absurd hcj (by decide)
      · refine ⟨fun x S c he hw hd hc hcu hm _ => ?_, trivial⟩
        obtain ⟨h0, h2, _, h1, _, h3, h4, h5, h6, h7, h8, h9, h10, h11, h12, h13, h14, h15, h16, -⟩ := hd
        refine TOps.indexAddr (off' := 2 + k) h0 h2 Try.underlying53 ti3 (by omega) (by omega) (by omega) rfl ?_
        exact TOps.fd x rfl rfl
      · refine ⟨fun x S c he hw hd hc hcu hm _ => ?_, trivial⟩
        obtain ⟨h17, h16, _, h0, h1, h2, h3, h4, h5, h6, h7, h8, h9, h10, h11, h12, h13, h14, h15, _, -⟩ := hd
        obtain rfl : c = 1 := hm rfl
        refine TOps.store1 h17 h16 ti3 rfl rfl (by repeat (first | exact Upd.here | apply Upd.there)) (by simp; omega) ?_
        exact TOps.fd x rfl rfl
      ) (fun w => ?_)
    refine Nrm.fact (List.Mem.head _) (fun f1 => ?_)
    refine Nrm.le (Le.drop (Le.refl _)) ?_
    rw [← nats_set]
    refine Nrm.body (w.1, zs.set (2 + k) w.2) (hp.step hd.ok hlt f1) ⟨rfl, rfl, rfl, rfl, rfl, rfl, trivial⟩ (Le.sub (List.Sublist.cons_cons _ (List.sublist_cons_self _ _)))
  obtain ⟨t1, zs⟩ := y
  simp only at hp
  have hzl := hp.len
  refine Nrm.of hS hM ?_
  refine Nrm.next ?_
  refine Tri.seq (Tri.region ?_)
  refine TOps.move rfl rfl ?_
  first | refine TOps.fieldB 2 rfl Try.underlying67 rfl rfl ti3 rfl rfl rfl ?_ | refine TOps.fieldN 2 rfl Try.underlying67 rfl rfl ti3 rfl rfl rfl ?_
  refine TOps.load1 rfl ti3 (Rd.lit (by repeat (first | exact List.Mem.head _ | apply List.Mem.tail)) rfl) rfl ?_
  refine TOps.indexAddr (off' := rt) rfl rfl Try.underlying53 ti3 (by omega) (by omega) (by simp) rfl ?_
  refine TOps.load1 rfl ti3 (Rd.lit (by repeat (first | exact List.Mem.head _ | apply List.Mem.tail)) (show (nats zs)[rt]? = _ from nats_get (by omega))) rfl ?_
  refine TOps.assign rfl rfl ?_
  refine TOps.next ?_
  refine Tri.ret1 (H' := tabE D t1 :: H) Try.results24 (fun _ _ h => h) (.tmp rfl) (Le.sub (List.Sublist.cons_cons _ (List.Sublist.cons _ (List.sublist_cons_self _ _)))) ⟨t1, zs.getD rt 0, rfl, ⟨hp.ext, hp.ok, hp.ref _ hrt, fun s => by rw [hp.val _ hrt]; exact hd.val s, by have := hp.size; omega⟩, rfl⟩
theorem new_g {H : List Ent} {n : Nat} {o pl : List Nat} (ho : OP n o pl) (hn24 : n ≤ 24) {xa sp : Option Nat} {xo xc : Nat} (hr : RdS H xa xo (nats o) sp) :
    Gives Try.prog 22 [slV xa xo n xc sp] H (fun u H' => ∃ D : TS, D.n = n ∧ D.ord = o ∧ D.pl = pl ∧ TSOk D ∧ DTy D ∧ u = .pointer (some ⟨D.bt, 0, none⟩) ∧ tabE D Tb.new :: H = H') := by
  have hol := ho.lo
  refine Gives.enter Try.func22 rfl (by exact Try.ntmps22) rfl ?_
  refine Tri.seq (Tri.region ?_)
  refine TOps.assign rfl rfl ?_
  refine TOps.next ?_
  refine Tri.seq ?_
  have hll : ∀ (x : TX o) (D : List Nat), Le (on D [1] [] [row x.oa.1 3 1 x.oc (nats o)] ++ (on D [4] [] [row (some x.pa) 3 1 n (List.replicate n (natV 0))] ++ (on D [5] [] [tmap dnV natV x.bu []] ++ (on D [6] [] [tmap triV natV x.bm []] ++ (on D [8] [] [row (some x.bt) 115 5 1 [slV x.oa.1 0 (0 + n) x.oc, slV (some x.pa) 0 n n, slV none 0 0 0, .map (some x.bu), .map (some x.bm)]] ++ H))))) H := fun x D => Le.sub (by repeat (first | exact List.Sublist.refl _ | apply sub_on))
  refine Tri.drawM (X := TX o) rfl [(0, slV xa xo n xc sp)] [] (fun x => [_, slV x.oa.1 0 (0 + n) x.oc, _, _, slV (some x.pa) 0 n n, .map (some x.bu), .map (some x.bm), .agg (List.toArray [slV x.oa.1 0 (0 + n) x.oc, slV (some x.pa) 0 n n, slV none 0 0 0, .map (some x.bu), .map (some x.bm)]), .pointer (some ⟨x.bt, 0, none⟩), .pointer (some ⟨x.bt, 0, none⟩)]) (fun x D => on D [1] [] [row x.oa.1 3 1 x.oc (nats o)] ++ (on D [4] [] [row (some x.pa) 3 1 n (List.replicate n (natV 0))] ++ (on D [5] [] [tmap dnV natV x.bu []] ++ (on D [6] [] [tmap triV natV x.bm []] ++ (on D [8] [] [row (some x.bt) 115 5 1 [slV x.oa.1 0 (0 + n) x.oc, slV (some x.pa) 0 n n, slV none 0 0 0, .map (some x.bu), .map (some x.bm)]] ++ H))))) [1, 4, 5, 6, 8] [0, 1, 0, 4, 12, 0, 0, 127, 255, 511] [[], [6], [5], [5, 6], [4], [4, 6], [4, 5], [4, 5, 6], [1], [1, 6], [1, 5], [1, 5, 6], [1, 4], [1, 4, 6], [1, 4, 5], [1, 4, 5, 6], [1, 4, 5, 6, 8]] ⟨OA.zero _, 0, 0, 0, 0, 0⟩ [9] rfl rfl (by kernel_rfl) (by kernel_rfl) ⟨rfl, trivial⟩ trivial (by repeat (first | exact Le.refl _ | assumption | apply Le.drop)) (by
    refine ⟨?_, ?_, ?_, ?_, ?_, ?_, ?_, ?_, ?_, ?_, trivial⟩
    · refine ⟨fun x S D he hw hd hD _ => ?_, trivial⟩
      refine TOps.move (he _ _ rfl) rfl ?_
      exact TOps.fdM x rfl rfl
    · refine ⟨fun x S D he hw hd hD _ => ?_, trivial⟩
      obtain ⟨h0, -⟩ := hd
      replace hD := mem_of_eq (L' := [[], [6], [5], [5, 6], [4], [4, 6], [4, 5], [4, 5, 6]]) hD (by kernel_rfl)
      simp only [List.mem_cons, List.not_mem_nil, or_false] at hD
      rcases hD with rfl | rfl | rfl | rfl | rfl | rfl | rfl | rfl
      all_goals refine TOps.le (Le.addNil (E := 3) (sz := 1)) ?_
      all_goals refine TOps.append (ys := nats o) (H' := fun a' cap' => row a' 3 1 cap' (nats o) :: _) rfl h0 Try.underlying53 ti3 rfl (fun _ _ => Upd.here) (hr.le ((Le.drop (Le.refl _)).trans (hll x _))) (by simp; omega) rfl (fun u hu => by obtain ⟨k, _, rfl⟩ := List.mem_map.1 hu; rfl) (by omega) (by omega) rfl (fun oa oc hoa => ?_)
      all_goals refine TOps.fin (Nrm.drawM {x with oa := ⟨oa, hoa⟩, oc := oc} ?_ rfl (Sp.le (by repeat (first | exact Sp.refl _ | exact Sp.sub (by assumption) | refine Sp.cons (by repeat (first | exact Pick.here | apply Pick.there)) ?_ | exact Sp.nil | apply Sp.skip))))
      all_goals (intro j hj hcj; rcases j with _|_|_|_|_|_|_|_|_|_|j <;> first | rfl | exact absurd rfl hj | exact absurd hcj (by decide))
    · refine ⟨fun x S D he hw hd hD _ => ?_, trivial⟩
      refine TOps.move (he _ _ rfl) rfl ?_
      exact TOps.fdM x rfl rfl
    · refine ⟨fun x S D he hw hd hD _ => ?_, trivial⟩
      obtain ⟨h2, -⟩ := hd
      refine TOps.len h2 Try.underlying53 rfl ?_
      exact TOps.fdM x rfl rfl
    · refine ⟨fun x S D he hw hd hD _ => ?_, trivial⟩
      obtain ⟨h3, _, -⟩ := hd
      replace hD := mem_of_eq (L' := [[], [6], [5], [5, 6], [1], [1, 6], [1, 5], [1, 5, 6]]) hD (by kernel_rfl)
      simp only [List.mem_cons, List.not_mem_nil, or_false] at hD
      rcases hD with rfl | rfl | rfl | rfl | rfl | rfl | rfl | rfl
      all_goals refine TOps.make1 h3 h3 Try.underlying53 ti3 (by omega) (by omega) (by omega) rfl (fun b10 => ?_)
      all_goals refine TOps.fin (Nrm.drawM {x with pa := b10} ?_ rfl (Sp.le (by repeat (first | exact Sp.refl _ | exact Sp.sub (by assumption) | refine Sp.cons (by repeat (first | exact Pick.here | apply Pick.there)) ?_ | exact Sp.nil | apply Sp.skip))))
      all_goals (intro j hj hcj; rcases j with _|_|_|_|_|_|_|_|_|_|j <;> first | rfl | exact absurd rfl hj | exact absurd hcj (by decide))
    · refine ⟨fun x S D he hw hd hD _ => ?_, trivial⟩
      replace hD := mem_of_eq (L' := [[], [6], [4], [4, 6], [1], [1, 6], [1, 4], [1, 4, 6]]) hD (by kernel_rfl)
      simp only [List.mem_cons, List.not_mem_nil, or_false] at hD
      rcases hD with rfl | rfl | rfl | rfl | rfl | rfl | rfl | rfl
      all_goals refine TOps.makeT dnV natV rfl (fun b11 => ?_)
      all_goals refine TOps.fin (Nrm.drawM {x with bu := b11} ?_ rfl (Sp.le (by repeat (first | exact Sp.refl _ | exact Sp.sub (by assumption) | refine Sp.cons (by repeat (first | exact Pick.here | apply Pick.there)) ?_ | exact Sp.nil | apply Sp.skip))))
      all_goals (intro j hj hcj; rcases j with _|_|_|_|_|_|_|_|_|_|j <;> first | rfl | exact absurd rfl hj | exact absurd hcj (by decide))
    · refine ⟨fun x S D he hw hd hD _ => ?_, trivial⟩
      replace hD := mem_of_eq (L' := [[], [5], [4], [4, 5], [1], [1, 5], [1, 4], [1, 4, 5]]) hD (by kernel_rfl)
      simp only [List.mem_cons, List.not_mem_nil, or_false] at hD
      rcases hD with rfl | rfl | rfl | rfl | rfl | rfl | rfl | rfl
      all_goals refine TOps.makeT triV natV rfl (fun b12 => ?_)
      all_goals refine TOps.fin (Nrm.drawM {x with bm := b12} ?_ rfl (Sp.le (by repeat (first | exact Sp.refl _ | exact Sp.sub (by assumption) | refine Sp.cons (by repeat (first | exact Pick.here | apply Pick.there)) ?_ | exact Sp.nil | apply Sp.skip))))
      all_goals (intro j hj hcj; rcases j with _|_|_|_|_|_|_|_|_|_|j <;> first | rfl | exact absurd rfl hj | exact absurd hcj (by decide))
    · refine ⟨fun x S D he hw hd hD _ => ?_, trivial⟩
      obtain ⟨h1, h4, h5, h6, -⟩ := hd
      refine TOps.buildStruct (vs := [(0, _), (1, _), (3, _), (4, _)]) (xs := [_, _, _, _, _]) [(0, 1), (1, 1), (2, 1), (3, 1), (4, 1)] Try.underlying115 ti115 (fun w => by simp) ⟨rfl, h1, rfl, h4, rfl, h5, rfl, h6, trivial⟩ rfl rfl ?_
      exact TOps.fdM x rfl rfl
    · refine ⟨fun x S D he hw hd hD _ => ?_, trivial⟩
      obtain ⟨h7, -⟩ := hd
      replace hD := mem_of_eq (L' := [[1, 4, 5, 6]]) hD (by kernel_rfl)
      simp only [List.mem_cons, List.not_mem_nil, or_false] at hD
      rcases hD with rfl
      all_goals refine TOps.boxN h7 ti115 rfl rfl (fun b14 => ?_)
      all_goals refine TOps.fin (Nrm.drawM {x with bt := b14} ?_ rfl (Sp.le (by repeat (first | exact Sp.refl _ | exact Sp.sub (by assumption) | refine Sp.cons (by repeat (first | exact Pick.here | apply Pick.there)) ?_ | exact Sp.nil | apply Sp.skip))))
      all_goals (intro j hj hcj; rcases j with _|_|_|_|_|_|_|_|_|_|j <;> first | rfl | exact absurd rfl hj | exact absurd hcj (by decide))
    · refine ⟨fun x S D he hw hd hD _ => ?_, trivial⟩
      obtain ⟨h8, h1, h0, _, h2, h3, h4, h5, h6, h7, _, -⟩ := hd
      refine TOps.assign h8 rfl ?_
      exact TOps.fdM x rfl rfl
    ) (fun w => ?_)
  refine Nrm.le (H' := row (some w.pa) 3 1 n (List.replicate n (natV 0)) :: row w.oa.1 3 1 w.oc (nats o) :: tmap dnV natV w.bu [] :: tmap triV natV w.bm [] :: row (some w.bt) 115 5 1 [slV w.oa.1 0 (0 + n) w.oc, slV (some w.pa) 0 n n, slV none 0 0 0, .map (some w.bu), .map (some w.bm)] :: H) (Sp.le (by repeat (first | exact Sp.refl _ | exact Sp.sub (by assumption) | refine Sp.cons (by repeat (first | exact Pick.here | apply Pick.there)) ?_ | exact Sp.nil | apply Sp.skip))) ?_
  rw [Nat.zero_add]
  refine Nrm.next ?_
  refine Tri.seq ?_
  refine Tri.seq (Tri.region ?_)
  refine TOps.move rfl rfl ?_
  refine TOps.len rfl Try.underlying53 rfl ?_
  refine TOps.move rfl rfl ?_
  refine TOps.next ?_
  refine Tri.range (X := List Nat) (fun zs k => [(3, .pointer (some ⟨w.bt, 0, none⟩)), (15, slV xa xo n xc sp)]) (fun zs k => row (some w.pa) 3 1 n (nats zs) :: row w.oa.1 3 1 w.oc (nats o) :: tmap dnV natV w.bu [] :: tmap triV natV w.bm [] :: row (some w.bt) 115 5 1 [slV w.oa.1 0 n w.oc, slV (some w.pa) 0 n n, slV none 0 0 0, .map (some w.bu), .map (some w.bm)] :: H) (fun zs k => PlOk n o zs k) (by omega) rfl rfl rfl (fun _ _ => ⟨rfl, rfl, rfl, rfl⟩) (List.replicate n 0) ⟨by simp, fun j hj => absurd hj (Nat.not_lt_zero _)⟩ ⟨rfl, rfl, trivial⟩ (Le.rowEq (by simp)) (fun k zs hlt hp => ?_) (fun zs ac wc hp hS hM => ?_)
  · skip
    obtain ⟨xb, hxa, hsp, hxb⟩ := hr.at (i := k) (by simp; omega)
    have hxk : (nats o)[k]'(by simp; omega) = natV (o.getD k 0) := by simp [hol, hlt]
    rw [hxk] at hxb
    have hok := (ho.op k hlt).1
    have hzl := hp.1
    subst hxa hsp
    refine Tri.seq (Tri.region ?_)
    refine TOps.move rfl rfl ?_
    refine TOps.indexAddr (off' := xo + k) rfl rfl Try.underlying53 ti3 (by omega) (by omega) (by simp) rfl ?_
    refine TOps.load1 rfl ti3 (hxb.le (Le.drop (Le.drop (Le.drop (Le.drop (Le.drop (Le.refl _))))))) rfl ?_
    refine TOps.assign rfl rfl ?_
    refine TOps.assign rfl rfl ?_
    refine TOps.next ?_
    refine Tri.region ?_
    refine TOps.move rfl rfl ?_
    refine TOps.nilCheck rfl rfl ?_
    first | refine TOps.fieldB 1 rfl Try.underlying115 rfl rfl ti53 rfl rfl rfl ?_ | refine TOps.fieldN 1 rfl Try.underlying115 rfl rfl ti53 rfl rfl rfl ?_
    refine TOps.load1 rfl ti53 (by first | exact Rd.lit (by repeat (first | exact List.Mem.head _ | apply List.Mem.tail)) rfl | (repeat (first | assumption | exact Rd.fld (by assumption) 1 rfl | apply Rd.up))) rfl ?_
    refine TOps.move rfl rfl ?_
    refine TOps.move rfl rfl ?_
    refine TOps.indexAddr (off' := o.getD k 0) rfl rfl Try.underlying53 ti3 (by omega) (by omega) (by simp) rfl ?_
    refine TOps.store1 rfl rfl ti3 rfl rfl Upd.here (by rw [List.length_map]; omega) ?_
    refine TOps.fin ?_
    refine Nrm.body (zs.set (o.getD k 0) k) (hp.step ho hlt) ⟨rfl, rfl, rfl, rfl, trivial⟩ (Le.rowEq (by rw [nats_set]))
  have hpl := hp.all ho
  rw [hpl] at hM
  refine Nrm.of hS hM ?_
  refine Nrm.next ?_
  refine Tri.seq (Tri.region ?_)
  refine TOps.move rfl rfl ?_
  refine TOps.assign rfl rfl ?_
  refine TOps.next ?_
  refine Tri.ret1 (H' := tabE ⟨n, o, pl, 115, 123, 3, w.bt, w.bu, w.bm, w.pa, w.oa.1, w.oc⟩ Tb.new :: H) Try.results22 (fun _ _ h => h) (.tmp rfl) ?_ ⟨_, rfl, rfl, rfl, ⟨ho, hn24, fun hne => w.oa.2 (fun e => hne (List.map_eq_nil_iff.1 e))⟩, ⟨rfl, rfl, rfl⟩, rfl, rfl⟩
  refine ((Le.addNil (E := 123) (sz := 3)).trans ?_).trans (Le.closeT (D := ⟨n, o, pl, 115, 123, 3, w.bt, w.bu, w.bm, w.pa, w.oa.1, w.oc⟩) (t := Tb.new) rfl rfl rfl)
  exact (Sp.le (by repeat (first | exact Sp.refl _ | exact Sp.sub (by assumption) | refine Sp.cons (by repeat (first | exact Pick.here | apply Pick.there)) ?_ | exact Sp.nil | apply Sp.skip)))
end Go.Proofs
