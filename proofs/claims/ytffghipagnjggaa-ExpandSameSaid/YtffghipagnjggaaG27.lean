import Derived.Test.YtffghipagnjggaaF27
import Derived.Test.YtffghipagnjggaaGL86
namespace Go.Proofs
open Go.GL
set_option linter.unusedVariables false
set_option linter.unusedSimpArgs false
theorem rimage_g {H : List Ent} {fv : Value} {F : Fm} {v : Nat} (hF : RF H fv F) (hv : F.vars = v) (hv24 : v ≤ 24) {ia isp : Option Nat} {io ic L : Nat} {I : List Int} (hI : RInts H ia io I isp) (hL : I.length = L) (hL2 : L ≤ 1000) {P : List Int} {a : Int} (ha : 0 ≤ a ∧ a.toNat < v + P.length) (hev : ∀ i, i < v → a.toNat = i → True) (hPL : P.length ≤ L) (hP : ∀ i, i < P.length → I.getD i 0 = P.getD i 0) :
    Gives Try.prog 47 [fv, slV ia io L ic isp, .int .i64 a] H (R1 (.int .i64 (if a < v then a else P.getD (a.toNat - v) 0)) H) := by
  obtain ⟨na, off, cap, nsp, rfl, hN⟩ := hF
  rw [hv]
  refine Gives.enter Try.func47 rfl (by exact Try.ntmps47) rfl ?_
  refine Tri.seq (Tri.region ?_)
  refine TOps.boxN rfl ti24 rfl rfl (fun b3 => ?_)
  refine TOps.assign rfl rfl ?_
  refine TOps.next ?_
  refine Tri.seq ?_
  refine Tri.seq (Tri.region ?_)
  refine TOps.move rfl rfl ?_
  refine TOps.field0 rfl Try.underlying24 rfl rfl ti3 rfl rfl rfl ?_
  refine TOps.load1 rfl ti3 (by first | exact Rd.lit (by repeat (first | exact List.Mem.head _ | apply List.Mem.tail)) rfl | (repeat (first | assumption | exact Rd.fld (by assumption) 0 rfl | apply Rd.up))) rfl ?_
  refine TOps.lss rfl rfl rfl ?_
  refine TOps.next ?_
  refine Tri.cond rfl (fun hc1 => ?_) (fun hc1 => ?_)
  · try simp only [decide_eq_true_eq, decide_eq_false_iff_not, Bool.and_eq_true, Bool.or_eq_true, Bool.not_eq_true', Bool.and_eq_false_iff, Bool.or_eq_false_iff, Bool.not_eq_false', Int.not_lt, Int.not_le, ne_eq, Decidable.not_not, Option.isSome_iff_ne_none, Option.isNone_iff_eq_none] at hc1
    refine Tri.seq (Tri.region ?_)
    refine TOps.move rfl rfl ?_
    refine TOps.assign rfl rfl ?_
    refine TOps.next ?_
    refine Tri.ret1 (H' := H) Try.results47 (fun _ _ h => h) (.tmp rfl) (Le.drop (Le.refl _)) ⟨by rw [if_pos (by omega)], rfl⟩
  try simp only [decide_eq_true_eq, decide_eq_false_iff_not, Bool.and_eq_true, Bool.or_eq_true, Bool.not_eq_true', Bool.and_eq_false_iff, Bool.or_eq_false_iff, Bool.not_eq_false', Int.not_lt, Int.not_le, ne_eq, Decidable.not_not, Option.isSome_iff_ne_none, Option.isNone_iff_eq_none] at hc1
  obtain ⟨ib, rfl, rfl, hi⟩ := hI.at (i := a.toNat - v) (by omega)
  have hg := hP (a.toNat - v) (by omega)
  rw [show I.getD (a.toNat - v) 0 = I[a.toNat - v] from by simp [List.getD_eq_getElem?_getD, show a.toNat - v < I.length by omega]] at hg
  rw [hg] at hi
  refine Tri.fin ?_
  refine Nrm.next ?_
  refine Tri.seq (Tri.region ?_)
  refine TOps.move rfl rfl ?_
  refine TOps.move rfl rfl ?_
  refine TOps.field0 rfl Try.underlying24 rfl rfl ti3 rfl rfl rfl ?_
  refine TOps.load1 rfl ti3 (by first | exact Rd.lit (by repeat (first | exact List.Mem.head _ | apply List.Mem.tail)) rfl | (repeat (first | assumption | exact Rd.fld (by assumption) 0 rfl | apply Rd.up))) rfl ?_
  refine TOps.sub rfl rfl (wrapI (by omega) (by omega)) rfl ?_
  refine TOps.indexAddr (off' := io + (a.toNat - v)) rfl rfl Try.underlying41 ti3 (by omega) (by omega) (by omega) rfl ?_
  refine TOps.load1 rfl ti3 (by first | exact Rd.lit (by repeat (first | exact List.Mem.head _ | apply List.Mem.tail)) rfl | (repeat (first | assumption | apply Rd.up))) rfl ?_
  refine TOps.assign rfl rfl ?_
  refine TOps.next ?_
  refine Tri.ret1 (H' := H) Try.results47 (fun _ _ h => h) (.tmp rfl) (Le.drop (Le.refl _)) ⟨by rw [if_neg (by omega)], rfl⟩
set_option maxHeartbeats 4000000 in
theorem rvote_g {bb pb N cap : Nat} {ab : Nat} {v : Int} {args : List Int} (hv : 0 ≤ v ∧ v ≤ 24) (hN : args.length = N) (hN2 : N ≤ 16) (hcap : N ≤ cap) (hcap2 : cap ≤ 9223372036854775807) (hsm : ∀ a ∈ args, Small a) :
    ∀ (n : Nat), n ≤ N → 1 ≤ n → ∀ (i : Nat), i + n = N → ∀ (ii : Int), ii = (i : Int) → ∀ (k : Int), 1 ≤ k → k ≤ n → ∀ (HB : List Ent), RInts HB (some ab) 0 args none → ∀ (m : Made) (ms : MS) (s : BS) (qa : Option Nat) (qc : Nat), (m ≠ [] → ∃ b, qa = some b) → s.ok ms.ns → ms.Ok → MadeOk m → MadeU m → MadeB m →
    Gives Try.prog 48 [.pointer (some ⟨bb, 0, none⟩), slV (some ab) 0 N cap, .int .i64 k, .int .i64 ii, .pointer (some ⟨pb, 0, none⟩)] (mkE 69 43 bb v ms s (row (some pb) 79 1 1 [slV qa 0 m.length qc] :: row qa 85 3 qc (places m) :: HB)) (RVoteR 69 43 85 79 bb v pb (leastM v args n k m ms) HB) := by
  intro n
  induction n
  case zero => intro _ h; omega
  rename_i n ih
  intro hnN _ i hiN ii hii k hk1 hk2 HB ha m ms s qa qc hqa hs ho hmo hmu hmb
  subst hii
  have hi : args.length - (n + 1) = i := by omega
  have hiN' : i < args.length := by omega
  have hml := hmb.len hmu
  have up2 : ∀ e1 e2 : Ent, Le (e1 :: e2 :: HB) HB := fun e1 e2 => Le.drop (Le.drop (Le.refl _))
  have rP : ∀ (m : Made) (qa : Option Nat) (qc : Nat), Rd (row (some pb) 79 1 1 [slV qa 0 m.length qc] :: row qa 85 3 qc (places m) :: HB) pb 0 [slV qa 0 m.length qc] := fun m qa qc => Rd.all (by repeat (first | exact List.Mem.head _ | apply List.Mem.tail))
  refine Gives.enter Try.func48 rfl (by exact Try.ntmps48) rfl ?_
  refine Tri.seq (Tri.region ?_)
  refine TOps.assign rfl rfl ?_
  refine TOps.next ?_
  refine Tri.seq ?_
  refine Tri.seq (Tri.region ?_)
  refine TOps.move rfl rfl ?_
  refine TOps.nilCheck rfl rfl ?_
  refine TOps.load1 rfl ti79 ((rP _ _ _).le mkE_le) rfl ?_
  refine TOps.len rfl Try.underlying79 rfl ?_
  refine TOps.move rfl rfl ?_
  refine TOps.next ?_
  refine Tri.range (X := Unit) (fun x j => [(0, .pointer (some ⟨bb, 0, none⟩)), (1, slV (some ab) 0 N cap), (2, .int .i64 k), (3, .int .i64 i), (4, .pointer (some ⟨pb, 0, none⟩)), (17, slV qa 0 m.length qc)]) (fun x j => mkE 69 43 bb v ms s (row (some pb) 79 1 1 [slV qa 0 (m).length qc] :: row qa 85 3 qc (places m) :: HB)) (fun x j => ∀ q ∈ m.take j, ¬ (q.1.1 = k ∧ q.1.2 = (i : Int))) (by omega) rfl rfl rfl (fun _ _ => ⟨rfl, rfl, rfl, rfl⟩) () (by simp) ⟨rfl, rfl, rfl, rfl, rfl, rfl, trivial⟩ (by repeat (first | exact Le.refl _ | assumption | apply Le.drop)) (fun j x hltj hpj => ?_) (fun x ac wc hpj hS hM => ?_)
  · skip
    obtain ⟨qb, rfl⟩ := hqa (by intro e; rw [e] at hltj; simp at hltj)
    have hqS := hmb _ (List.getElem_mem hltj)
    have hqO := (hmo _ (List.getElem_mem hltj)).2.2; unfold Small at hqO
    have hrq : Rd (row (some pb) 79 1 1 [slV (some qb) 0 m.length qc] :: row (some qb) 85 3 qc (places m) :: HB) qb (j * 3) [.int .i64 m[j].1.1, .int .i64 m[j].1.2, .int .i64 m[j].2] := Rd.ofRow (List.Mem.tail _ (List.Mem.head _)) _ _ (fun t u hu => places_get m j m[j] (List.getElem?_eq_getElem hltj) t u hu)
    refine Tri.seq (Tri.region ?_)
    refine TOps.indexAddr (off' := j * 3) rfl rfl Try.underlying79 ti85 (by omega) (by omega) (by omega) rfl ?_
    refine TOps.loadN (vs := [.int .i64 m[j].1.1, .int .i64 m[j].1.2, .int .i64 m[j].2]) rfl ti85 (hrq.le mkE_le) rfl rfl ?_
    refine TOps.alloc ti85 rfl (fun b12 => ?_)
    refine TOps.storeN rfl rfl ti85 rfl rfl (by repeat (first | exact Upd.here | apply Upd.there)) (by first | decide | (simp; done) | (simp; omega)) ?_
    refine TOps.next ?_
    refine Tri.seq (Tri.region ?_)
    refine TOps.field0 rfl Try.underlying85 rfl rfl ti3 rfl rfl rfl ?_
    refine TOps.load1 rfl ti3 (by first | exact Rd.lit (by repeat (first | exact List.Mem.head _ | apply List.Mem.tail)) rfl | (repeat (first | assumption | exact Rd.fld (by assumption) 0 rfl | apply Rd.up))) rfl ?_
    refine TOps.move rfl rfl ?_
    refine TOps.eqlI rfl rfl rfl ?_
    refine TOps.move rfl rfl ?_
    refine' TOps.andB 4 rfl rfl rfl rfl (fun hg4_4 => ?_) ?_; rotate_left
    · have hg4_4' := hg4_4
      try simp only [decide_eq_true_eq, decide_eq_false_iff_not, Bool.and_eq_true, Bool.or_eq_true, Bool.not_eq_true', Bool.and_eq_false_iff, Bool.or_eq_false_iff, Bool.not_eq_false', Int.not_lt, Int.not_le, ne_eq, Decidable.not_not] at hg4_4'
      refine TOps.strip 4 true rfl rfl hg4_4 rfl ?_
      first | refine TOps.fieldB 1 rfl Try.underlying85 rfl rfl ti3 rfl rfl rfl ?_ | refine TOps.fieldN 1 rfl Try.underlying85 rfl rfl ti3 rfl rfl rfl ?_
      refine TOps.load1 rfl ti3 (by first | exact Rd.lit (by repeat (first | exact List.Mem.head _ | apply List.Mem.tail)) rfl | (repeat (first | assumption | exact Rd.fld (by assumption) 1 rfl | apply Rd.up))) rfl ?_
      refine TOps.move rfl rfl ?_
      refine TOps.eqlI rfl rfl rfl ?_
      refine TOps.blk rfl (by repeat (first | exact Ext.refl _ | refine Ext.cons rfl ?_)) (by repeat (first | exact Le.refl _ | apply Le.drop))
    refine TOps.next ?_
    refine Tri.cond rfl (fun hc1 => ?_) (fun hc1 => ?_)
    · try simp only [decide_eq_true_eq, decide_eq_false_iff_not, Bool.and_eq_true, Bool.or_eq_true, Bool.not_eq_true', Bool.and_eq_false_iff, Bool.or_eq_false_iff, Bool.not_eq_false', Int.not_lt, Int.not_le, ne_eq, Decidable.not_not, Option.isSome_iff_ne_none, Option.isNone_iff_eq_none] at hc1
      have hf := findM_at (k := k) (i := (i : Int)) m j hltj hpj hc1
      have hR := leastM_early (v := v) (ms := ms) hi (.inl (by rw [hf]; simp))
      rw [hf] at hR
      refine Tri.seq (Tri.region ?_)
      first | refine TOps.fieldB 2 rfl Try.underlying85 rfl rfl ti3 rfl rfl rfl ?_ | refine TOps.fieldN 2 rfl Try.underlying85 rfl rfl ti3 rfl rfl rfl ?_
      refine TOps.load1 rfl ti3 (by first | exact Rd.lit (by repeat (first | exact List.Mem.head _ | apply List.Mem.tail)) rfl | (repeat (first | assumption | exact Rd.fld (by assumption) 2 rfl | apply Rd.up))) rfl ?_
      refine TOps.assign rfl rfl ?_
      refine TOps.next ?_
      refine Tri.ret1 (H' := mkE 69 43 bb v ms s (row (some pb) 79 1 1 [slV (some qb) 0 (m).length qc] :: row (some qb) 85 3 qc (places m) :: HB)) Try.results48 (fun _ _ h => h) (.tmp rfl) (Le.drop (Le.refl _)) ⟨s, some qb, qc, by rw [hR]; rfl, by rw [hR]; exact hs, by rw [hR]; exact hqa, by rw [hR]⟩
    try simp only [decide_eq_true_eq, decide_eq_false_iff_not, Bool.and_eq_true, Bool.or_eq_true, Bool.not_eq_true', Bool.and_eq_false_iff, Bool.or_eq_false_iff, Bool.not_eq_false', Int.not_lt, Int.not_le, ne_eq, Decidable.not_not, Option.isSome_iff_ne_none, Option.isNone_iff_eq_none] at hc1
    refine Tri.fin ?_
    refine Nrm.body () (take_hit hltj hpj (by omega)) ⟨rfl, rfl, rfl, rfl, rfl, rfl, rfl, rfl, trivial⟩ (by repeat (first | exact Le.refl _ | assumption | apply Le.drop))
  rw [List.take_length] at hpj
  have hfn : findM k (i : Int) m = none := findM_none m (fun q hq => hpj q hq)
  refine Nrm.of hS hM ?_
  refine Nrm.next ?_
  refine Tri.seq ?_
  refine Tri.seq (Tri.region ?_)
  refine TOps.move rfl rfl ?_
  refine TOps.nilCheck rfl rfl ?_
  first | refine TOps.fieldB 2 rfl Try.underlying69 rfl rfl ti4 rfl rfl rfl ?_ | refine TOps.fieldN 2 rfl Try.underlying69 rfl rfl ti4 rfl rfl rfl ?_
  refine TOps.load1 rfl ti4 (Rd.fld mkE_rd 2 rfl) rfl ?_
  refine TOps.next ?_
  refine Tri.cond rfl (fun hc2 => ?_) (fun hc2 => ?_)
  · try simp only [decide_eq_true_eq, decide_eq_false_iff_not, Bool.and_eq_true, Bool.or_eq_true, Bool.not_eq_true', Bool.and_eq_false_iff, Bool.or_eq_false_iff, Bool.not_eq_false', Int.not_lt, Int.not_le, ne_eq, Decidable.not_not, Option.isSome_iff_ne_none, Option.isNone_iff_eq_none] at hc2
    have hR : leastM v args (n + 1) k m ms = _ := leastM_early hi (.inr hc2)
    rw [hfn] at hR
    refine Tri.seq (Tri.region ?_)
    refine TOps.assign rfl rfl ?_
    refine TOps.next ?_
    refine Tri.ret1 (H' := mkE 69 43 bb v ms s (row (some pb) 79 1 1 [slV qa 0 (m).length qc] :: row qa 85 3 qc (places m) :: HB)) Try.results48 (fun _ _ h => h) (.tmp rfl) (Le.refl _) ⟨s, qa, qc, by rw [hR]; rfl, by rw [hR]; exact hs, by rw [hR]; exact hqa, by rw [hR]⟩
  try simp only [decide_eq_true_eq, decide_eq_false_iff_not, Bool.and_eq_true, Bool.or_eq_true, Bool.not_eq_true', Bool.and_eq_false_iff, Bool.or_eq_false_iff, Bool.not_eq_false', Int.not_lt, Int.not_le, ne_eq, Decidable.not_not, Option.isSome_iff_ne_none, Option.isNone_iff_eq_none] at hc2
  have hfu : ms.full = false := by simpa using hc2
  have hdl : (args.drop i).length = N - i := by rw [List.length_drop]; omega
  have hdr : ∀ e1 e2 : Ent, RInts (e1 :: e2 :: HB) (some ab) i (args.drop i) none := fun e1 e2 => by
    have := RdS.drop (RdS.le ha (up2 e1 e2)) i
    rw [Nat.zero_add] at this
    unfold RInts ints
    rw [List.map_drop]
    exact this
  have hbif : (bif cap == i then 0 else 0 + i * 1) = i := by rw [show (cap == i) = false from beq_eq_false_iff_ne.2 (by omega)]; simp
  refine Tri.fin ?_
  refine Nrm.next ?_
  refine Tri.seq (Tri.region ?_)
  refine TOps.assign rfl rfl ?_
  refine TOps.next ?_
  refine Tri.seqMid (X := (BS × Option Nat × Nat) × Int × Made × MS) (fun y => [(0, .pointer (some ⟨bb, 0, none⟩)), (1, slV (some ab) 0 N cap), (2, .int .i64 k), (3, .int .i64 i), (4, .pointer (some ⟨pb, 0, none⟩)), (13, .int .i64 y.2.1)]) (fun y => mkE 69 43 bb v y.2.2.2 y.1.1 (row (some pb) 79 1 1 [slV y.1.2.1 0 (y.2.2.1).length y.1.2.2] :: row y.1.2.1 85 3 y.1.2.2 (places y.2.2.1) :: HB)) (fun y => RMid v args n k i m ms y) ?_ (fun y hmid => ?_)
  · skip
    refine Tri.block ?_
    refine Tri.seq (Tri.region ?_)
    refine TOps.move rfl rfl ?_
    refine TOps.eqlI rfl rfl rfl ?_
    refine TOps.assign rfl rfl ?_
    refine TOps.next ?_
    refine Tri.cond rfl (fun hc3 => ?_) (fun hc3 => ?_)
    · try simp only [decide_eq_true_eq, decide_eq_false_iff_not, Bool.and_eq_true, Bool.or_eq_true, Bool.not_eq_true', Bool.and_eq_false_iff, Bool.or_eq_false_iff, Bool.not_eq_false', Int.not_lt, Int.not_le, ne_eq, Decidable.not_not, Option.isSome_iff_ne_none, Option.isNone_iff_eq_none] at hc3
      refine Tri.region ?_
      refine TOps.move rfl rfl ?_
      refine TOps.move rfl rfl ?_
      refine TOps.move rfl rfl ?_
      refine TOps.sliceLo (l := i) rfl rfl Try.underlying41 ti3 (by omega) rfl ?_
      rw [hbif]
      refine TOps.call (vs := [_, _, _]) Try.call53 ⟨rfl, rfl, rfl, trivial⟩ (rshort_g (args := args.drop i) hs hv ho hdl (by omega) (hdr _ _) 3) rfl ?_
      rintro _ _ ⟨s', rfl, hs', rfl⟩
      have hpX : RMid v args n k i m ms ((s', qa, qc), (gateM v 3 (args.drop i) ms).1, m, (gateM v 3 (args.drop i) ms).2) := ⟨hs', hqa, hmb, hmu, leastM_or hi hfn hfu hc3⟩
      refine TOps.assign rfl rfl ?_
      refine TOps.fin ?_
      refine Nrm.unB ?_
      refine Nrm.mid _ hpX (by exact ⟨rfl, rfl, rfl, rfl, rfl, rfl, trivial⟩) (by repeat (first | exact Le.refl _ | assumption | apply Le.drop))
    try simp only [decide_eq_true_eq, decide_eq_false_iff_not, Bool.and_eq_true, Bool.or_eq_true, Bool.not_eq_true', Bool.and_eq_false_iff, Bool.or_eq_false_iff, Bool.not_eq_false', Int.not_lt, Int.not_le, ne_eq, Decidable.not_not, Option.isSome_iff_ne_none, Option.isNone_iff_eq_none] at hc3
    refine Tri.seq (Tri.region ?_)
    refine TOps.move rfl rfl ?_
    refine TOps.move rfl rfl ?_
    refine TOps.len rfl Try.underlying41 rfl ?_
    refine TOps.move rfl rfl ?_
    refine TOps.sub rfl rfl (wrapI (by omega) (by omega)) rfl ?_
    refine TOps.eqlI rfl rfl rfl ?_
    refine TOps.assign rfl rfl ?_
    refine TOps.next ?_
    refine Tri.cond rfl (fun hc4 => ?_) (fun hc4 => ?_)
    · try simp only [decide_eq_true_eq, decide_eq_false_iff_not, Bool.and_eq_true, Bool.or_eq_true, Bool.not_eq_true', Bool.and_eq_false_iff, Bool.or_eq_false_iff, Bool.not_eq_false', Int.not_lt, Int.not_le, ne_eq, Decidable.not_not, Option.isSome_iff_ne_none, Option.isNone_iff_eq_none] at hc4
      refine Tri.region ?_
      refine TOps.move rfl rfl ?_
      refine TOps.move rfl rfl ?_
      refine TOps.move rfl rfl ?_
      refine TOps.sliceLo (l := i) rfl rfl Try.underlying41 ti3 (by omega) rfl ?_
      rw [hbif]
      refine TOps.call (vs := [_, _, _]) Try.call53 ⟨rfl, rfl, rfl, trivial⟩ (rshort_g (args := args.drop i) hs hv ho hdl (by omega) (hdr _ _) 2) rfl ?_
      rintro _ _ ⟨s', rfl, hs', rfl⟩
      have hpX : RMid v args n k i m ms ((s', qa, qc), (gateM v 2 (args.drop i) ms).1, m, (gateM v 2 (args.drop i) ms).2) := ⟨hs', hqa, hmb, hmu, leastM_and hi hfn hfu hc3 (by omega)⟩
      refine TOps.assign rfl rfl ?_
      refine TOps.fin ?_
      refine Nrm.unB ?_
      refine Nrm.mid _ hpX (by exact ⟨rfl, rfl, rfl, rfl, rfl, rfl, trivial⟩) (by repeat (first | exact Le.refl _ | assumption | apply Le.drop))
    try simp only [decide_eq_true_eq, decide_eq_false_iff_not, Bool.and_eq_true, Bool.or_eq_true, Bool.not_eq_true', Bool.and_eq_false_iff, Bool.or_eq_false_iff, Bool.not_eq_false', Int.not_lt, Int.not_le, ne_eq, Decidable.not_not, Option.isSome_iff_ne_none, Option.isNone_iff_eq_none] at hc4
    have h1L := leastM_ok (v := v) hv hsm (by omega) n (by omega) (k - 1) m ms (by omega) (by omega) hmo ho
    obtain ⟨u1L, g1L⟩ := leastM_u (v := v) (args := args) n (by omega) (k - 1) m ms hmu (fun _ => trivial)
    have b1L := leastM_b (v := v) (args := args) (by omega) n (by omega) (k - 1) m ms (by omega) (by omega) hmb
    obtain ⟨r1, hr1⟩ : ∃ r, leastM v args n (k - 1) m ms = r := ⟨_, rfl⟩
    rw [hr1] at h1L u1L g1L b1L
    have o1 := h1L.gr.ok ho
    refine Tri.seq (Tri.region ?_)
    refine TOps.move rfl rfl ?_
    refine TOps.move rfl rfl ?_
    refine TOps.move rfl rfl ?_
    refine TOps.sub rfl rfl (wrapI (by omega) (by omega)) rfl ?_
    refine TOps.move rfl rfl ?_
    refine TOps.add rfl rfl (wrapI (by omega) (by omega)) rfl ?_
    refine TOps.move rfl rfl ?_
    refine TOps.call (vs := [_, _, _, _, _]) Try.call48 ⟨rfl, rfl, rfl, rfl, rfl, trivial⟩ (ih (by omega) (by omega) (i + 1) (by omega) _ (by omega) (k - 1) (by omega) (by omega) HB ha m ms s qa qc hqa hs ho hmo hmu hmb) rfl ?_
    rintro _ _ ⟨s1, qa1, qc1, rfl, hs1, hqa1, rfl⟩
    rw [hr1] at hs1 hqa1 ⊢
    obtain ⟨r2, hr2⟩ : ∃ r, addM v ⟨2, 0, [args.getD i 0, r1.1]⟩ r1.2.2 = r := ⟨_, rfl⟩
    have o2 : r2.2.Ok := by rw [← hr2]; exact (addM_gr _ _ _).ok o1
    have h3L := leastM_ok (v := v) hv hsm (by omega) n (by omega) k r1.2.1 r2.2 (by omega) (by omega) h1L.md o2
    obtain ⟨u3L, g3L⟩ := leastM_u (v := v) (args := args) n (by omega) k r1.2.1 r2.2 u1L (fun _ => trivial)
    have b3L := leastM_b (v := v) (args := args) (by omega) n (by omega) k r1.2.1 r2.2 (by omega) (by omega) b1L
    obtain ⟨r3, hr3⟩ : ∃ r, leastM v args n k r1.2.1 r2.2 = r := ⟨_, rfl⟩
    rw [hr3] at h3L u3L g3L b3L
    have o3 := h3L.gr.ok o2
    obtain ⟨r4, hr4⟩ : ∃ r, addM v ⟨3, 0, [r2.1, r3.1]⟩ r3.2.2 = r := ⟨_, rfl⟩
    obtain ⟨ab', e', _, hxi⟩ := RInts.at ha (i := i) hiN'
    obtain rfl := Option.some.inj e'
    have hgd : args.getD i 0 = args[i] := by simp [List.getD_eq_getElem?_getD, hiN']
    rw [← hgd, Nat.zero_add] at hxi
    have hR := leastM_two hi hfn hfu hc3 (by omega) hr1 hr2 hr3 hr4
    refine TOps.assign rfl rfl ?_
    refine TOps.next ?_
    refine Tri.seq (Tri.region ?_)
    refine TOps.move rfl rfl ?_
    refine TOps.move rfl rfl ?_
    refine TOps.move rfl rfl ?_
    refine TOps.indexAddr (off' := i) rfl rfl Try.underlying41 ti3 (by omega) (by omega) (by simp) rfl ?_
    refine TOps.load1 rfl ti3 (hxi.le (mkE_le.trans (up2 _ _))) rfl ?_
    refine TOps.move rfl rfl ?_
    refine TOps.buildSlice (vs := [_, _]) (xs := [_, _]) Try.underlying41 ti3 ⟨rfl, rfl, rfl, rfl, trivial⟩ rfl rfl rfl rfl rfl rfl (by decide) rfl (fun b54 => ?_)
    refine TOps.call (vs := [_, _, _, _]) Try.call50 ⟨rfl, rfl, rfl, rfl, trivial⟩ (rnode27_g (A := [row (some b54) 3 1 2 [.int .i64 (args.getD i 0), .int .i64 r1.1]]) (args := [args.getD i 0, r1.1]) (m := 2) hs1 hv o1 rfl (by omega) (RdS.ofRowS (List.Mem.head _)) 2 0) rfl ?_
    rintro _ _ ⟨s2, rfl, hs2, rfl⟩
    rw [hr2] at hs2 ⊢
    refine TOps.assign rfl rfl ?_
    refine TOps.next ?_
    refine Tri.region ?_
    refine TOps.move rfl rfl ?_
    refine TOps.move rfl rfl ?_
    refine TOps.move rfl rfl ?_
    refine TOps.move rfl rfl ?_
    refine TOps.move rfl rfl ?_
    refine TOps.move rfl rfl ?_
    refine TOps.add rfl rfl (wrapI (by omega) (by omega)) rfl ?_
    refine TOps.move rfl rfl ?_
    refine TOps.call (vs := [_, _, _, _, _]) Try.call48 ⟨rfl, rfl, rfl, rfl, rfl, trivial⟩ (ih (by omega) (by omega) (i + 1) (by omega) _ (by omega) k (by omega) (by omega) HB ha r1.2.1 r2.2 s2 qa1 qc1 hqa1 hs2 o2 h1L.md u1L b1L) rfl ?_
    rintro _ _ ⟨s3, qa3, qc3, rfl, hs3, hqa3, rfl⟩
    rw [hr3] at hs3 hqa3 ⊢
    refine TOps.buildSlice (vs := [_, _]) (xs := [_, _]) Try.underlying41 ti3 ⟨rfl, rfl, rfl, rfl, trivial⟩ rfl rfl rfl rfl rfl rfl (by decide) rfl (fun b65 => ?_)
    refine TOps.call (vs := [_, _, _, _]) Try.call50 ⟨rfl, rfl, rfl, rfl, trivial⟩ (rnode27_g (A := [row (some b65) 3 1 2 [.int .i64 r2.1, .int .i64 r3.1]]) (args := [r2.1, r3.1]) (m := 2) hs3 hv o3 rfl (by omega) (RdS.ofRowS (List.Mem.head _)) 3 0) rfl ?_
    rintro _ _ ⟨s4, rfl, hs4, rfl⟩
    rw [hr4] at hs4 ⊢
    have hpX : RMid v args n k i m ms ((s4, qa3, qc3), r4.1, r3.2.1, r4.2) := ⟨hs4, hqa3, b3L, u3L, hR⟩
    refine TOps.assign rfl rfl ?_
    refine TOps.fin ?_
    refine Nrm.unB ?_
    refine Nrm.mid _ hpX (by exact ⟨rfl, rfl, rfl, rfl, rfl, rfl, trivial⟩) (by repeat (first | exact Le.refl _ | assumption | apply Le.drop))
  refine Tri.seq (Tri.region ?_)
  obtain ⟨⟨z, za, zc⟩, x0, m1, ms1⟩ := y
  obtain ⟨hz1, hza, hzb, hzu, hRy⟩ := hmid
  dsimp only at hz1 hza hzb hzu hRy ⊢
  have hzl := hzb.len hzu
  refine TOps.move rfl rfl ?_
  refine TOps.move rfl rfl ?_
  refine TOps.nilCheck rfl rfl ?_
  refine TOps.load1 rfl ti79 ((rP _ _ _).le mkE_le) rfl ?_
  refine TOps.move rfl rfl ?_
  refine TOps.move rfl rfl ?_
  refine TOps.move rfl rfl ?_
  refine TOps.buildStruct (vs := [(0, _), (1, _), (2, _)]) (xs := [_, _, _]) [(0, 1), (1, 1), (2, 1)] Try.underlying85 ti85 (fun w => by simp) ⟨rfl, rfl, rfl, rfl, rfl, rfl, trivial⟩ rfl rfl ?_
  refine TOps.buildSlice (vs := [_]) (xs := [_, _, _]) Try.underlying79 ti85 ⟨rfl, rfl, trivial⟩ rfl rfl rfl rfl rfl rfl (by decide) rfl (fun b95 => ?_)
  refine TOps.appendLit rfl rfl Try.underlying79 ti85 rfl (fun _ _ => Upd.mkE (Upd.there Upd.here)) rfl (places_length m1) rfl (by omega) (by omega) (by simp) rfl (fun b96 cap96 => ?_)
  refine TOps.nilCheck rfl rfl ?_
  refine TOps.store1 rfl rfl ti79 rfl rfl (Upd.mkE Upd.here) (by simp) ?_
  refine TOps.next ?_
  refine Tri.seq (Tri.region ?_)
  refine TOps.move rfl rfl ?_
  refine TOps.assign rfl rfl ?_
  refine TOps.next ?_
  refine Tri.ret1 (H' := mkE 69 43 bb v ms1 z (row (some pb) 79 1 1 [slV (some b96) 0 (m1.length + 1) cap96] :: row (some b96) 85 3 cap96 (places m1 ++ [.int .i64 k, .int .i64 i, .int .i64 x0]) :: HB)) Try.results48 (fun _ _ h => h) (.tmp rfl) (Le.refl _) ⟨z, some b96, cap96, by rw [hRy], by rw [hRy]; exact hz1, fun _ => ⟨_, rfl⟩, by rw [hRy]; dsimp only; rw [places_snoc, List.length_append]; rfl⟩
end Go.Proofs
