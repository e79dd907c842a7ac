import Derived.Test.YthehdjppejmfcaaWG
import Derived.Test.YthehdjppejmfcaaWC
import Derived.Test.YthehdjppejmfcaaWE
import Derived.Test.YthehdjppejmfcaaWB
namespace Go.Proofs
open Go.GL
set_option linter.unusedVariables false
set_option linter.unusedSimpArgs false
theorem valueOk_g {H : List Ent} {fv : Value} {F : Fm} (hF : RF H fv F) (hk : F.ok) {failed : Int} (he : F.setErr failed = none) :
    Gives Try.prog 9 [fv, .int .i64 failed] H (R1 (.tuple (List.toArray [.bool (F.value failed), errV 73 none])) H) := by
  have h := value_g hF hk failed
  rw [he] at h
  exact h
theorem worse_g {F : Fm} {na sa : Option Nat} {no cap bs cb cc : Nat} {st : Int} {cost : List Int} {H : List Ent} {s : SS} {set total : Int} (h1 : s.found = true → total < s.total) :
    Gives Try.prog 71 [.pointer (some ⟨bs, 0, none⟩), .int .i64 set, .int .i64 total] (row (some bs) 106 9 1 [.int .i64 F.vars, slV na no F.nodes.length cap sa, .int .i64 F.top, .int .i64 st, slV (some cb) 0 cost.length cc, .int .i64 (s).best, .int .i64 (s).total, .bool (s).found, errV 73 none] :: H) (R1 (.bool false) (row (some bs) 106 9 1 [.int .i64 F.vars, slV na no F.nodes.length cap sa, .int .i64 F.top, .int .i64 st, slV (some cb) 0 cost.length cc, .int .i64 (s).best, .int .i64 (s).total, .bool (s).found, errV 73 none] :: H)) := by
  obtain ⟨bst, tot, fnd⟩ := s
  simp only at h1
  refine Gives.enter Try.func71 rfl (by exact Try.ntmps71) rfl ?_
  refine Tri.seq (Tri.region ?_)
  refine TOps.assign rfl rfl ?_
  refine TOps.next ?_
  refine Tri.seq ?_
  refine Tri.seq (Tri.region ?_)
  refine TOps.move rfl rfl ?_
  refine TOps.nilCheck rfl rfl ?_
  first | refine TOps.fieldB 7 rfl Try.underlying106 rfl rfl ti4 rfl rfl rfl ?_ | refine TOps.fieldN 7 rfl Try.underlying106 rfl rfl ti4 rfl rfl rfl ?_
  refine TOps.load1 rfl ti4 (by first | exact Rd.lit (by repeat (first | exact List.Mem.head _ | apply List.Mem.tail)) rfl | (repeat (first | assumption | exact Rd.fld (by assumption) 7 rfl | apply Rd.up))) rfl ?_
  refine TOps.not rfl rfl ?_
  refine TOps.move rfl rfl ?_
  refine' TOps.orB 6 rfl rfl rfl rfl (fun hg1_5 => ?_) ?_; rotate_left
  · have hg1_5' := hg1_5
    try simp only [decide_eq_true_eq, decide_eq_false_iff_not, Bool.and_eq_true, Bool.or_eq_true, Bool.not_eq_true', Bool.and_eq_false_iff, Bool.or_eq_false_iff, Bool.not_eq_false', Int.not_lt, Int.not_le, ne_eq, Decidable.not_not] at hg1_5'
    refine TOps.strip 5 false rfl rfl hg1_5 rfl ?_
    refine TOps.move rfl rfl ?_
    refine TOps.move rfl rfl ?_
    refine TOps.nilCheck rfl rfl ?_
    first | refine TOps.fieldB 6 rfl Try.underlying106 rfl rfl ti3 rfl rfl rfl ?_ | refine TOps.fieldN 6 rfl Try.underlying106 rfl rfl ti3 rfl rfl rfl ?_
    refine TOps.load1 rfl ti3 (by first | exact Rd.lit (by repeat (first | exact List.Mem.head _ | apply List.Mem.tail)) rfl | (repeat (first | assumption | exact Rd.fld (by assumption) 6 rfl | apply Rd.up))) rfl ?_
    refine TOps.neqI rfl rfl rfl ?_
    refine TOps.blk rfl (by repeat (first | exact Ext.refl _ | refine Ext.cons rfl ?_)) (by repeat (first | exact Le.refl _ | apply Le.drop))
  refine TOps.next ?_
  refine Tri.cond rfl (fun hc1 => ?_) (fun hc1 => ?_)
  · try simp only [decide_eq_true_eq, decide_eq_false_iff_not, Bool.and_eq_true, Bool.or_eq_true, Bool.not_eq_true', Bool.and_eq_false_iff, Bool.or_eq_false_iff, Bool.not_eq_false', Int.not_lt, Int.not_le, ne_eq, Decidable.not_not, Option.isSome_iff_ne_none, Option.isNone_iff_eq_none] at hc1
    refine Tri.seq (Tri.region ?_)
    refine TOps.move rfl rfl ?_
    refine TOps.nilCheck rfl rfl ?_
    first | refine TOps.fieldB 7 rfl Try.underlying106 rfl rfl ti4 rfl rfl rfl ?_ | refine TOps.fieldN 7 rfl Try.underlying106 rfl rfl ti4 rfl rfl rfl ?_
    refine TOps.load1 rfl ti4 (by first | exact Rd.lit (by repeat (first | exact List.Mem.head _ | apply List.Mem.tail)) rfl | (repeat (first | assumption | exact Rd.fld (by assumption) 7 rfl | apply Rd.up))) rfl ?_
    refine TOps.move rfl rfl ?_
    refine' TOps.andB 6 rfl rfl rfl rfl (fun hg2_4 => ?_) ?_; rotate_left
    · have hg2_4' := hg2_4
      try simp only [decide_eq_true_eq, decide_eq_false_iff_not, Bool.and_eq_true, Bool.or_eq_true, Bool.not_eq_true', Bool.and_eq_false_iff, Bool.or_eq_false_iff, Bool.not_eq_false', Int.not_lt, Int.not_le, ne_eq, Decidable.not_not] at hg2_4'
      refine TOps.strip 4 true rfl rfl hg2_4 rfl ?_
      refine TOps.move rfl rfl ?_
      refine TOps.move rfl rfl ?_
      refine TOps.nilCheck rfl rfl ?_
      first | refine TOps.fieldB 6 rfl Try.underlying106 rfl rfl ti3 rfl rfl rfl ?_ | refine TOps.fieldN 6 rfl Try.underlying106 rfl rfl ti3 rfl rfl rfl ?_
      refine TOps.load1 rfl ti3 (by first | exact Rd.lit (by repeat (first | exact List.Mem.head _ | apply List.Mem.tail)) rfl | (repeat (first | assumption | exact Rd.fld (by assumption) 6 rfl | apply Rd.up))) rfl ?_
      refine TOps.gtr rfl rfl rfl ?_
      refine TOps.blk rfl (by repeat (first | exact Ext.refl _ | refine Ext.cons rfl ?_)) (by repeat (first | exact Le.refl _ | apply Le.drop))
    refine TOps.assign rfl rfl ?_
    refine TOps.next ?_
    refine Tri.ret1 (H' := row (some bs) 106 9 1 [.int .i64 F.vars, slV na no F.nodes.length cap sa, .int .i64 F.top, .int .i64 st, slV (some cb) 0 cost.length cc, .int .i64 ((SS.mk bst tot fnd)).best, .int .i64 ((SS.mk bst tot fnd)).total, .bool ((SS.mk bst tot fnd)).found, errV 73 none] :: H) Try.results71 (fun _ _ h => h) (.tmp rfl) (Le.refl _) ⟨?_, rfl⟩
    cases fnd
    · rfl
    · simp [Int.not_lt.2 (Int.le_of_lt (h1 rfl))]
  · try simp only [decide_eq_true_eq, decide_eq_false_iff_not, Bool.and_eq_true, Bool.or_eq_true, Bool.not_eq_true', Bool.and_eq_false_iff, Bool.or_eq_false_iff, Bool.not_eq_false', Int.not_lt, Int.not_le, ne_eq, Decidable.not_not, Option.isSome_iff_ne_none, Option.isNone_iff_eq_none] at hc1
    exact absurd (h1 hc1.1) (by omega)
set_option maxHeartbeats 1000000 in
theorem from_g {F : Fm} (hk : F.ok) {na sa : Option Nat} {no cap bs cb cc v : Nat} (hvF : F.vars = v) (hv24 : v ≤ 24) {st : Int} {cost : List Int} :
    ∀ (k : Nat) {H : List Ent} {i : Nat} {set total : Int} {s s' : SS}, RF H (.agg (List.toArray (fc3 F na no cap sa))) F → Rd H cb 0 (ints cost) → fromM F st cost v k i set total s = some s' →
    Gives Try.prog 42 [.pointer (some ⟨bs, 0, none⟩), natV i, .int .i64 set, .int .i64 total] (row (some bs) 106 9 1 [.int .i64 F.vars, slV na no F.nodes.length cap sa, .int .i64 F.top, .int .i64 st, slV (some cb) 0 cost.length cc, .int .i64 (s).best, .int .i64 (s).total, .bool (s).found, errV 73 none] :: H) (fun u H' => u = .tuple (List.toArray []) ∧ row (some bs) 106 9 1 [.int .i64 F.vars, slV na no F.nodes.length cap sa, .int .i64 F.top, .int .i64 st, slV (some cb) 0 cost.length cc, .int .i64 (s').best, .int .i64 (s').total, .bool (s').found, errV 73 none] :: H = H') := by
  intro k
  induction k with
  | zero => intro H i set total s s' _ _ h; cases h
  | succ k ih =>
  intro H i set total s s' hF0 hrc hm
  have hok := fromM_ok hm
  have m1 := fromM_1 hm
  have m2 := fromM_2 hm
  have m3 := fromM_3 hm
  have hg := hok.c5
  obtain ⟨bst, tot, fnd⟩ := s
  have q1 := hok.c1; have q2 := hok.c2; have q3 := hok.c3; have q4 := hok.c4; have q5 := hok.c5; have q6 := hok.c6
  clear hok hm
  simp only at q1
  have hp24 : (2 : Nat) ^ i ≤ 2 ^ 24 := Nat.pow_le_pow_right (by decide) q2
  have h24' : (2 : Nat) ^ 24 = 16777216 := rfl
  have rs : Rd (row (some bs) 106 9 1 [.int .i64 F.vars, slV na no F.nodes.length cap sa, .int .i64 F.top, .int .i64 st, slV (some cb) 0 cost.length cc, .int .i64 ((SS.mk bst tot fnd)).best, .int .i64 ((SS.mk bst tot fnd)).total, .bool ((SS.mk bst tot fnd)).found, errV 73 none] :: H) bs 0 [.int .i64 F.vars, slV na no F.nodes.length cap sa, .int .i64 F.top, .int .i64 st, slV (some cb) 0 cost.length cc, .int .i64 bst, .int .i64 tot, .bool fnd, errV 73 none] := Rd.all (List.Mem.head _)
  refine Gives.enter Try.func42 rfl (by exact Try.ntmps42) rfl ?_
  refine Tri.seq ?_
  refine Tri.seq ?_
  rcases Bool.eq_false_or_eq_true fnd with hfe | hfe; rotate_left
  · skip
    skip
    refine Tri.drawC rfl [(0, .pointer (some ⟨bs, 0, none⟩)), (1, natV i), (2, .int .i64 set), (3, .int .i64 total)] [] [_, _, _, _, _, _, _, _, _, _, _, _, _, _, _, _, _, _, _, _, _, _, _, _, _, _, _, _, _, _, _, _, _, _, _, _, _] (row (some bs) 106 9 1 [.int .i64 F.vars, slV na no F.nodes.length cap sa, .int .i64 F.top, .int .i64 st, slV (some cb) 0 cost.length cc, .int .i64 ((SS.mk bst tot fnd)).best, .int .i64 ((SS.mk bst tot fnd)).total, .bool ((SS.mk bst tot fnd)).found, errV 73 none] :: H) [36] rfl ⟨rfl, rfl, rfl, rfl, trivial⟩ trivial (by repeat (first | exact Le.refl _ | assumption | apply Le.drop)) (by
      refine ⟨?_, ?_, ?_, ?_, ?_, ?_, ?_, ?_, ?_, ?_, ?_, ?_, ?_, ?_, ?_, ?_, ?_, ?_, ?_, ?_, ?_, ?_, ?_, ?_, ?_, ?_, ?_, ?_, ?_, ?_, ?_, ?_, ?_, ?_, ?_, ?_, ?_, trivial⟩
      · refine ⟨fun x S c he hw hd hc hcu hm _ => ?_, trivial⟩
        refine TOps.move (he _ _ rfl) rfl ?_
        exact TOps.fd x rfl rfl
      · refine ⟨fun x S c he hw hd hc hcu hm _ => ?_, trivial⟩
        obtain ⟨h0, -⟩ := hd
        refine TOps.nilCheck h0 rfl ?_
        exact TOps.fd x rfl rfl
      · refine ⟨fun x S c he hw hd hc hcu hm _ => ?_, trivial⟩
        obtain ⟨h1, -⟩ := hd
        first | refine TOps.fieldB 8 h1 Try.underlying106 rfl rfl ti34 rfl rfl rfl ?_ | refine TOps.fieldN 8 h1 Try.underlying106 rfl rfl ti34 rfl rfl rfl ?_
        exact TOps.fd x rfl rfl
      · refine ⟨fun x S c he hw hd hc hcu hm _ => ?_, trivial⟩
        obtain ⟨h2, -⟩ := hd
        refine TOps.load1 (v := errV 73 none) h2 ti34 (Rd.fld rs 8 rfl) rfl ?_
        exact TOps.fd x rfl rfl
      · refine ⟨fun x S c he hw hd hc hcu hm _ => ?_, trivial⟩
        obtain ⟨h3, -⟩ := hd
        refine TOps.neqNil (T := 73) (o := none) h3 Try.underlying34 rfl ?_
        exact TOps.fd x rfl rfl
      · refine ⟨fun x S c he hw hd hc hcu hm _ => ?_, trivial⟩
        obtain ⟨h4, -⟩ := hd
        refine TOps.move h4 rfl ?_
        exact TOps.fd x rfl rfl
      · refine ⟨fun x S c he hw hd hc hcu hm hgd => ?_, ⟨_, rfl⟩, .inl ⟨rfl, fun x => .inl rfl⟩⟩
        obtain ⟨h5, -⟩ := hd
        refine TOps.move (he _ _ rfl) rfl ?_
        exact TOps.fd x rfl rfl
      · refine ⟨fun x S c he hw hd hc hcu hm hgd => ?_, ⟨_, rfl⟩, .inl ⟨rfl, fun x => .inl rfl⟩⟩
        obtain ⟨h6, h5, -⟩ := hd
        refine TOps.nilCheck h6 rfl ?_
        exact TOps.fd x rfl rfl
      · refine ⟨fun x S c he hw hd hc hcu hm hgd => ?_, ⟨_, rfl⟩, .inl ⟨rfl, fun x => .inl rfl⟩⟩
        obtain ⟨h7, h5, -⟩ := hd
        first | refine TOps.fieldB 7 h7 Try.underlying106 rfl rfl ti4 rfl rfl rfl ?_ | refine TOps.fieldN 7 h7 Try.underlying106 rfl rfl ti4 rfl rfl rfl ?_
        exact TOps.fd x rfl rfl
      · refine ⟨fun x S c he hw hd hc hcu hm hgd => ?_, ⟨_, rfl⟩, .inl ⟨rfl, fun x => .inl rfl⟩⟩
        obtain ⟨h8, h5, -⟩ := hd
        first | refine TOps.load1 (v := .bool false) h8 ti4 (Rd.eqv (Rd.fld rs 7 rfl) (congrArg Value.bool hfe)) rfl ?_ | refine TOps.load1 (v := .bool true) h8 ti4 (Rd.eqv (Rd.fld rs 7 rfl) (congrArg Value.bool hfe)) rfl ?_
        exact TOps.fd x rfl rfl
      · refine ⟨fun x S c he hw hd hc hcu hm hgd => ?_, ⟨_, rfl⟩, .inl ⟨rfl, fun x => .inl rfl⟩⟩
        obtain ⟨h9, h5, _, -⟩ := hd
        refine TOps.move h9 rfl ?_
        exact TOps.fd x rfl rfl
      · refine ⟨fun x S c he hw hd hc hcu hm hgd => ?_, ⟨_, rfl⟩, .inl ⟨rfl, fun x => .inr ⟨.inl rfl, rfl⟩⟩⟩
        exact absurd hgd (by first | (intro h; cases h; done) | simp_all)
      · refine ⟨fun x S c he hw hd hc hcu hm hgd => ?_, ⟨_, rfl⟩, .inl ⟨rfl, fun x => .inr ⟨.inl rfl, rfl⟩⟩⟩
        exact absurd hgd (by first | (intro h; cases h; done) | simp_all)
      · refine ⟨fun x S c he hw hd hc hcu hm hgd => ?_, ⟨_, rfl⟩, .inl ⟨rfl, fun x => .inr ⟨.inl rfl, rfl⟩⟩⟩
        exact absurd hgd (by first | (intro h; cases h; done) | simp_all)
      · refine ⟨fun x S c he hw hd hc hcu hm hgd => ?_, ⟨_, rfl⟩, .inl ⟨rfl, fun x => .inr ⟨.inl rfl, rfl⟩⟩⟩
        exact absurd hgd (by first | (intro h; cases h; done) | simp_all)
      · refine ⟨fun x S c he hw hd hc hcu hm hgd => ?_, ⟨_, rfl⟩, .inl ⟨rfl, fun x => .inr ⟨.inl rfl, rfl⟩⟩⟩
        exact absurd hgd (by first | (intro h; cases h; done) | simp_all)
      · refine ⟨fun x S c he hw hd hc hcu hm hgd => ?_, ⟨_, rfl⟩, .inl ⟨rfl, fun x => .inr ⟨.inl rfl, rfl⟩⟩⟩
        exact absurd hgd (by first | (intro h; cases h; done) | simp_all)
      · refine ⟨fun x S c he hw hd hc hcu hm hgd => ?_, ⟨_, rfl⟩, .inl ⟨rfl, fun x => .inr ⟨.inl rfl, rfl⟩⟩⟩
        exact absurd hgd (by first | (intro h; cases h; done) | simp_all)
      · refine ⟨fun x S c he hw hd hc hcu hm hgd => ?_, ⟨_, rfl⟩, .inl ⟨rfl, fun x => .inr ⟨.inr ⟨_, rfl⟩, rfl⟩⟩⟩
        exact absurd hgd (by first | (intro h; cases h; done) | simp_all)
      · refine ⟨fun x S c he hw hd hc hcu hm hgd => ?_, ⟨_, rfl⟩, .inl ⟨rfl, fun x => .inr ⟨.inr ⟨_, rfl⟩, rfl⟩⟩⟩
        exact absurd hgd (by first | (intro h; cases h; done) | simp_all)
      · refine ⟨fun x S c he hw hd hc hcu hm hgd => ?_, ⟨_, rfl⟩, .inl ⟨rfl, fun x => .inr ⟨.inr ⟨_, rfl⟩, rfl⟩⟩⟩
        exact absurd hgd (by first | (intro h; cases h; done) | simp_all)
      · refine ⟨fun x S c he hw hd hc hcu hm hgd => ?_, ⟨_, rfl⟩, .inl ⟨rfl, fun x => .inr ⟨.inr ⟨_, rfl⟩, rfl⟩⟩⟩
        exact absurd hgd (by first | (intro h; cases h; done) | simp_all)
      · refine ⟨fun x S c he hw hd hc hcu hm hgd => ?_, ⟨_, rfl⟩, .inl ⟨rfl, fun x => .inr ⟨.inr ⟨_, rfl⟩, rfl⟩⟩⟩
        exact absurd hgd (by first | (intro h; cases h; done) | simp_all)
      · refine ⟨fun x S c he hw hd hc hcu hm hgd => ?_, ⟨_, rfl⟩, .inl ⟨rfl, fun x => .inr ⟨.inr ⟨_, rfl⟩, rfl⟩⟩⟩
        exact absurd hgd (by first | (intro h; cases h; done) | simp_all)
      · refine ⟨fun x S c he hw hd hc hcu hm hgd => ?_, ⟨_, rfl⟩, .inl ⟨rfl, fun x => .inr ⟨.inr ⟨_, rfl⟩, rfl⟩⟩⟩
        exact absurd hgd (by first | (intro h; cases h; done) | simp_all)
      · refine ⟨fun x S c he hw hd hc hcu hm hgd => ?_, ⟨_, rfl⟩, .inl ⟨rfl, fun x => .inr ⟨.inr ⟨_, rfl⟩, rfl⟩⟩⟩
        exact absurd hgd (by first | (intro h; cases h; done) | simp_all)
      · refine ⟨fun x S c he hw hd hc hcu hm hgd => ?_, ⟨_, rfl⟩, .inl ⟨rfl, fun x => .inr ⟨.inr ⟨_, rfl⟩, rfl⟩⟩⟩
        exact absurd hgd (by first | (intro h; cases h; done) | simp_all)
      · refine ⟨fun x S c he hw hd hc hcu hm hgd => ?_, ⟨_, rfl⟩, .inl ⟨rfl, fun x => .inr ⟨.inr ⟨_, rfl⟩, rfl⟩⟩⟩
        exact absurd hgd (by first | (intro h; cases h; done) | simp_all)
      · refine ⟨fun x S c he hw hd hc hcu hm hgd => ?_, ⟨_, rfl⟩, .inl ⟨rfl, fun x => .inr ⟨.inr ⟨_, rfl⟩, rfl⟩⟩⟩
        exact absurd hgd (by first | (intro h; cases h; done) | simp_all)
      · refine ⟨fun x S c he hw hd hc hcu hm hgd => ?_, ⟨_, rfl⟩, .inl ⟨rfl, fun x => .inr ⟨.inr ⟨_, rfl⟩, rfl⟩⟩⟩
        exact absurd hgd (by first | (intro h; cases h; done) | simp_all)
      · refine ⟨fun x S c he hw hd hc hcu hm hgd => ?_, ⟨_, rfl⟩, .inl ⟨rfl, fun x => .inr ⟨.inr ⟨_, rfl⟩, rfl⟩⟩⟩
        exact absurd hgd (by first | (intro h; cases h; done) | simp_all)
      · refine ⟨fun x S c he hw hd hc hcu hm hgd => ?_, ⟨_, rfl⟩, .inl ⟨rfl, fun x => .inr ⟨.inr ⟨_, rfl⟩, rfl⟩⟩⟩
        exact absurd hgd (by first | (intro h; cases h; done) | simp_all)
      · refine ⟨fun x S c he hw hd hc hcu hm hgd => ?_, ⟨_, rfl⟩, .inl ⟨rfl, fun x => .inr ⟨.inr ⟨_, rfl⟩, rfl⟩⟩⟩
        exact absurd hgd (by first | (intro h; cases h; done) | simp_all)
      · refine ⟨fun x S c he hw hd hc hcu hm hgd => ?_, ⟨_, rfl⟩, .inl ⟨rfl, fun x => .inr ⟨.inr ⟨_, rfl⟩, rfl⟩⟩⟩
        exact absurd hgd (by first | (intro h; cases h; done) | simp_all)
      · refine ⟨fun x S c he hw hd hc hcu hm hgd => ?_, ⟨_, rfl⟩, .inl ⟨rfl, fun x => .inr ⟨.inl rfl, rfl⟩⟩⟩
        exact absurd hgd (by first | (intro h; cases h; done) | simp_all)
      · refine ⟨fun x S c he hw hd hc hcu hm hgd => ?_, ⟨_, rfl⟩, .inl ⟨rfl, fun x => .inl rfl⟩⟩
        obtain ⟨h10, h34, h5, -⟩ := hd
        refine TOps.pick h10 h34 rfl rfl ?_
        exact TOps.fd x rfl rfl
      · refine ⟨fun x S c he hw hd hc hcu hm _ => ?_, trivial⟩
        obtain ⟨h5, h35, -⟩ := hd
        refine TOps.pick h5 rfl h35 rfl ?_
        exact TOps.fd x rfl rfl
      ) ?_
    refine Nrm.next ?_
    refine Tri.cond rfl (fun hc1 => ?_) (fun hc1 => ?_)
    · exact absurd hc1 (by first | decide | simp)
    try simp only [decide_eq_true_eq, decide_eq_false_iff_not, Bool.and_eq_true, Bool.or_eq_true, Bool.not_eq_true', Bool.and_eq_false_iff, Bool.or_eq_false_iff, Bool.not_eq_false', Int.not_lt, Int.not_le, ne_eq, Decidable.not_not, Option.isSome_iff_ne_none, Option.isNone_iff_eq_none] at hc1
    refine Tri.fin ?_
    refine Nrm.next ?_
    refine Tri.seq ?_
    refine Tri.drawC rfl [(0, .pointer (some ⟨bs, 0, none⟩)), (1, natV i), (2, .int .i64 set), (3, .int .i64 total)] [] [_, _, _, _, _, _, _, _, _, _] (row (some bs) 106 9 1 [.int .i64 F.vars, slV na no F.nodes.length cap sa, .int .i64 F.top, .int .i64 st, slV (some cb) 0 cost.length cc, .int .i64 ((SS.mk bst tot fnd)).best, .int .i64 ((SS.mk bst tot fnd)).total, .bool ((SS.mk bst tot fnd)).found, errV 73 none] :: H) [9] rfl ⟨rfl, rfl, rfl, rfl, trivial⟩ trivial (by repeat (first | exact Le.refl _ | assumption | apply Le.drop)) (by
      refine ⟨?_, ?_, ?_, ?_, ?_, ?_, ?_, ?_, ?_, ?_, trivial⟩
      · refine ⟨fun x S c he hw hd hc hcu hm _ => ?_, trivial⟩
        refine TOps.move (he _ _ rfl) rfl ?_
        exact TOps.fd x rfl rfl
      · refine ⟨fun x S c he hw hd hc hcu hm _ => ?_, trivial⟩
        obtain ⟨h0, -⟩ := hd
        refine TOps.nilCheck h0 rfl ?_
        exact TOps.fd x rfl rfl
      · refine ⟨fun x S c he hw hd hc hcu hm _ => ?_, trivial⟩
        obtain ⟨h1, -⟩ := hd
        first | refine TOps.fieldB 3 h1 Try.underlying106 rfl rfl ti55 rfl rfl rfl ?_ | refine TOps.fieldN 3 h1 Try.underlying106 rfl rfl ti55 rfl rfl rfl ?_
        exact TOps.fd x rfl rfl
      · refine ⟨fun x S c he hw hd hc hcu hm _ => ?_, trivial⟩
        obtain ⟨h2, -⟩ := hd
        refine TOps.field0 h2 Try.underlying55 rfl rfl ti3 rfl rfl rfl ?_
        exact TOps.fd x rfl rfl
      · refine ⟨fun x S c he hw hd hc hcu hm _ => ?_, trivial⟩
        obtain ⟨h3, -⟩ := hd
        refine TOps.load1 h3 ti3 (Rd.fld rs 3 rfl) rfl ?_
        exact TOps.fd x rfl rfl
      · refine ⟨fun x S c he hw hd hc hcu hm _ => ?_, trivial⟩
        refine TOps.move (he _ _ rfl) rfl ?_
        exact TOps.fd x rfl rfl
      · refine ⟨fun x S c he hw hd hc hcu hm _ => ?_, trivial⟩
        obtain ⟨h5, -⟩ := hd
        refine TOps.shl (r := ((2 ^ i : Nat) : Int)) rfl h5 (by omega) (ishl_one (by omega)) rfl ?_
        exact TOps.fd x rfl rfl
      · refine ⟨fun x S c he hw hd hc hcu hm _ => ?_, trivial⟩
        obtain ⟨h6, -⟩ := hd
        refine TOps.sub (r := ((2 ^ i : Nat) : Int) - 1) h6 rfl (by have := Nat.two_pow_pos i; rw [wrapI (by omega) (by omega)]) rfl ?_
        exact TOps.fd x rfl rfl
      · refine ⟨fun x S c he hw hd hc hcu hm _ => ?_, trivial⟩
        obtain ⟨h4, h7, -⟩ := hd
        refine TOps.andNot (r := iandn st (((2 ^ i : Nat) : Int) - 1)) h4 h7 rfl rfl ?_
        exact TOps.fd x rfl rfl
      · refine ⟨fun x S c he hw hd hc hcu hm _ => ?_, trivial⟩
        obtain ⟨h8, h0, h1, h2, h3, h4, h5, h6, h7, _, -⟩ := hd
        refine TOps.assign h8 rfl ?_
        exact TOps.fd x rfl rfl
      ) ?_
    refine Nrm.next ?_
    refine Tri.seq ?_
    refine Tri.drawC rfl [(0, .pointer (some ⟨bs, 0, none⟩)), (1, natV i), (2, .int .i64 set), (3, .int .i64 total), (8, .int .i64 (iandn st (((2 ^ i : Nat) : Int) - 1)))] [] [_, _, _, _, _, _, _, _, _, _, _, _, _, _, _, _, _, _, _] (row (some bs) 106 9 1 [.int .i64 F.vars, slV na no F.nodes.length cap sa, .int .i64 F.top, .int .i64 st, slV (some cb) 0 cost.length cc, .int .i64 ((SS.mk bst tot fnd)).best, .int .i64 ((SS.mk bst tot fnd)).total, .bool ((SS.mk bst tot fnd)).found, errV 73 none] :: H) [17, 18] rfl ⟨rfl, rfl, rfl, rfl, rfl, trivial⟩ trivial (by repeat (first | exact Le.refl _ | assumption | apply Le.drop)) (by
      refine ⟨?_, ?_, ?_, ?_, ?_, ?_, ?_, ?_, ?_, ?_, ?_, ?_, ?_, ?_, ?_, ?_, ?_, ?_, ?_, trivial⟩
      · refine ⟨fun x S c he hw hd hc hcu hm _ => ?_, trivial⟩
        refine TOps.move (he _ _ rfl) rfl ?_
        exact TOps.fd x rfl rfl
      · refine ⟨fun x S c he hw hd hc hcu hm _ => ?_, trivial⟩
        obtain ⟨h0, -⟩ := hd
        refine TOps.nilCheck h0 rfl ?_
        exact TOps.fd x rfl rfl
      · refine ⟨fun x S c he hw hd hc hcu hm _ => ?_, trivial⟩
        obtain ⟨h1, -⟩ := hd
        refine TOps.field0 h1 Try.underlying106 rfl rfl ti24 rfl rfl rfl ?_
        exact TOps.fd x rfl rfl
      · refine ⟨fun x S c he hw hd hc hcu hm _ => ?_, trivial⟩
        obtain ⟨h2, -⟩ := hd
        refine TOps.loadN (vs := fc3 F na no cap sa) h2 ti24 (Rd.pre rs 3) rfl rfl ?_
        exact TOps.fd x rfl rfl
      · refine ⟨fun x S c he hw hd hc hcu hm _ => ?_, trivial⟩
        refine TOps.move (he _ _ rfl) rfl ?_
        exact TOps.fd x rfl rfl
      · refine ⟨fun x S c he hw hd hc hcu hm _ => ?_, trivial⟩
        obtain ⟨h4, -⟩ := hd
        refine TOps.nilCheck h4 rfl ?_
        exact TOps.fd x rfl rfl
      · refine ⟨fun x S c he hw hd hc hcu hm _ => ?_, trivial⟩
        obtain ⟨h5, -⟩ := hd
        first | refine TOps.fieldB 3 h5 Try.underlying106 rfl rfl ti55 rfl rfl rfl ?_ | refine TOps.fieldN 3 h5 Try.underlying106 rfl rfl ti55 rfl rfl rfl ?_
        exact TOps.fd x rfl rfl
      · refine ⟨fun x S c he hw hd hc hcu hm _ => ?_, trivial⟩
        obtain ⟨h6, -⟩ := hd
        refine TOps.field0 h6 Try.underlying55 rfl rfl ti3 rfl rfl rfl ?_
        exact TOps.fd x rfl rfl
      · refine ⟨fun x S c he hw hd hc hcu hm _ => ?_, trivial⟩
        obtain ⟨h7, -⟩ := hd
        refine TOps.load1 h7 ti3 (Rd.fld rs 3 rfl) rfl ?_
        exact TOps.fd x rfl rfl
      · refine ⟨fun x S c he hw hd hc hcu hm _ => ?_, trivial⟩
        refine TOps.move (he _ _ rfl) rfl ?_
        exact TOps.fd x rfl rfl
      · refine ⟨fun x S c he hw hd hc hcu hm _ => ?_, trivial⟩
        refine TOps.move (he _ _ rfl) rfl ?_
        exact TOps.fd x rfl rfl
      · refine ⟨fun x S c he hw hd hc hcu hm _ => ?_, trivial⟩
        obtain ⟨h9, h10, -⟩ := hd
        refine TOps.or (r := ior set (iandn st (((2 ^ i : Nat) : Int) - 1))) h9 h10 rfl rfl ?_
        exact TOps.fd x rfl rfl
      · refine ⟨fun x S c he hw hd hc hcu hm _ => ?_, trivial⟩
        obtain ⟨h8, h11, -⟩ := hd
        refine TOps.andNot (r := iandn st (ior set (iandn st (((2 ^ i : Nat) : Int) - 1)))) h8 h11 rfl rfl ?_
        exact TOps.fd x rfl rfl
      · refine ⟨fun x S c he hw hd hc hcu hm _ => ?_, trivial⟩
        obtain ⟨h3, h12, -⟩ := hd
        refine TOps.call (vs := [_, _]) Try.call9 ⟨h3, h12, trivial⟩ (valueOk_g (hF0.le (Le.drop (Le.refl _))) hk q5) rfl ?_
        rintro _ _ ⟨rfl, rfl⟩
        exact TOps.fd x rfl rfl
      · refine ⟨fun x S c he hw hd hc hcu hm _ => ?_, trivial⟩
        obtain ⟨h13, -⟩ := hd
        refine TOps.move h13 rfl ?_
        exact TOps.fd x rfl rfl
      · refine ⟨fun x S c he hw hd hc hcu hm _ => ?_, trivial⟩
        obtain ⟨h14, -⟩ := hd
        refine TOps.extract h14 rfl rfl ?_
        exact TOps.fd x rfl rfl
      · refine ⟨fun x S c he hw hd hc hcu hm _ => ?_, trivial⟩
        obtain ⟨h14, -⟩ := hd
        refine TOps.extract h14 rfl rfl ?_
        exact TOps.fd x rfl rfl
      · refine ⟨fun x S c he hw hd hc hcu hm _ => ?_, trivial⟩
        obtain ⟨h15, h13, h0, h1, h2, h3, h4, h5, h6, h7, h8, h9, h10, h11, h12, _, h14, _, -⟩ := hd
        refine TOps.assign h15 rfl ?_
        exact TOps.fd x rfl rfl
      · refine ⟨fun x S c he hw hd hc hcu hm _ => ?_, trivial⟩
        obtain ⟨h16, h17, h0, h1, h2, h3, h4, h5, h6, h7, h8, h9, h10, h11, h12, h13, h14, h15, _, _, -⟩ := hd
        refine TOps.assign h16 rfl ?_
        exact TOps.fd x rfl rfl
      ) ?_
    refine Nrm.next ?_
    refine Tri.seq ?_
    refine Tri.seq (Tri.region ?_)
    refine TOps.move rfl rfl ?_
    refine TOps.neqNil (T := 73) (o := none) rfl Try.underlying34 rfl ?_
    refine TOps.next ?_
    refine Tri.cond rfl (fun hc2 => ?_) (fun hc2 => ?_)
    · exact absurd hc2 (by first | decide | simp)
    try simp only [decide_eq_true_eq, decide_eq_false_iff_not, Bool.and_eq_true, Bool.or_eq_true, Bool.not_eq_true', Bool.and_eq_false_iff, Bool.or_eq_false_iff, Bool.not_eq_false', Int.not_lt, Int.not_le, ne_eq, Decidable.not_not, Option.isSome_iff_ne_none, Option.isNone_iff_eq_none] at hc2
    refine Tri.fin ?_
    refine Nrm.next ?_
    refine Tri.seq ?_
    refine Tri.seq (Tri.region ?_)
    refine TOps.move rfl rfl ?_
    refine TOps.next ?_
    refine Tri.cond rfl (fun hc3 => ?_) (fun hc3 => ?_)
    · try simp only [decide_eq_true_eq, decide_eq_false_iff_not, Bool.and_eq_true, Bool.or_eq_true, Bool.not_eq_true', Bool.and_eq_false_iff, Bool.or_eq_false_iff, Bool.not_eq_false', Int.not_lt, Int.not_le, ne_eq, Decidable.not_not, Option.isSome_iff_ne_none, Option.isNone_iff_eq_none] at hc3
      rw [m1 hc3]
      refine Tri.ret0 (H' := row (some bs) 106 9 1 [.int .i64 F.vars, slV na no F.nodes.length cap sa, .int .i64 F.top, .int .i64 st, slV (some cb) 0 cost.length cc, .int .i64 ((SS.mk bst tot fnd)).best, .int .i64 ((SS.mk bst tot fnd)).total, .bool ((SS.mk bst tot fnd)).found, errV 73 none] :: H) Try.results42 (fun _ _ h => h) (Le.refl _) ⟨rfl, rfl⟩
    try simp only [decide_eq_true_eq, decide_eq_false_iff_not, Bool.and_eq_true, Bool.or_eq_true, Bool.not_eq_true', Bool.and_eq_false_iff, Bool.or_eq_false_iff, Bool.not_eq_false', Int.not_lt, Int.not_le, ne_eq, Decidable.not_not, Option.isSome_iff_ne_none, Option.isNone_iff_eq_none] at hc3
    refine Tri.fin ?_
    refine Nrm.next ?_
    refine Tri.seq ?_
    refine Tri.seq ?_
    refine Tri.drawC rfl [(0, .pointer (some ⟨bs, 0, none⟩)), (1, natV i), (2, .int .i64 set), (3, .int .i64 total), (8, .int .i64 (iandn st (((2 ^ i : Nat) : Int) - 1)))] [] [_, _, _, _, _, _, _, _, _, _, _, _, _, _, _, _, _] (row (some bs) 106 9 1 [.int .i64 F.vars, slV na no F.nodes.length cap sa, .int .i64 F.top, .int .i64 st, slV (some cb) 0 cost.length cc, .int .i64 ((SS.mk bst tot fnd)).best, .int .i64 ((SS.mk bst tot fnd)).total, .bool ((SS.mk bst tot fnd)).found, errV 73 none] :: H) [15, 16] rfl ⟨rfl, rfl, rfl, rfl, rfl, trivial⟩ trivial (by repeat (first | exact Le.refl _ | assumption | apply Le.drop)) (by
      refine ⟨?_, ?_, ?_, ?_, ?_, ?_, ?_, ?_, ?_, ?_, ?_, ?_, ?_, ?_, ?_, ?_, ?_, trivial⟩
      · refine ⟨fun x S c he hw hd hc hcu hm _ => ?_, trivial⟩
        refine TOps.move (he _ _ rfl) rfl ?_
        exact TOps.fd x rfl rfl
      · refine ⟨fun x S c he hw hd hc hcu hm _ => ?_, trivial⟩
        obtain ⟨h0, -⟩ := hd
        refine TOps.nilCheck h0 rfl ?_
        exact TOps.fd x rfl rfl
      · refine ⟨fun x S c he hw hd hc hcu hm _ => ?_, trivial⟩
        obtain ⟨h1, -⟩ := hd
        refine TOps.field0 h1 Try.underlying106 rfl rfl ti24 rfl rfl rfl ?_
        exact TOps.fd x rfl rfl
      · refine ⟨fun x S c he hw hd hc hcu hm _ => ?_, trivial⟩
        obtain ⟨h2, -⟩ := hd
        refine TOps.loadN (vs := fc3 F na no cap sa) h2 ti24 (Rd.pre rs 3) rfl rfl ?_
        exact TOps.fd x rfl rfl
      · refine ⟨fun x S c he hw hd hc hcu hm _ => ?_, trivial⟩
        refine TOps.move (he _ _ rfl) rfl ?_
        exact TOps.fd x rfl rfl
      · refine ⟨fun x S c he hw hd hc hcu hm _ => ?_, trivial⟩
        obtain ⟨h4, -⟩ := hd
        refine TOps.nilCheck h4 rfl ?_
        exact TOps.fd x rfl rfl
      · refine ⟨fun x S c he hw hd hc hcu hm _ => ?_, trivial⟩
        obtain ⟨h5, -⟩ := hd
        first | refine TOps.fieldB 3 h5 Try.underlying106 rfl rfl ti55 rfl rfl rfl ?_ | refine TOps.fieldN 3 h5 Try.underlying106 rfl rfl ti55 rfl rfl rfl ?_
        exact TOps.fd x rfl rfl
      · refine ⟨fun x S c he hw hd hc hcu hm _ => ?_, trivial⟩
        obtain ⟨h6, -⟩ := hd
        refine TOps.field0 h6 Try.underlying55 rfl rfl ti3 rfl rfl rfl ?_
        exact TOps.fd x rfl rfl
      · refine ⟨fun x S c he hw hd hc hcu hm _ => ?_, trivial⟩
        obtain ⟨h7, -⟩ := hd
        refine TOps.load1 h7 ti3 (Rd.fld rs 3 rfl) rfl ?_
        exact TOps.fd x rfl rfl
      · refine ⟨fun x S c he hw hd hc hcu hm _ => ?_, trivial⟩
        refine TOps.move (he _ _ rfl) rfl ?_
        exact TOps.fd x rfl rfl
      · refine ⟨fun x S c he hw hd hc hcu hm _ => ?_, trivial⟩
        obtain ⟨h8, h9, -⟩ := hd
        refine TOps.andNot (r := iandn st set) h8 h9 rfl rfl ?_
        exact TOps.fd x rfl rfl
      · refine ⟨fun x S c he hw hd hc hcu hm _ => ?_, trivial⟩
        obtain ⟨h3, h10, -⟩ := hd
        refine TOps.call (vs := [_, _]) Try.call9 ⟨h3, h10, trivial⟩ (valueOk_g (hF0.le (Le.drop (Le.refl _))) hk q6) rfl ?_
        rintro _ _ ⟨rfl, rfl⟩
        exact TOps.fd x rfl rfl
      · refine ⟨fun x S c he hw hd hc hcu hm _ => ?_, trivial⟩
        obtain ⟨h11, -⟩ := hd
        refine TOps.move h11 rfl ?_
        exact TOps.fd x rfl rfl
      · refine ⟨fun x S c he hw hd hc hcu hm _ => ?_, trivial⟩
        obtain ⟨h12, -⟩ := hd
        refine TOps.extract h12 rfl rfl ?_
        exact TOps.fd x rfl rfl
      · refine ⟨fun x S c he hw hd hc hcu hm _ => ?_, trivial⟩
        obtain ⟨h12, -⟩ := hd
        refine TOps.extract h12 rfl rfl ?_
        exact TOps.fd x rfl rfl
      · refine ⟨fun x S c he hw hd hc hcu hm _ => ?_, trivial⟩
        obtain ⟨h13, h11, h0, h1, h2, h3, h4, h5, h6, h7, h8, h9, h10, _, h12, _, -⟩ := hd
        refine TOps.assign h13 rfl ?_
        exact TOps.fd x rfl rfl
      · refine ⟨fun x S c he hw hd hc hcu hm _ => ?_, trivial⟩
        obtain ⟨h14, h15, h0, h1, h2, h3, h4, h5, h6, h7, h8, h9, h10, h11, h12, h13, _, _, -⟩ := hd
        refine TOps.assign h14 rfl ?_
        exact TOps.fd x rfl rfl
      ) ?_
    refine Nrm.next ?_
    refine Tri.seq (Tri.region ?_)
    refine TOps.move rfl rfl ?_
    refine TOps.neqNil (T := 73) (o := none) rfl Try.underlying34 rfl ?_
    refine TOps.next ?_
    refine Tri.cond rfl (fun hc4 => ?_) (fun hc4 => ?_)
    · exact absurd hc4 (by first | decide | simp)
    try simp only [decide_eq_true_eq, decide_eq_false_iff_not, Bool.and_eq_true, Bool.or_eq_true, Bool.not_eq_true', Bool.and_eq_false_iff, Bool.or_eq_false_iff, Bool.not_eq_false', Int.not_lt, Int.not_le, ne_eq, Decidable.not_not, Option.isSome_iff_ne_none, Option.isNone_iff_eq_none] at hc4
    refine Tri.fin ?_
    refine Nrm.next ?_
    refine Tri.seq ?_
    refine Tri.seq (Tri.region ?_)
    refine TOps.move rfl rfl ?_
    refine TOps.not rfl rfl ?_
    refine TOps.next ?_
    refine Tri.cond rfl (fun hc5 => ?_) (fun hc5 => ?_)
    · try simp only [decide_eq_true_eq, decide_eq_false_iff_not, Bool.and_eq_true, Bool.or_eq_true, Bool.not_eq_true', Bool.and_eq_false_iff, Bool.or_eq_false_iff, Bool.not_eq_false', Int.not_lt, Int.not_le, ne_eq, Decidable.not_not, Option.isSome_iff_ne_none, Option.isNone_iff_eq_none] at hc5
      have hvf : F.value (iandn st set) = false := by simpa using hc5
      rw [m2 (by rw [hc3]; decide) hvf]
      have q1' : fnd = true → total < tot := by first | exact fun _ => q1 | (intro h; rw [hfe] at h; cases h)
      refine Tri.seq ?_
      refine Tri.seq (Tri.region ?_)
      refine TOps.move rfl rfl ?_
      refine TOps.move rfl rfl ?_
      refine TOps.move rfl rfl ?_
      refine TOps.call (vs := [_, _, _]) Try.call71 ⟨rfl, rfl, rfl, trivial⟩ (worse_g (s := (SS.mk bst tot fnd)) q1') rfl ?_
      rintro _ _ ⟨rfl, rfl⟩
      refine TOps.not rfl rfl ?_
      refine TOps.next ?_
      refine Tri.cond rfl (fun hc6 => ?_) (fun hc6 => ?_)
      · try simp only [decide_eq_true_eq, decide_eq_false_iff_not, Bool.and_eq_true, Bool.or_eq_true, Bool.not_eq_true', Bool.and_eq_false_iff, Bool.or_eq_false_iff, Bool.not_eq_false', Int.not_lt, Int.not_le, ne_eq, Decidable.not_not, Option.isSome_iff_ne_none, Option.isNone_iff_eq_none] at hc6
        refine Tri.region ?_
        refine TOps.move rfl rfl ?_
        refine TOps.move rfl rfl ?_
        refine TOps.move rfl rfl ?_
        refine TOps.move rfl rfl ?_
        refine TOps.move rfl rfl ?_
        refine TOps.nilCheck rfl rfl ?_
        first | refine TOps.fieldB 5 rfl Try.underlying106 rfl rfl ti3 rfl rfl rfl ?_ | refine TOps.fieldN 5 rfl Try.underlying106 rfl rfl ti3 rfl rfl rfl ?_
        refine TOps.store1 rfl rfl ti3 rfl rfl (by repeat (first | exact Upd.here | apply Upd.there)) (by first | decide | (simp; done) | (simp; omega) | exact (show (5 : Nat) < 9 by decide)) ?_
        refine TOps.nilCheck rfl rfl ?_
        first | refine TOps.fieldB 6 rfl Try.underlying106 rfl rfl ti3 rfl rfl rfl ?_ | refine TOps.fieldN 6 rfl Try.underlying106 rfl rfl ti3 rfl rfl rfl ?_
        refine TOps.store1 rfl rfl ti3 rfl rfl (by repeat (first | exact Upd.here | apply Upd.there)) (by first | decide | (simp; done) | (simp; omega) | exact (show (6 : Nat) < 9 by decide)) ?_
        refine TOps.nilCheck rfl rfl ?_
        first | refine TOps.fieldB 7 rfl Try.underlying106 rfl rfl ti4 rfl rfl rfl ?_ | refine TOps.fieldN 7 rfl Try.underlying106 rfl rfl ti4 rfl rfl rfl ?_
        refine TOps.store1 rfl rfl ti4 rfl rfl (by repeat (first | exact Upd.here | apply Upd.there)) (by first | decide | (simp; done) | (simp; omega) | exact (show (7 : Nat) < 9 by decide)) ?_
        refine TOps.fin ?_
        refine Nrm.next ?_
        refine Tri.ret0 (H' := row (some bs) 106 9 1 [.int .i64 F.vars, slV na no F.nodes.length cap sa, .int .i64 F.top, .int .i64 st, slV (some cb) 0 cost.length cc, .int .i64 ((SS.mk set total true)).best, .int .i64 ((SS.mk set total true)).total, .bool ((SS.mk set total true)).found, errV 73 none] :: H) Try.results42 (fun _ _ h => h) (Le.refl _) ⟨rfl, rfl⟩
      · exact absurd hc6 (by first | decide | simp)
    try simp only [decide_eq_true_eq, decide_eq_false_iff_not, Bool.and_eq_true, Bool.or_eq_true, Bool.not_eq_true', Bool.and_eq_false_iff, Bool.or_eq_false_iff, Bool.not_eq_false', Int.not_lt, Int.not_le, ne_eq, Decidable.not_not, Option.isSome_iff_ne_none, Option.isNone_iff_eq_none] at hc5
    have hvt : ¬ F.value (iandn st set) = false := by simpa using hc5
    obtain ⟨w1, w2, w3⟩ := m3 (by rw [hc3]; decide) hvt
    refine Tri.fin ?_
    refine Nrm.next ?_
    refine Tri.seq ?_
    refine Tri.block ?_
    refine Tri.loop (X := Nat) (fun x => [(0, .pointer (some ⟨bs, 0, none⟩)), (1, natV x), (2, .int .i64 set), (3, .int .i64 total)]) (fun x => row (some bs) 106 9 1 [.int .i64 F.vars, slV na no F.nodes.length cap sa, .int .i64 F.top, .int .i64 st, slV (some cb) 0 cost.length cc, .int .i64 ((SS.mk bst tot fnd)).best, .int .i64 ((SS.mk bst tot fnd)).total, .bool ((SS.mk bst tot fnd)).found, errV 73 none] :: H) (fun x => x ≤ v ∧ skipJ st v (v - x) x = skipJ st v (v - i) i) (fun x => v - x) i ⟨w1, rfl⟩ ⟨rfl, rfl, rfl, rfl, trivial⟩ (by repeat (first | exact Le.refl _ | assumption | apply Le.drop)) (fun x hp => ?_)
    obtain ⟨p1, p2⟩ := hp
    obtain ⟨j, rfl⟩ : ∃ j, j = x := ⟨_, rfl⟩
    refine Tri.seq ?_
    refine Tri.seq (Tri.region ?_)
    refine TOps.move rfl rfl ?_
    refine TOps.move rfl rfl ?_
    refine TOps.nilCheck rfl rfl ?_
    refine TOps.field0 rfl Try.underlying106 rfl rfl ti24 rfl rfl rfl ?_
    refine TOps.field0 rfl Try.underlying24 rfl rfl ti3 rfl rfl rfl ?_
    refine TOps.load1 rfl ti3 (Rd.fld rs 0 rfl) rfl ?_
    refine TOps.lss rfl rfl rfl ?_
    refine TOps.move rfl rfl ?_
    refine' TOps.andB 9 rfl rfl rfl rfl (fun hg12_7 => ?_) ?_; rotate_left
    · have hg12_7' := hg12_7
      try simp only [decide_eq_true_eq, decide_eq_false_iff_not, Bool.and_eq_true, Bool.or_eq_true, Bool.not_eq_true', Bool.and_eq_false_iff, Bool.or_eq_false_iff, Bool.not_eq_false', Int.not_lt, Int.not_le, ne_eq, Decidable.not_not] at hg12_7'
      refine TOps.strip 7 true rfl rfl hg12_7 rfl ?_
      refine TOps.move rfl rfl ?_
      refine TOps.nilCheck rfl rfl ?_
      first | refine TOps.fieldB 3 rfl Try.underlying106 rfl rfl ti55 rfl rfl rfl ?_ | refine TOps.fieldN 3 rfl Try.underlying106 rfl rfl ti55 rfl rfl rfl ?_
      refine TOps.field0 rfl Try.underlying55 rfl rfl ti3 rfl rfl rfl ?_
      refine TOps.load1 rfl ti3 (Rd.fld rs 3 rfl) rfl ?_
      refine TOps.move rfl rfl ?_
      refine TOps.shr (r := ishr st j) rfl rfl (by omega) rfl rfl ?_
      refine TOps.and rfl rfl rfl rfl ?_
      refine TOps.eqlI rfl rfl rfl ?_
      refine TOps.blk rfl (by repeat (first | exact Ext.refl _ | refine Ext.cons rfl ?_)) (by repeat (first | exact Le.refl _ | apply Le.drop))
    refine TOps.next ?_
    refine Tri.cond rfl (fun hc7 => ?_) (fun hc7 => ?_)
    · try simp only [decide_eq_true_eq, decide_eq_false_iff_not, Bool.and_eq_true, Bool.or_eq_true, Bool.not_eq_true', Bool.and_eq_false_iff, Bool.or_eq_false_iff, Bool.not_eq_false', Int.not_lt, Int.not_le, ne_eq, Decidable.not_not, Option.isSome_iff_ne_none, Option.isNone_iff_eq_none] at hc7
      refine Tri.fin ?_
      refine Nrm.next ?_
      refine Tri.block ?_
      refine Tri.region ?_
      refine TOps.move rfl rfl ?_
      refine TOps.add (r := ((j + 1 : Nat) : Int)) rfl rfl (by rw [wrapI (by omega) (by omega)]; omega) rfl ?_
      refine TOps.assign rfl rfl ?_
      refine TOps.fin ?_
      refine Nrm.unB ?_
      refine Nrm.loop (j + 1) ⟨by omega, by rw [← p2]; exact (skipJ_step (by omega) hc7.2).symm⟩ (by omega) ⟨rfl, rfl, rfl, rfl, trivial⟩ (by repeat (first | exact Le.refl _ | assumption | apply Le.drop))
    try simp only [decide_eq_true_eq, decide_eq_false_iff_not, Bool.and_eq_true, Bool.or_eq_true, Bool.not_eq_true', Bool.and_eq_false_iff, Bool.or_eq_false_iff, Bool.not_eq_false', Int.not_lt, Int.not_le, ne_eq, Decidable.not_not, Option.isSome_iff_ne_none, Option.isNone_iff_eq_none] at hc7
    rw [skipJ_stop (fun h => hc7.elim (fun h1 => by omega) (fun h1 => h1 h.2))] at p2
    rw [← p2] at w2 w3
    first | refine Tri.exitW ?_ | (refine Tri.exitTo ?_; repeat (with_reducible first | refine ExitTo.blk ?_ | refine ExitTo.blkNe rfl ?_ | refine ExitTo.body ?_ | refine ExitTo.brk rfl ?_ | refine ExitTo.bodyNe rfl rfl ?_ | refine ExitTo.seq ?_ | refine ExitTo.loop ?_))
    refine Nrm.next ?_
    refine Tri.seq ?_
    refine Tri.seq (Tri.region ?_)
    refine TOps.move rfl rfl ?_
    refine TOps.move rfl rfl ?_
    refine TOps.nilCheck rfl rfl ?_
    refine TOps.field0 rfl Try.underlying106 rfl rfl ti24 rfl rfl rfl ?_
    refine TOps.field0 rfl Try.underlying24 rfl rfl ti3 rfl rfl rfl ?_
    refine TOps.load1 rfl ti3 (Rd.fld rs 0 rfl) rfl ?_
    refine TOps.eqlI rfl rfl rfl ?_
    refine TOps.next ?_
    refine Tri.cond rfl (fun hc8 => ?_) (fun hc8 => ?_)
    · try simp only [decide_eq_true_eq, decide_eq_false_iff_not, Bool.and_eq_true, Bool.or_eq_true, Bool.not_eq_true', Bool.and_eq_false_iff, Bool.or_eq_false_iff, Bool.not_eq_false', Int.not_lt, Int.not_le, ne_eq, Decidable.not_not, Option.isSome_iff_ne_none, Option.isNone_iff_eq_none] at hc8
      rw [w2 (by omega)]
      refine Tri.ret0 (H' := row (some bs) 106 9 1 [.int .i64 F.vars, slV na no F.nodes.length cap sa, .int .i64 F.top, .int .i64 st, slV (some cb) 0 cost.length cc, .int .i64 ((SS.mk bst tot fnd)).best, .int .i64 ((SS.mk bst tot fnd)).total, .bool ((SS.mk bst tot fnd)).found, errV 73 none] :: H) Try.results42 (fun _ _ h => h) (Le.refl _) ⟨rfl, rfl⟩
    try simp only [decide_eq_true_eq, decide_eq_false_iff_not, Bool.and_eq_true, Bool.or_eq_true, Bool.not_eq_true', Bool.and_eq_false_iff, Bool.or_eq_false_iff, Bool.not_eq_false', Int.not_lt, Int.not_le, ne_eq, Decidable.not_not, Option.isSome_iff_ne_none, Option.isNone_iff_eq_none] at hc8
    obtain ⟨w4, w5, w6, s1, w7, w8⟩ := w3 (by omega)
    have hjv : j ≤ 24 := by have := hg; omega
    have hrj : Rd H cb j [.int .i64 (cost.getD j 0)] := by have := Rd.part hrc j (v := .int .i64 (cost.getD j 0)) (by simp [ints, w4]); rw [Nat.zero_add] at this; exact this
    refine Tri.fin ?_
    refine Nrm.next ?_
    refine Tri.seq ?_
    refine Tri.drawX (X := Unit) rfl [(0, .pointer (some ⟨bs, 0, none⟩)), (1, natV j), (2, .int .i64 set), (3, .int .i64 total)] [] (fun x => [_, _, _, _, _, _, _, _, _, _, _, _, _, _, _, _, _, .tuple (List.toArray [])]) (fun x c => match c with | 0 => row (some bs) 106 9 1 [.int .i64 F.vars, slV na no F.nodes.length cap sa, .int .i64 F.top, .int .i64 st, slV (some cb) 0 cost.length cc, .int .i64 ((SS.mk bst tot fnd)).best, .int .i64 ((SS.mk bst tot fnd)).total, .bool ((SS.mk bst tot fnd)).found, errV 73 none] :: H | _ + 1 => row (some bs) 106 9 1 [.int .i64 F.vars, slV na no F.nodes.length cap sa, .int .i64 F.top, .int .i64 st, slV (some cb) 0 cost.length cc, .int .i64 (s1).best, .int .i64 (s1).total, .bool (s1).found, errV 73 none] :: H) [17] () [] rfl rfl ⟨rfl, rfl, rfl, rfl, trivial⟩ trivial (by repeat (first | exact Le.refl _ | assumption | apply Le.drop)) (by
      refine ⟨?_, ?_, ?_, ?_, ?_, ?_, ?_, ?_, ?_, ?_, ?_, ?_, ?_, ?_, ?_, ?_, ?_, ?_, trivial⟩
      · refine ⟨fun x S c he hw hd hc hcu hm _ => ?_, trivial⟩
        refine TOps.move (he _ _ rfl) rfl ?_
        exact TOps.fd x rfl rfl
      · refine ⟨fun x S c he hw hd hc hcu hm _ => ?_, trivial⟩
        refine TOps.move (he _ _ rfl) rfl ?_
        exact TOps.fd x rfl rfl
      · refine ⟨fun x S c he hw hd hc hcu hm _ => ?_, trivial⟩
        obtain ⟨h1, -⟩ := hd
        refine TOps.add (r := ((j + 1 : Nat) : Int)) h1 rfl (by rw [wrapI (by omega) (by omega)]; omega) rfl ?_
        exact TOps.fd x rfl rfl
      · refine ⟨fun x S c he hw hd hc hcu hm _ => ?_, trivial⟩
        refine TOps.move (he _ _ rfl) rfl ?_
        exact TOps.fd x rfl rfl
      · refine ⟨fun x S c he hw hd hc hcu hm _ => ?_, trivial⟩
        refine TOps.move (he _ _ rfl) rfl ?_
        exact TOps.fd x rfl rfl
      · refine ⟨fun x S c he hw hd hc hcu hm _ => ?_, trivial⟩
        obtain ⟨h4, -⟩ := hd
        refine TOps.shl (r := ((2 ^ j : Nat) : Int)) rfl h4 (by omega) (ishl_one (by omega)) rfl ?_
        exact TOps.fd x rfl rfl
      · refine ⟨fun x S c he hw hd hc hcu hm _ => ?_, trivial⟩
        obtain ⟨h3, h5, -⟩ := hd
        refine TOps.or (r := ior set ((2 ^ j : Nat) : Int)) h3 h5 rfl rfl ?_
        exact TOps.fd x rfl rfl
      · refine ⟨fun x S c he hw hd hc hcu hm _ => ?_, trivial⟩
        refine TOps.move (he _ _ rfl) rfl ?_
        exact TOps.fd x rfl rfl
      · refine ⟨fun x S c he hw hd hc hcu hm _ => ?_, trivial⟩
        refine TOps.move (he _ _ rfl) rfl ?_
        exact TOps.fd x rfl rfl
      · refine ⟨fun x S c he hw hd hc hcu hm _ => ?_, trivial⟩
        obtain ⟨h8, -⟩ := hd
        refine TOps.nilCheck h8 rfl ?_
        exact TOps.fd x rfl rfl
      · refine ⟨fun x S c he hw hd hc hcu hm _ => ?_, trivial⟩
        obtain ⟨h9, -⟩ := hd
        first | refine TOps.fieldB 3 h9 Try.underlying106 rfl rfl ti55 rfl rfl rfl ?_ | refine TOps.fieldN 3 h9 Try.underlying106 rfl rfl ti55 rfl rfl rfl ?_
        exact TOps.fd x rfl rfl
      · refine ⟨fun x S c he hw hd hc hcu hm _ => ?_, trivial⟩
        obtain ⟨h10, -⟩ := hd
        first | refine TOps.fieldB 1 h10 Try.underlying55 rfl rfl ti53 rfl rfl rfl ?_ | refine TOps.fieldN 1 h10 Try.underlying55 rfl rfl ti53 rfl rfl rfl ?_
        exact TOps.fd x rfl rfl
      · refine ⟨fun x S c he hw hd hc hcu hm _ => ?_, trivial⟩
        obtain ⟨h11, -⟩ := hd
        obtain rfl : c = 0 := by have : c ≤ 0 := hcu; omega
        refine TOps.load1 h11 ti53 (Rd.fld rs 4 rfl) rfl ?_
        exact TOps.fd x rfl rfl
      · refine ⟨fun x S c he hw hd hc hcu hm _ => ?_, trivial⟩
        refine TOps.move (he _ _ rfl) rfl ?_
        exact TOps.fd x rfl rfl
      · refine ⟨fun x S c he hw hd hc hcu hm _ => ?_, trivial⟩
        obtain ⟨h12, h13, -⟩ := hd
        refine TOps.indexAddr (b := cb) (off := 0) (m := cost.length) (cap := cc) (off' := j) h12 h13 Try.underlying53 ti3 (by omega) (by omega) (by simp) rfl ?_
        exact TOps.fd x rfl rfl
      · refine ⟨fun x S c he hw hd hc hcu hm _ => ?_, trivial⟩
        obtain ⟨h14, -⟩ := hd
        obtain rfl : c = 0 := by have : c ≤ 0 := hcu; omega
        refine TOps.load1 h14 ti3 (hrj.le (Le.drop (Le.refl _))) rfl ?_
        exact TOps.fd x rfl rfl
      · refine ⟨fun x S c he hw hd hc hcu hm _ => ?_, trivial⟩
        obtain ⟨h7, h15, -⟩ := hd
        refine TOps.add (r := total + cost.getD j 0) h7 h15 (by rw [wrapI (by omega) (by omega)]) rfl ?_
        exact TOps.fd x rfl rfl
      · refine ⟨fun x S c he hw hd hc hcu hm _ => ?_, trivial⟩
        obtain ⟨h0, h2, h6, h16, -⟩ := hd
        obtain rfl : c = 0 := hm rfl
        refine TOps.call (vs := [_, _, _, _]) Try.call42 ⟨h0, h2, h6, h16, trivial⟩ (ih hF0 hrc w7) rfl ?_
        rintro _ _ ⟨rfl, rfl⟩
        exact TOps.fd x rfl rfl
      ) (fun u0 => ?_)
    refine Nrm.next ?_
    refine Tri.region ?_
    refine TOps.move rfl rfl ?_
    refine TOps.move rfl rfl ?_
    refine TOps.add (r := ((j + 1 : Nat) : Int)) rfl rfl (by rw [wrapI (by omega) (by omega)]; omega) rfl ?_
    refine TOps.move rfl rfl ?_
    refine TOps.move rfl rfl ?_
    refine TOps.call (vs := [_, _, _, _]) Try.call42 ⟨rfl, rfl, rfl, rfl, trivial⟩ (ih hF0 hrc w8) rfl ?_
    rintro _ _ ⟨rfl, rfl⟩
    refine TOps.fin ?_
    exact Nrm.ret0 (H' := row (some bs) 106 9 1 [.int .i64 F.vars, slV na no F.nodes.length cap sa, .int .i64 F.top, .int .i64 st, slV (some cb) 0 cost.length cc, .int .i64 (s').best, .int .i64 (s').total, .bool (s').found, errV 73 none] :: H) Try.results42 (Le.refl _) ⟨rfl, rfl⟩
  · skip
    replace q1 := q1 hfe
    refine Tri.drawC rfl [(0, .pointer (some ⟨bs, 0, none⟩)), (1, natV i), (2, .int .i64 set), (3, .int .i64 total)] [] [_, _, _, _, _, _, _, _, _, _, _, _, _, _, _, _, _, _, _, _, _, _, _, _, _, _, _, _, _, _, _, _, _, _, _, _, _] (row (some bs) 106 9 1 [.int .i64 F.vars, slV na no F.nodes.length cap sa, .int .i64 F.top, .int .i64 st, slV (some cb) 0 cost.length cc, .int .i64 ((SS.mk bst tot fnd)).best, .int .i64 ((SS.mk bst tot fnd)).total, .bool ((SS.mk bst tot fnd)).found, errV 73 none] :: H) [36] rfl ⟨rfl, rfl, rfl, rfl, trivial⟩ trivial (by repeat (first | exact Le.refl _ | assumption | apply Le.drop)) (by
      refine ⟨?_, ?_, ?_, ?_, ?_, ?_, ?_, ?_, ?_, ?_, ?_, ?_, ?_, ?_, ?_, ?_, ?_, ?_, ?_, ?_, ?_, ?_, ?_, ?_, ?_, ?_, ?_, ?_, ?_, ?_, ?_, ?_, ?_, ?_, ?_, ?_, ?_, trivial⟩
      · refine ⟨fun x S c he hw hd hc hcu hm _ => ?_, trivial⟩
        refine TOps.move (he _ _ rfl) rfl ?_
        exact TOps.fd x rfl rfl
      · refine ⟨fun x S c he hw hd hc hcu hm _ => ?_, trivial⟩
        obtain ⟨h0, -⟩ := hd
        refine TOps.nilCheck h0 rfl ?_
        exact TOps.fd x rfl rfl
      · refine ⟨fun x S c he hw hd hc hcu hm _ => ?_, trivial⟩
        obtain ⟨h1, -⟩ := hd
        first | refine TOps.fieldB 8 h1 Try.underlying106 rfl rfl ti34 rfl rfl rfl ?_ | refine TOps.fieldN 8 h1 Try.underlying106 rfl rfl ti34 rfl rfl rfl ?_
        exact TOps.fd x rfl rfl
      · refine ⟨fun x S c he hw hd hc hcu hm _ => ?_, trivial⟩
        obtain ⟨h2, -⟩ := hd
        refine TOps.load1 (v := errV 73 none) h2 ti34 (Rd.fld rs 8 rfl) rfl ?_
        exact TOps.fd x rfl rfl
      · refine ⟨fun x S c he hw hd hc hcu hm _ => ?_, trivial⟩
        obtain ⟨h3, -⟩ := hd
        refine TOps.neqNil (T := 73) (o := none) h3 Try.underlying34 rfl ?_
        exact TOps.fd x rfl rfl
      · refine ⟨fun x S c he hw hd hc hcu hm _ => ?_, trivial⟩
        obtain ⟨h4, -⟩ := hd
        refine TOps.move h4 rfl ?_
        exact TOps.fd x rfl rfl
      · refine ⟨fun x S c he hw hd hc hcu hm hgd => ?_, ⟨_, rfl⟩, .inl ⟨rfl, fun x => .inl rfl⟩⟩
        obtain ⟨h5, -⟩ := hd
        refine TOps.move (he _ _ rfl) rfl ?_
        exact TOps.fd x rfl rfl
      · refine ⟨fun x S c he hw hd hc hcu hm hgd => ?_, ⟨_, rfl⟩, .inl ⟨rfl, fun x => .inl rfl⟩⟩
        obtain ⟨h6, h5, -⟩ := hd
        refine TOps.nilCheck h6 rfl ?_
        exact TOps.fd x rfl rfl
      · refine ⟨fun x S c he hw hd hc hcu hm hgd => ?_, ⟨_, rfl⟩, .inl ⟨rfl, fun x => .inl rfl⟩⟩
        obtain ⟨h7, h5, -⟩ := hd
        first | refine TOps.fieldB 7 h7 Try.underlying106 rfl rfl ti4 rfl rfl rfl ?_ | refine TOps.fieldN 7 h7 Try.underlying106 rfl rfl ti4 rfl rfl rfl ?_
        exact TOps.fd x rfl rfl
      · refine ⟨fun x S c he hw hd hc hcu hm hgd => ?_, ⟨_, rfl⟩, .inl ⟨rfl, fun x => .inl rfl⟩⟩
        obtain ⟨h8, h5, -⟩ := hd
        first | refine TOps.load1 (v := .bool false) h8 ti4 (Rd.eqv (Rd.fld rs 7 rfl) (congrArg Value.bool hfe)) rfl ?_ | refine TOps.load1 (v := .bool true) h8 ti4 (Rd.eqv (Rd.fld rs 7 rfl) (congrArg Value.bool hfe)) rfl ?_
        exact TOps.fd x rfl rfl
      · refine ⟨fun x S c he hw hd hc hcu hm hgd => ?_, ⟨_, rfl⟩, .inl ⟨rfl, fun x => .inl rfl⟩⟩
        obtain ⟨h9, h5, _, -⟩ := hd
        refine TOps.move h9 rfl ?_
        exact TOps.fd x rfl rfl
      · refine ⟨fun x S c he hw hd hc hcu hm hgd => ?_, ⟨_, rfl⟩, .inl ⟨rfl, fun x => .inl rfl⟩⟩
        obtain ⟨h10, -⟩ := hd
        refine TOps.move (he _ _ rfl) rfl ?_
        exact TOps.fd x rfl rfl
      · refine ⟨fun x S c he hw hd hc hcu hm hgd => ?_, ⟨_, rfl⟩, .inl ⟨rfl, fun x => .inl rfl⟩⟩
        obtain ⟨h10, -⟩ := hd
        refine TOps.move (he _ _ rfl) rfl ?_
        exact TOps.fd x rfl rfl
      · refine ⟨fun x S c he hw hd hc hcu hm hgd => ?_, ⟨_, rfl⟩, .inl ⟨rfl, fun x => .inl rfl⟩⟩
        obtain ⟨h12, h10, -⟩ := hd
        refine TOps.nilCheck h12 rfl ?_
        exact TOps.fd x rfl rfl
      · refine ⟨fun x S c he hw hd hc hcu hm hgd => ?_, ⟨_, rfl⟩, .inl ⟨rfl, fun x => .inl rfl⟩⟩
        obtain ⟨h13, h10, -⟩ := hd
        first | refine TOps.fieldB 6 h13 Try.underlying106 rfl rfl ti3 rfl rfl rfl ?_ | refine TOps.fieldN 6 h13 Try.underlying106 rfl rfl ti3 rfl rfl rfl ?_
        exact TOps.fd x rfl rfl
      · refine ⟨fun x S c he hw hd hc hcu hm hgd => ?_, ⟨_, rfl⟩, .inl ⟨rfl, fun x => .inl rfl⟩⟩
        obtain ⟨h14, h10, -⟩ := hd
        refine TOps.load1 h14 ti3 (Rd.fld rs 6 rfl) rfl ?_
        exact TOps.fd x rfl rfl
      · refine ⟨fun x S c he hw hd hc hcu hm hgd => ?_, ⟨_, rfl⟩, .inl ⟨rfl, fun x => .inl rfl⟩⟩
        obtain ⟨h11, h15, h10, -⟩ := hd
        refine TOps.gtrr (r := false) h11 h15 (by simp; omega) rfl ?_
        exact TOps.fd x rfl rfl
      · refine ⟨fun x S c he hw hd hc hcu hm hgd => ?_, ⟨_, rfl⟩, .inl ⟨rfl, fun x => .inl rfl⟩⟩
        obtain ⟨h16, h10, _, -⟩ := hd
        refine TOps.move h16 rfl ?_
        exact TOps.fd x rfl rfl
      · refine ⟨fun x S c he hw hd hc hcu hm hgd => ?_, ⟨_, rfl⟩, .inl ⟨rfl, fun x => .inl rfl⟩⟩
        obtain ⟨h17, -⟩ := hd
        refine TOps.move (he _ _ rfl) rfl ?_
        exact TOps.fd x rfl rfl
      · refine ⟨fun x S c he hw hd hc hcu hm hgd => ?_, ⟨_, rfl⟩, .inl ⟨rfl, fun x => .inl rfl⟩⟩
        obtain ⟨h17, -⟩ := hd
        refine TOps.move (he _ _ rfl) rfl ?_
        exact TOps.fd x rfl rfl
      · refine ⟨fun x S c he hw hd hc hcu hm hgd => ?_, ⟨_, rfl⟩, .inl ⟨rfl, fun x => .inl rfl⟩⟩
        obtain ⟨h19, h17, -⟩ := hd
        refine TOps.nilCheck h19 rfl ?_
        exact TOps.fd x rfl rfl
      · refine ⟨fun x S c he hw hd hc hcu hm hgd => ?_, ⟨_, rfl⟩, .inl ⟨rfl, fun x => .inl rfl⟩⟩
        obtain ⟨h20, h17, -⟩ := hd
        first | refine TOps.fieldB 6 h20 Try.underlying106 rfl rfl ti3 rfl rfl rfl ?_ | refine TOps.fieldN 6 h20 Try.underlying106 rfl rfl ti3 rfl rfl rfl ?_
        exact TOps.fd x rfl rfl
      · refine ⟨fun x S c he hw hd hc hcu hm hgd => ?_, ⟨_, rfl⟩, .inl ⟨rfl, fun x => .inl rfl⟩⟩
        obtain ⟨h21, h17, -⟩ := hd
        refine TOps.load1 h21 ti3 (Rd.fld rs 6 rfl) rfl ?_
        exact TOps.fd x rfl rfl
      · refine ⟨fun x S c he hw hd hc hcu hm hgd => ?_, ⟨_, rfl⟩, .inl ⟨rfl, fun x => .inl rfl⟩⟩
        obtain ⟨h18, h22, h17, -⟩ := hd
        refine TOps.eqlIr (r := false) h18 h22 (by simp; omega) rfl ?_
        exact TOps.fd x rfl rfl
      · refine ⟨fun x S c he hw hd hc hcu hm hgd => ?_, ⟨_, rfl⟩, .inl ⟨rfl, fun x => .inl rfl⟩⟩
        obtain ⟨h23, h17, _, -⟩ := hd
        refine TOps.move h23 rfl ?_
        exact TOps.fd x rfl rfl
      · refine ⟨fun x S c he hw hd hc hcu hm hgd => ?_, ⟨_, rfl⟩, .inl ⟨rfl, fun x => .inr ⟨.inl rfl, rfl⟩⟩⟩
        exact absurd hgd (by first | (intro h; cases h; done) | simp_all)
      · refine ⟨fun x S c he hw hd hc hcu hm hgd => ?_, ⟨_, rfl⟩, .inl ⟨rfl, fun x => .inr ⟨.inl rfl, rfl⟩⟩⟩
        exact absurd hgd (by first | (intro h; cases h; done) | simp_all)
      · refine ⟨fun x S c he hw hd hc hcu hm hgd => ?_, ⟨_, rfl⟩, .inl ⟨rfl, fun x => .inr ⟨.inl rfl, rfl⟩⟩⟩
        exact absurd hgd (by first | (intro h; cases h; done) | simp_all)
      · refine ⟨fun x S c he hw hd hc hcu hm hgd => ?_, ⟨_, rfl⟩, .inl ⟨rfl, fun x => .inr ⟨.inl rfl, rfl⟩⟩⟩
        exact absurd hgd (by first | (intro h; cases h; done) | simp_all)
      · refine ⟨fun x S c he hw hd hc hcu hm hgd => ?_, ⟨_, rfl⟩, .inl ⟨rfl, fun x => .inr ⟨.inl rfl, rfl⟩⟩⟩
        exact absurd hgd (by first | (intro h; cases h; done) | simp_all)
      · refine ⟨fun x S c he hw hd hc hcu hm hgd => ?_, ⟨_, rfl⟩, .inl ⟨rfl, fun x => .inr ⟨.inl rfl, rfl⟩⟩⟩
        exact absurd hgd (by first | (intro h; cases h; done) | simp_all)
      · refine ⟨fun x S c he hw hd hc hcu hm hgd => ?_, ⟨_, rfl⟩, .inl ⟨rfl, fun x => .inr ⟨.inl rfl, rfl⟩⟩⟩
        exact absurd hgd (by first | (intro h; cases h; done) | simp_all)
      · refine ⟨fun x S c he hw hd hc hcu hm hgd => ?_, ⟨_, rfl⟩, .inl ⟨rfl, fun x => .inr ⟨.inl rfl, rfl⟩⟩⟩
        exact absurd hgd (by first | (intro h; cases h; done) | simp_all)
      · refine ⟨fun x S c he hw hd hc hcu hm hgd => ?_, ⟨_, rfl⟩, .inl ⟨rfl, fun x => .inl rfl⟩⟩
        obtain ⟨h24, h32, h17, -⟩ := hd
        refine TOps.pick h24 h32 rfl rfl ?_
        exact TOps.fd x rfl rfl
      · refine ⟨fun x S c he hw hd hc hcu hm hgd => ?_, ⟨_, rfl⟩, .inl ⟨rfl, fun x => .inl rfl⟩⟩
        obtain ⟨h17, h33, h10, -⟩ := hd
        refine TOps.pick h17 rfl h33 rfl ?_
        exact TOps.fd x rfl rfl
      · refine ⟨fun x S c he hw hd hc hcu hm hgd => ?_, ⟨_, rfl⟩, .inl ⟨rfl, fun x => .inl rfl⟩⟩
        obtain ⟨h10, h34, h5, -⟩ := hd
        refine TOps.pick h10 h34 rfl rfl ?_
        exact TOps.fd x rfl rfl
      · refine ⟨fun x S c he hw hd hc hcu hm _ => ?_, trivial⟩
        obtain ⟨h5, h35, -⟩ := hd
        refine TOps.pick h5 rfl h35 rfl ?_
        exact TOps.fd x rfl rfl
      ) ?_
    refine Nrm.next ?_
    refine Tri.cond rfl (fun hc1 => ?_) (fun hc1 => ?_)
    · exact absurd hc1 (by first | decide | simp)
    try simp only [decide_eq_true_eq, decide_eq_false_iff_not, Bool.and_eq_true, Bool.or_eq_true, Bool.not_eq_true', Bool.and_eq_false_iff, Bool.or_eq_false_iff, Bool.not_eq_false', Int.not_lt, Int.not_le, ne_eq, Decidable.not_not, Option.isSome_iff_ne_none, Option.isNone_iff_eq_none] at hc1
    refine Tri.fin ?_
    refine Nrm.next ?_
    refine Tri.seq ?_
    refine Tri.drawC rfl [(0, .pointer (some ⟨bs, 0, none⟩)), (1, natV i), (2, .int .i64 set), (3, .int .i64 total)] [] [_, _, _, _, _, _, _, _, _, _] (row (some bs) 106 9 1 [.int .i64 F.vars, slV na no F.nodes.length cap sa, .int .i64 F.top, .int .i64 st, slV (some cb) 0 cost.length cc, .int .i64 ((SS.mk bst tot fnd)).best, .int .i64 ((SS.mk bst tot fnd)).total, .bool ((SS.mk bst tot fnd)).found, errV 73 none] :: H) [9] rfl ⟨rfl, rfl, rfl, rfl, trivial⟩ trivial (by repeat (first | exact Le.refl _ | assumption | apply Le.drop)) (by
      refine ⟨?_, ?_, ?_, ?_, ?_, ?_, ?_, ?_, ?_, ?_, trivial⟩
      · refine ⟨fun x S c he hw hd hc hcu hm _ => ?_, trivial⟩
        refine TOps.move (he _ _ rfl) rfl ?_
        exact TOps.fd x rfl rfl
      · refine ⟨fun x S c he hw hd hc hcu hm _ => ?_, trivial⟩
        obtain ⟨h0, -⟩ := hd
        refine TOps.nilCheck h0 rfl ?_
        exact TOps.fd x rfl rfl
      · refine ⟨fun x S c he hw hd hc hcu hm _ => ?_, trivial⟩
        obtain ⟨h1, -⟩ := hd
        first | refine TOps.fieldB 3 h1 Try.underlying106 rfl rfl ti55 rfl rfl rfl ?_ | refine TOps.fieldN 3 h1 Try.underlying106 rfl rfl ti55 rfl rfl rfl ?_
        exact TOps.fd x rfl rfl
      · refine ⟨fun x S c he hw hd hc hcu hm _ => ?_, trivial⟩
        obtain ⟨h2, -⟩ := hd
        refine TOps.field0 h2 Try.underlying55 rfl rfl ti3 rfl rfl rfl ?_
        exact TOps.fd x rfl rfl
      · refine ⟨fun x S c he hw hd hc hcu hm _ => ?_, trivial⟩
        obtain ⟨h3, -⟩ := hd
        refine TOps.load1 h3 ti3 (Rd.fld rs 3 rfl) rfl ?_
        exact TOps.fd x rfl rfl
      · refine ⟨fun x S c he hw hd hc hcu hm _ => ?_, trivial⟩
        refine TOps.move (he _ _ rfl) rfl ?_
        exact TOps.fd x rfl rfl
      · refine ⟨fun x S c he hw hd hc hcu hm _ => ?_, trivial⟩
        obtain ⟨h5, -⟩ := hd
        refine TOps.shl (r := ((2 ^ i : Nat) : Int)) rfl h5 (by omega) (ishl_one (by omega)) rfl ?_
        exact TOps.fd x rfl rfl
      · refine ⟨fun x S c he hw hd hc hcu hm _ => ?_, trivial⟩
        obtain ⟨h6, -⟩ := hd
        refine TOps.sub (r := ((2 ^ i : Nat) : Int) - 1) h6 rfl (by have := Nat.two_pow_pos i; rw [wrapI (by omega) (by omega)]) rfl ?_
        exact TOps.fd x rfl rfl
      · refine ⟨fun x S c he hw hd hc hcu hm _ => ?_, trivial⟩
        obtain ⟨h4, h7, -⟩ := hd
        refine TOps.andNot (r := iandn st (((2 ^ i : Nat) : Int) - 1)) h4 h7 rfl rfl ?_
        exact TOps.fd x rfl rfl
      · refine ⟨fun x S c he hw hd hc hcu hm _ => ?_, trivial⟩
        obtain ⟨h8, h0, h1, h2, h3, h4, h5, h6, h7, _, -⟩ := hd
        refine TOps.assign h8 rfl ?_
        exact TOps.fd x rfl rfl
      ) ?_
    refine Nrm.next ?_
    refine Tri.seq ?_
    refine Tri.drawC rfl [(0, .pointer (some ⟨bs, 0, none⟩)), (1, natV i), (2, .int .i64 set), (3, .int .i64 total), (8, .int .i64 (iandn st (((2 ^ i : Nat) : Int) - 1)))] [] [_, _, _, _, _, _, _, _, _, _, _, _, _, _, _, _, _, _, _] (row (some bs) 106 9 1 [.int .i64 F.vars, slV na no F.nodes.length cap sa, .int .i64 F.top, .int .i64 st, slV (some cb) 0 cost.length cc, .int .i64 ((SS.mk bst tot fnd)).best, .int .i64 ((SS.mk bst tot fnd)).total, .bool ((SS.mk bst tot fnd)).found, errV 73 none] :: H) [17, 18] rfl ⟨rfl, rfl, rfl, rfl, rfl, trivial⟩ trivial (by repeat (first | exact Le.refl _ | assumption | apply Le.drop)) (by
      refine ⟨?_, ?_, ?_, ?_, ?_, ?_, ?_, ?_, ?_, ?_, ?_, ?_, ?_, ?_, ?_, ?_, ?_, ?_, ?_, trivial⟩
      · refine ⟨fun x S c he hw hd hc hcu hm _ => ?_, trivial⟩
        refine TOps.move (he _ _ rfl) rfl ?_
        exact TOps.fd x rfl rfl
      · refine ⟨fun x S c he hw hd hc hcu hm _ => ?_, trivial⟩
        obtain ⟨h0, -⟩ := hd
        refine TOps.nilCheck h0 rfl ?_
        exact TOps.fd x rfl rfl
      · refine ⟨fun x S c he hw hd hc hcu hm _ => ?_, trivial⟩
        obtain ⟨h1, -⟩ := hd
        refine TOps.field0 h1 Try.underlying106 rfl rfl ti24 rfl rfl rfl ?_
        exact TOps.fd x rfl rfl
      · refine ⟨fun x S c he hw hd hc hcu hm _ => ?_, trivial⟩
        obtain ⟨h2, -⟩ := hd
        refine TOps.loadN (vs := fc3 F na no cap sa) h2 ti24 (Rd.pre rs 3) rfl rfl ?_
        exact TOps.fd x rfl rfl
      · refine ⟨fun x S c he hw hd hc hcu hm _ => ?_, trivial⟩
        refine TOps.move (he _ _ rfl) rfl ?_
        exact TOps.fd x rfl rfl
      · refine ⟨fun x S c he hw hd hc hcu hm _ => ?_, trivial⟩
        obtain ⟨h4, -⟩ := hd
        refine TOps.nilCheck h4 rfl ?_
        exact TOps.fd x rfl rfl
      · refine ⟨fun x S c he hw hd hc hcu hm _ => ?_, trivial⟩
        obtain ⟨h5, -⟩ := hd
        first | refine TOps.fieldB 3 h5 Try.underlying106 rfl rfl ti55 rfl rfl rfl ?_ | refine TOps.fieldN 3 h5 Try.underlying106 rfl rfl ti55 rfl rfl rfl ?_
        exact TOps.fd x rfl rfl
      · refine ⟨fun x S c he hw hd hc hcu hm _ => ?_, trivial⟩
        obtain ⟨h6, -⟩ := hd
        refine TOps.field0 h6 Try.underlying55 rfl rfl ti3 rfl rfl rfl ?_
        exact TOps.fd x rfl rfl
      · refine ⟨fun x S c he hw hd hc hcu hm _ => ?_, trivial⟩
        obtain ⟨h7, -⟩ := hd
        refine TOps.load1 h7 ti3 (Rd.fld rs 3 rfl) rfl ?_
        exact TOps.fd x rfl rfl
      · refine ⟨fun x S c he hw hd hc hcu hm _ => ?_, trivial⟩
        refine TOps.move (he _ _ rfl) rfl ?_
        exact TOps.fd x rfl rfl
      · refine ⟨fun x S c he hw hd hc hcu hm _ => ?_, trivial⟩
        refine TOps.move (he _ _ rfl) rfl ?_
        exact TOps.fd x rfl rfl
      · refine ⟨fun x S c he hw hd hc hcu hm _ => ?_, trivial⟩
        obtain ⟨h9, h10, -⟩ := hd
        refine TOps.or (r := ior set (iandn st (((2 ^ i : Nat) : Int) - 1))) h9 h10 rfl rfl ?_
        exact TOps.fd x rfl rfl
      · refine ⟨fun x S c he hw hd hc hcu hm _ => ?_, trivial⟩
        obtain ⟨h8, h11, -⟩ := hd
        refine TOps.andNot (r := iandn st (ior set (iandn st (((2 ^ i : Nat) : Int) - 1)))) h8 h11 rfl rfl ?_
        exact TOps.fd x rfl rfl
      · refine ⟨fun x S c he hw hd hc hcu hm _ => ?_, trivial⟩
        obtain ⟨h3, h12, -⟩ := hd
        refine TOps.call (vs := [_, _]) Try.call9 ⟨h3, h12, trivial⟩ (valueOk_g (hF0.le (Le.drop (Le.refl _))) hk q5) rfl ?_
        rintro _ _ ⟨rfl, rfl⟩
        exact TOps.fd x rfl rfl
      · refine ⟨fun x S c he hw hd hc hcu hm _ => ?_, trivial⟩
        obtain ⟨h13, -⟩ := hd
        refine TOps.move h13 rfl ?_
        exact TOps.fd x rfl rfl
      · refine ⟨fun x S c he hw hd hc hcu hm _ => ?_, trivial⟩
        obtain ⟨h14, -⟩ := hd
        refine TOps.extract h14 rfl rfl ?_
        exact TOps.fd x rfl rfl
      · refine ⟨fun x S c he hw hd hc hcu hm _ => ?_, trivial⟩
        obtain ⟨h14, -⟩ := hd
        refine TOps.extract h14 rfl rfl ?_
        exact TOps.fd x rfl rfl
      · refine ⟨fun x S c he hw hd hc hcu hm _ => ?_, trivial⟩
        obtain ⟨h15, h13, h0, h1, h2, h3, h4, h5, h6, h7, h8, h9, h10, h11, h12, _, h14, _, -⟩ := hd
        refine TOps.assign h15 rfl ?_
        exact TOps.fd x rfl rfl
      · refine ⟨fun x S c he hw hd hc hcu hm _ => ?_, trivial⟩
        obtain ⟨h16, h17, h0, h1, h2, h3, h4, h5, h6, h7, h8, h9, h10, h11, h12, h13, h14, h15, _, _, -⟩ := hd
        refine TOps.assign h16 rfl ?_
        exact TOps.fd x rfl rfl
      ) ?_
    refine Nrm.next ?_
    refine Tri.seq ?_
    refine Tri.seq (Tri.region ?_)
    refine TOps.move rfl rfl ?_
    refine TOps.neqNil (T := 73) (o := none) rfl Try.underlying34 rfl ?_
    refine TOps.next ?_
    refine Tri.cond rfl (fun hc2 => ?_) (fun hc2 => ?_)
    · exact absurd hc2 (by first | decide | simp)
    try simp only [decide_eq_true_eq, decide_eq_false_iff_not, Bool.and_eq_true, Bool.or_eq_true, Bool.not_eq_true', Bool.and_eq_false_iff, Bool.or_eq_false_iff, Bool.not_eq_false', Int.not_lt, Int.not_le, ne_eq, Decidable.not_not, Option.isSome_iff_ne_none, Option.isNone_iff_eq_none] at hc2
    refine Tri.fin ?_
    refine Nrm.next ?_
    refine Tri.seq ?_
    refine Tri.seq (Tri.region ?_)
    refine TOps.move rfl rfl ?_
    refine TOps.next ?_
    refine Tri.cond rfl (fun hc3 => ?_) (fun hc3 => ?_)
    · try simp only [decide_eq_true_eq, decide_eq_false_iff_not, Bool.and_eq_true, Bool.or_eq_true, Bool.not_eq_true', Bool.and_eq_false_iff, Bool.or_eq_false_iff, Bool.not_eq_false', Int.not_lt, Int.not_le, ne_eq, Decidable.not_not, Option.isSome_iff_ne_none, Option.isNone_iff_eq_none] at hc3
      rw [m1 hc3]
      refine Tri.ret0 (H' := row (some bs) 106 9 1 [.int .i64 F.vars, slV na no F.nodes.length cap sa, .int .i64 F.top, .int .i64 st, slV (some cb) 0 cost.length cc, .int .i64 ((SS.mk bst tot fnd)).best, .int .i64 ((SS.mk bst tot fnd)).total, .bool ((SS.mk bst tot fnd)).found, errV 73 none] :: H) Try.results42 (fun _ _ h => h) (Le.refl _) ⟨rfl, rfl⟩
    try simp only [decide_eq_true_eq, decide_eq_false_iff_not, Bool.and_eq_true, Bool.or_eq_true, Bool.not_eq_true', Bool.and_eq_false_iff, Bool.or_eq_false_iff, Bool.not_eq_false', Int.not_lt, Int.not_le, ne_eq, Decidable.not_not, Option.isSome_iff_ne_none, Option.isNone_iff_eq_none] at hc3
    refine Tri.fin ?_
    refine Nrm.next ?_
    refine Tri.seq ?_
    refine Tri.seq ?_
    refine Tri.drawC rfl [(0, .pointer (some ⟨bs, 0, none⟩)), (1, natV i), (2, .int .i64 set), (3, .int .i64 total), (8, .int .i64 (iandn st (((2 ^ i : Nat) : Int) - 1)))] [] [_, _, _, _, _, _, _, _, _, _, _, _, _, _, _, _, _] (row (some bs) 106 9 1 [.int .i64 F.vars, slV na no F.nodes.length cap sa, .int .i64 F.top, .int .i64 st, slV (some cb) 0 cost.length cc, .int .i64 ((SS.mk bst tot fnd)).best, .int .i64 ((SS.mk bst tot fnd)).total, .bool ((SS.mk bst tot fnd)).found, errV 73 none] :: H) [15, 16] rfl ⟨rfl, rfl, rfl, rfl, rfl, trivial⟩ trivial (by repeat (first | exact Le.refl _ | assumption | apply Le.drop)) (by
      refine ⟨?_, ?_, ?_, ?_, ?_, ?_, ?_, ?_, ?_, ?_, ?_, ?_, ?_, ?_, ?_, ?_, ?_, trivial⟩
      · refine ⟨fun x S c he hw hd hc hcu hm _ => ?_, trivial⟩
        refine TOps.move (he _ _ rfl) rfl ?_
        exact TOps.fd x rfl rfl
      · refine ⟨fun x S c he hw hd hc hcu hm _ => ?_, trivial⟩
        obtain ⟨h0, -⟩ := hd
        refine TOps.nilCheck h0 rfl ?_
        exact TOps.fd x rfl rfl
      · refine ⟨fun x S c he hw hd hc hcu hm _ => ?_, trivial⟩
        obtain ⟨h1, -⟩ := hd
        refine TOps.field0 h1 Try.underlying106 rfl rfl ti24 rfl rfl rfl ?_
        exact TOps.fd x rfl rfl
      · refine ⟨fun x S c he hw hd hc hcu hm _ => ?_, trivial⟩
        obtain ⟨h2, -⟩ := hd
        refine TOps.loadN (vs := fc3 F na no cap sa) h2 ti24 (Rd.pre rs 3) rfl rfl ?_
        exact TOps.fd x rfl rfl
      · refine ⟨fun x S c he hw hd hc hcu hm _ => ?_, trivial⟩
        refine TOps.move (he _ _ rfl) rfl ?_
        exact TOps.fd x rfl rfl
      · refine ⟨fun x S c he hw hd hc hcu hm _ => ?_, trivial⟩
        obtain ⟨h4, -⟩ := hd
        refine TOps.nilCheck h4 rfl ?_
        exact TOps.fd x rfl rfl
      · refine ⟨fun x S c he hw hd hc hcu hm _ => ?_, trivial⟩
        obtain ⟨h5, -⟩ := hd
        first | refine TOps.fieldB 3 h5 Try.underlying106 rfl rfl ti55 rfl rfl rfl ?_ | refine TOps.fieldN 3 h5 Try.underlying106 rfl rfl ti55 rfl rfl rfl ?_
        exact TOps.fd x rfl rfl
      · refine ⟨fun x S c he hw hd hc hcu hm _ => ?_, trivial⟩
        obtain ⟨h6, -⟩ := hd
        refine TOps.field0 h6 Try.underlying55 rfl rfl ti3 rfl rfl rfl ?_
        exact TOps.fd x rfl rfl
      · refine ⟨fun x S c he hw hd hc hcu hm _ => ?_, trivial⟩
        obtain ⟨h7, -⟩ := hd
        refine TOps.load1 h7 ti3 (Rd.fld rs 3 rfl) rfl ?_
        exact TOps.fd x rfl rfl
      · refine ⟨fun x S c he hw hd hc hcu hm _ => ?_, trivial⟩
        refine TOps.move (he _ _ rfl) rfl ?_
        exact TOps.fd x rfl rfl
      · refine ⟨fun x S c he hw hd hc hcu hm _ => ?_, trivial⟩
        obtain ⟨h8, h9, -⟩ := hd
        refine TOps.andNot (r := iandn st set) h8 h9 rfl rfl ?_
        exact TOps.fd x rfl rfl
      · refine ⟨fun x S c he hw hd hc hcu hm _ => ?_, trivial⟩
        obtain ⟨h3, h10, -⟩ := hd
        refine TOps.call (vs := [_, _]) Try.call9 ⟨h3, h10, trivial⟩ (valueOk_g (hF0.le (Le.drop (Le.refl _))) hk q6) rfl ?_
        rintro _ _ ⟨rfl, rfl⟩
        exact TOps.fd x rfl rfl
      · refine ⟨fun x S c he hw hd hc hcu hm _ => ?_, trivial⟩
        obtain ⟨h11, -⟩ := hd
        refine TOps.move h11 rfl ?_
        exact TOps.fd x rfl rfl
      · refine ⟨fun x S c he hw hd hc hcu hm _ => ?_, trivial⟩
        obtain ⟨h12, -⟩ := hd
        refine TOps.extract h12 rfl rfl ?_
        exact TOps.fd x rfl rfl
      · refine ⟨fun x S c he hw hd hc hcu hm _ => ?_, trivial⟩
        obtain ⟨h12, -⟩ := hd
        refine TOps.extract h12 rfl rfl ?_
        exact TOps.fd x rfl rfl
      · refine ⟨fun x S c he hw hd hc hcu hm _ => ?_, trivial⟩
        obtain ⟨h13, h11, h0, h1, h2, h3, h4, h5, h6, h7, h8, h9, h10, _, h12, _, -⟩ := hd
        refine TOps.assign h13 rfl ?_
        exact TOps.fd x rfl rfl
      · refine ⟨fun x S c he hw hd hc hcu hm _ => ?_, trivial⟩
        obtain ⟨h14, h15, h0, h1, h2, h3, h4, h5, h6, h7, h8, h9, h10, h11, h12, h13, _, _, -⟩ := hd
        refine TOps.assign h14 rfl ?_
        exact TOps.fd x rfl rfl
      ) ?_
    refine Nrm.next ?_
    refine Tri.seq (Tri.region ?_)
    refine TOps.move rfl rfl ?_
    refine TOps.neqNil (T := 73) (o := none) rfl Try.underlying34 rfl ?_
    refine TOps.next ?_
    refine Tri.cond rfl (fun hc4 => ?_) (fun hc4 => ?_)
    · exact absurd hc4 (by first | decide | simp)
    try simp only [decide_eq_true_eq, decide_eq_false_iff_not, Bool.and_eq_true, Bool.or_eq_true, Bool.not_eq_true', Bool.and_eq_false_iff, Bool.or_eq_false_iff, Bool.not_eq_false', Int.not_lt, Int.not_le, ne_eq, Decidable.not_not, Option.isSome_iff_ne_none, Option.isNone_iff_eq_none] at hc4
    refine Tri.fin ?_
    refine Nrm.next ?_
    refine Tri.seq ?_
    refine Tri.seq (Tri.region ?_)
    refine TOps.move rfl rfl ?_
    refine TOps.not rfl rfl ?_
    refine TOps.next ?_
    refine Tri.cond rfl (fun hc5 => ?_) (fun hc5 => ?_)
    · try simp only [decide_eq_true_eq, decide_eq_false_iff_not, Bool.and_eq_true, Bool.or_eq_true, Bool.not_eq_true', Bool.and_eq_false_iff, Bool.or_eq_false_iff, Bool.not_eq_false', Int.not_lt, Int.not_le, ne_eq, Decidable.not_not, Option.isSome_iff_ne_none, Option.isNone_iff_eq_none] at hc5
      have hvf : F.value (iandn st set) = false := by simpa using hc5
      rw [m2 (by rw [hc3]; decide) hvf]
      have q1' : fnd = true → total < tot := by first | exact fun _ => q1 | (intro h; rw [hfe] at h; cases h)
      refine Tri.seq ?_
      refine Tri.seq (Tri.region ?_)
      refine TOps.move rfl rfl ?_
      refine TOps.move rfl rfl ?_
      refine TOps.move rfl rfl ?_
      refine TOps.call (vs := [_, _, _]) Try.call71 ⟨rfl, rfl, rfl, trivial⟩ (worse_g (s := (SS.mk bst tot fnd)) q1') rfl ?_
      rintro _ _ ⟨rfl, rfl⟩
      refine TOps.not rfl rfl ?_
      refine TOps.next ?_
      refine Tri.cond rfl (fun hc6 => ?_) (fun hc6 => ?_)
      · try simp only [decide_eq_true_eq, decide_eq_false_iff_not, Bool.and_eq_true, Bool.or_eq_true, Bool.not_eq_true', Bool.and_eq_false_iff, Bool.or_eq_false_iff, Bool.not_eq_false', Int.not_lt, Int.not_le, ne_eq, Decidable.not_not, Option.isSome_iff_ne_none, Option.isNone_iff_eq_none] at hc6
        refine Tri.region ?_
        refine TOps.move rfl rfl ?_
        refine TOps.move rfl rfl ?_
        refine TOps.move rfl rfl ?_
        refine TOps.move rfl rfl ?_
        refine TOps.move rfl rfl ?_
        refine TOps.nilCheck rfl rfl ?_
        first | refine TOps.fieldB 5 rfl Try.underlying106 rfl rfl ti3 rfl rfl rfl ?_ | refine TOps.fieldN 5 rfl Try.underlying106 rfl rfl ti3 rfl rfl rfl ?_
        refine TOps.store1 rfl rfl ti3 rfl rfl (by repeat (first | exact Upd.here | apply Upd.there)) (by first | decide | (simp; done) | (simp; omega) | exact (show (5 : Nat) < 9 by decide)) ?_
        refine TOps.nilCheck rfl rfl ?_
        first | refine TOps.fieldB 6 rfl Try.underlying106 rfl rfl ti3 rfl rfl rfl ?_ | refine TOps.fieldN 6 rfl Try.underlying106 rfl rfl ti3 rfl rfl rfl ?_
        refine TOps.store1 rfl rfl ti3 rfl rfl (by repeat (first | exact Upd.here | apply Upd.there)) (by first | decide | (simp; done) | (simp; omega) | exact (show (6 : Nat) < 9 by decide)) ?_
        refine TOps.nilCheck rfl rfl ?_
        first | refine TOps.fieldB 7 rfl Try.underlying106 rfl rfl ti4 rfl rfl rfl ?_ | refine TOps.fieldN 7 rfl Try.underlying106 rfl rfl ti4 rfl rfl rfl ?_
        refine TOps.store1 rfl rfl ti4 rfl rfl (by repeat (first | exact Upd.here | apply Upd.there)) (by first | decide | (simp; done) | (simp; omega) | exact (show (7 : Nat) < 9 by decide)) ?_
        refine TOps.fin ?_
        refine Nrm.next ?_
        refine Tri.ret0 (H' := row (some bs) 106 9 1 [.int .i64 F.vars, slV na no F.nodes.length cap sa, .int .i64 F.top, .int .i64 st, slV (some cb) 0 cost.length cc, .int .i64 ((SS.mk set total true)).best, .int .i64 ((SS.mk set total true)).total, .bool ((SS.mk set total true)).found, errV 73 none] :: H) Try.results42 (fun _ _ h => h) (Le.refl _) ⟨rfl, rfl⟩
      · exact absurd hc6 (by first | decide | simp)
    try simp only [decide_eq_true_eq, decide_eq_false_iff_not, Bool.and_eq_true, Bool.or_eq_true, Bool.not_eq_true', Bool.and_eq_false_iff, Bool.or_eq_false_iff, Bool.not_eq_false', Int.not_lt, Int.not_le, ne_eq, Decidable.not_not, Option.isSome_iff_ne_none, Option.isNone_iff_eq_none] at hc5
    have hvt : ¬ F.value (iandn st set) = false := by simpa using hc5
    obtain ⟨w1, w2, w3⟩ := m3 (by rw [hc3]; decide) hvt
    refine Tri.fin ?_
    refine Nrm.next ?_
    refine Tri.seq ?_
    refine Tri.block ?_
    refine Tri.loop (X := Nat) (fun x => [(0, .pointer (some ⟨bs, 0, none⟩)), (1, natV x), (2, .int .i64 set), (3, .int .i64 total)]) (fun x => row (some bs) 106 9 1 [.int .i64 F.vars, slV na no F.nodes.length cap sa, .int .i64 F.top, .int .i64 st, slV (some cb) 0 cost.length cc, .int .i64 ((SS.mk bst tot fnd)).best, .int .i64 ((SS.mk bst tot fnd)).total, .bool ((SS.mk bst tot fnd)).found, errV 73 none] :: H) (fun x => x ≤ v ∧ skipJ st v (v - x) x = skipJ st v (v - i) i) (fun x => v - x) i ⟨w1, rfl⟩ ⟨rfl, rfl, rfl, rfl, trivial⟩ (by repeat (first | exact Le.refl _ | assumption | apply Le.drop)) (fun x hp => ?_)
    obtain ⟨p1, p2⟩ := hp
    obtain ⟨j, rfl⟩ : ∃ j, j = x := ⟨_, rfl⟩
    refine Tri.seq ?_
    refine Tri.seq (Tri.region ?_)
    refine TOps.move rfl rfl ?_
    refine TOps.move rfl rfl ?_
    refine TOps.nilCheck rfl rfl ?_
    refine TOps.field0 rfl Try.underlying106 rfl rfl ti24 rfl rfl rfl ?_
    refine TOps.field0 rfl Try.underlying24 rfl rfl ti3 rfl rfl rfl ?_
    refine TOps.load1 rfl ti3 (Rd.fld rs 0 rfl) rfl ?_
    refine TOps.lss rfl rfl rfl ?_
    refine TOps.move rfl rfl ?_
    refine' TOps.andB 9 rfl rfl rfl rfl (fun hg12_7 => ?_) ?_; rotate_left
    · have hg12_7' := hg12_7
      try simp only [decide_eq_true_eq, decide_eq_false_iff_not, Bool.and_eq_true, Bool.or_eq_true, Bool.not_eq_true', Bool.and_eq_false_iff, Bool.or_eq_false_iff, Bool.not_eq_false', Int.not_lt, Int.not_le, ne_eq, Decidable.not_not] at hg12_7'
      refine TOps.strip 7 true rfl rfl hg12_7 rfl ?_
      refine TOps.move rfl rfl ?_
      refine TOps.nilCheck rfl rfl ?_
      first | refine TOps.fieldB 3 rfl Try.underlying106 rfl rfl ti55 rfl rfl rfl ?_ | refine TOps.fieldN 3 rfl Try.underlying106 rfl rfl ti55 rfl rfl rfl ?_
      refine TOps.field0 rfl Try.underlying55 rfl rfl ti3 rfl rfl rfl ?_
      refine TOps.load1 rfl ti3 (Rd.fld rs 3 rfl) rfl ?_
      refine TOps.move rfl rfl ?_
      refine TOps.shr (r := ishr st j) rfl rfl (by omega) rfl rfl ?_
      refine TOps.and rfl rfl rfl rfl ?_
      refine TOps.eqlI rfl rfl rfl ?_
      refine TOps.blk rfl (by repeat (first | exact Ext.refl _ | refine Ext.cons rfl ?_)) (by repeat (first | exact Le.refl _ | apply Le.drop))
    refine TOps.next ?_
    refine Tri.cond rfl (fun hc7 => ?_) (fun hc7 => ?_)
    · try simp only [decide_eq_true_eq, decide_eq_false_iff_not, Bool.and_eq_true, Bool.or_eq_true, Bool.not_eq_true', Bool.and_eq_false_iff, Bool.or_eq_false_iff, Bool.not_eq_false', Int.not_lt, Int.not_le, ne_eq, Decidable.not_not, Option.isSome_iff_ne_none, Option.isNone_iff_eq_none] at hc7
      refine Tri.fin ?_
      refine Nrm.next ?_
      refine Tri.block ?_
      refine Tri.region ?_
      refine TOps.move rfl rfl ?_
      refine TOps.add (r := ((j + 1 : Nat) : Int)) rfl rfl (by rw [wrapI (by omega) (by omega)]; omega) rfl ?_
      refine TOps.assign rfl rfl ?_
      refine TOps.fin ?_
      refine Nrm.unB ?_
      refine Nrm.loop (j + 1) ⟨by omega, by rw [← p2]; exact (skipJ_step (by omega) hc7.2).symm⟩ (by omega) ⟨rfl, rfl, rfl, rfl, trivial⟩ (by repeat (first | exact Le.refl _ | assumption | apply Le.drop))
    try simp only [decide_eq_true_eq, decide_eq_false_iff_not, Bool.and_eq_true, Bool.or_eq_true, Bool.not_eq_true', Bool.and_eq_false_iff, Bool.or_eq_false_iff, Bool.not_eq_false', Int.not_lt, Int.not_le, ne_eq, Decidable.not_not, Option.isSome_iff_ne_none, Option.isNone_iff_eq_none] at hc7
    rw [skipJ_stop (fun h => hc7.elim (fun h1 => by omega) (fun h1 => h1 h.2))] at p2
    rw [← p2] at w2 w3
    first | refine Tri.exitW ?_ | (refine Tri.exitTo ?_; repeat (with_reducible first | refine ExitTo.blk ?_ | refine ExitTo.blkNe rfl ?_ | refine ExitTo.body ?_ | refine ExitTo.brk rfl ?_ | refine ExitTo.bodyNe rfl rfl ?_ | refine ExitTo.seq ?_ | refine ExitTo.loop ?_))
    refine Nrm.next ?_
    refine Tri.seq ?_
    refine Tri.seq (Tri.region ?_)
    refine TOps.move rfl rfl ?_
    refine TOps.move rfl rfl ?_
    refine TOps.nilCheck rfl rfl ?_
    refine TOps.field0 rfl Try.underlying106 rfl rfl ti24 rfl rfl rfl ?_
    refine TOps.field0 rfl Try.underlying24 rfl rfl ti3 rfl rfl rfl ?_
    refine TOps.load1 rfl ti3 (Rd.fld rs 0 rfl) rfl ?_
    refine TOps.eqlI rfl rfl rfl ?_
    refine TOps.next ?_
    refine Tri.cond rfl (fun hc8 => ?_) (fun hc8 => ?_)
    · try simp only [decide_eq_true_eq, decide_eq_false_iff_not, Bool.and_eq_true, Bool.or_eq_true, Bool.not_eq_true', Bool.and_eq_false_iff, Bool.or_eq_false_iff, Bool.not_eq_false', Int.not_lt, Int.not_le, ne_eq, Decidable.not_not, Option.isSome_iff_ne_none, Option.isNone_iff_eq_none] at hc8
      rw [w2 (by omega)]
      refine Tri.ret0 (H' := row (some bs) 106 9 1 [.int .i64 F.vars, slV na no F.nodes.length cap sa, .int .i64 F.top, .int .i64 st, slV (some cb) 0 cost.length cc, .int .i64 ((SS.mk bst tot fnd)).best, .int .i64 ((SS.mk bst tot fnd)).total, .bool ((SS.mk bst tot fnd)).found, errV 73 none] :: H) Try.results42 (fun _ _ h => h) (Le.refl _) ⟨rfl, rfl⟩
    try simp only [decide_eq_true_eq, decide_eq_false_iff_not, Bool.and_eq_true, Bool.or_eq_true, Bool.not_eq_true', Bool.and_eq_false_iff, Bool.or_eq_false_iff, Bool.not_eq_false', Int.not_lt, Int.not_le, ne_eq, Decidable.not_not, Option.isSome_iff_ne_none, Option.isNone_iff_eq_none] at hc8
    obtain ⟨w4, w5, w6, s1, w7, w8⟩ := w3 (by omega)
    have hjv : j ≤ 24 := by have := hg; omega
    have hrj : Rd H cb j [.int .i64 (cost.getD j 0)] := by have := Rd.part hrc j (v := .int .i64 (cost.getD j 0)) (by simp [ints, w4]); rw [Nat.zero_add] at this; exact this
    refine Tri.fin ?_
    refine Nrm.next ?_
    refine Tri.seq ?_
    refine Tri.drawX (X := Unit) rfl [(0, .pointer (some ⟨bs, 0, none⟩)), (1, natV j), (2, .int .i64 set), (3, .int .i64 total)] [] (fun x => [_, _, _, _, _, _, _, _, _, _, _, _, _, _, _, _, _, .tuple (List.toArray [])]) (fun x c => match c with | 0 => row (some bs) 106 9 1 [.int .i64 F.vars, slV na no F.nodes.length cap sa, .int .i64 F.top, .int .i64 st, slV (some cb) 0 cost.length cc, .int .i64 ((SS.mk bst tot fnd)).best, .int .i64 ((SS.mk bst tot fnd)).total, .bool ((SS.mk bst tot fnd)).found, errV 73 none] :: H | _ + 1 => row (some bs) 106 9 1 [.int .i64 F.vars, slV na no F.nodes.length cap sa, .int .i64 F.top, .int .i64 st, slV (some cb) 0 cost.length cc, .int .i64 (s1).best, .int .i64 (s1).total, .bool (s1).found, errV 73 none] :: H) [17] () [] rfl rfl ⟨rfl, rfl, rfl, rfl, trivial⟩ trivial (by repeat (first | exact Le.refl _ | assumption | apply Le.drop)) (by
      refine ⟨?_, ?_, ?_, ?_, ?_, ?_, ?_, ?_, ?_, ?_, ?_, ?_, ?_, ?_, ?_, ?_, ?_, ?_, trivial⟩
      · refine ⟨fun x S c he hw hd hc hcu hm _ => ?_, trivial⟩
        refine TOps.move (he _ _ rfl) rfl ?_
        exact TOps.fd x rfl rfl
      · refine ⟨fun x S c he hw hd hc hcu hm _ => ?_, trivial⟩
        refine TOps.move (he _ _ rfl) rfl ?_
        exact TOps.fd x rfl rfl
      · refine ⟨fun x S c he hw hd hc hcu hm _ => ?_, trivial⟩
        obtain ⟨h1, -⟩ := hd
        refine TOps.add (r := ((j + 1 : Nat) : Int)) h1 rfl (by rw [wrapI (by omega) (by omega)]; omega) rfl ?_
        exact TOps.fd x rfl rfl
      · refine ⟨fun x S c he hw hd hc hcu hm _ => ?_, trivial⟩
        refine TOps.move (he _ _ rfl) rfl ?_
        exact TOps.fd x rfl rfl
      · refine ⟨fun x S c he hw hd hc hcu hm _ => ?_, trivial⟩
        refine TOps.move (he _ _ rfl) rfl ?_
        exact TOps.fd x rfl rfl
      · refine ⟨fun x S c he hw hd hc hcu hm _ => ?_, trivial⟩
        obtain ⟨h4, -⟩ := hd
        refine TOps.shl (r := ((2 ^ j : Nat) : Int)) rfl h4 (by omega) (ishl_one (by omega)) rfl ?_
        exact TOps.fd x rfl rfl
      · refine ⟨fun x S c he hw hd hc hcu hm _ => ?_, trivial⟩
        obtain ⟨h3, h5, -⟩ := hd
        refine TOps.or (r := ior set ((2 ^ j : Nat) : Int)) h3 h5 rfl rfl ?_
        exact TOps.fd x rfl rfl
      · refine ⟨fun x S c he hw hd hc hcu hm _ => ?_, trivial⟩
        refine TOps.move (he _ _ rfl) rfl ?_
        exact TOps.fd x rfl rfl
      · refine ⟨fun x S c he hw hd hc hcu hm _ => ?_, trivial⟩
        refine TOps.move (he _ _ rfl) rfl ?_
        exact TOps.fd x rfl rfl
      · refine ⟨fun x S c he hw hd hc hcu hm _ => ?_, trivial⟩
        obtain ⟨h8, -⟩ := hd
        refine TOps.nilCheck h8 rfl ?_
        exact TOps.fd x rfl rfl
      · refine ⟨fun x S c he hw hd hc hcu hm _ => ?_, trivial⟩
        obtain ⟨h9, -⟩ := hd
        first | refine TOps.fieldB 3 h9 Try.underlying106 rfl rfl ti55 rfl rfl rfl ?_ | refine TOps.fieldN 3 h9 Try.underlying106 rfl rfl ti55 rfl rfl rfl ?_
        exact TOps.fd x rfl rfl
      · refine ⟨fun x S c he hw hd hc hcu hm _ => ?_, trivial⟩
        obtain ⟨h10, -⟩ := hd
        first | refine TOps.fieldB 1 h10 Try.underlying55 rfl rfl ti53 rfl rfl rfl ?_ | refine TOps.fieldN 1 h10 Try.underlying55 rfl rfl ti53 rfl rfl rfl ?_
        exact TOps.fd x rfl rfl
      · refine ⟨fun x S c he hw hd hc hcu hm _ => ?_, trivial⟩
        obtain ⟨h11, -⟩ := hd
        obtain rfl : c = 0 := by have : c ≤ 0 := hcu; omega
        refine TOps.load1 h11 ti53 (Rd.fld rs 4 rfl) rfl ?_
        exact TOps.fd x rfl rfl
      · refine ⟨fun x S c he hw hd hc hcu hm _ => ?_, trivial⟩
        refine TOps.move (he _ _ rfl) rfl ?_
        exact TOps.fd x rfl rfl
      · refine ⟨fun x S c he hw hd hc hcu hm _ => ?_, trivial⟩
        obtain ⟨h12, h13, -⟩ := hd
        refine TOps.indexAddr (b := cb) (off := 0) (m := cost.length) (cap := cc) (off' := j) h12 h13 Try.underlying53 ti3 (by omega) (by omega) (by simp) rfl ?_
        exact TOps.fd x rfl rfl
      · refine ⟨fun x S c he hw hd hc hcu hm _ => ?_, trivial⟩
        obtain ⟨h14, -⟩ := hd
        obtain rfl : c = 0 := by have : c ≤ 0 := hcu; omega
        refine TOps.load1 h14 ti3 (hrj.le (Le.drop (Le.refl _))) rfl ?_
        exact TOps.fd x rfl rfl
      · refine ⟨fun x S c he hw hd hc hcu hm _ => ?_, trivial⟩
        obtain ⟨h7, h15, -⟩ := hd
        refine TOps.add (r := total + cost.getD j 0) h7 h15 (by rw [wrapI (by omega) (by omega)]) rfl ?_
        exact TOps.fd x rfl rfl
      · refine ⟨fun x S c he hw hd hc hcu hm _ => ?_, trivial⟩
        obtain ⟨h0, h2, h6, h16, -⟩ := hd
        obtain rfl : c = 0 := hm rfl
        refine TOps.call (vs := [_, _, _, _]) Try.call42 ⟨h0, h2, h6, h16, trivial⟩ (ih hF0 hrc w7) rfl ?_
        rintro _ _ ⟨rfl, rfl⟩
        exact TOps.fd x rfl rfl
      ) (fun u0 => ?_)
    refine Nrm.next ?_
    refine Tri.region ?_
    refine TOps.move rfl rfl ?_
    refine TOps.move rfl rfl ?_
    refine TOps.add (r := ((j + 1 : Nat) : Int)) rfl rfl (by rw [wrapI (by omega) (by omega)]; omega) rfl ?_
    refine TOps.move rfl rfl ?_
    refine TOps.move rfl rfl ?_
    refine TOps.call (vs := [_, _, _, _]) Try.call42 ⟨rfl, rfl, rfl, rfl, trivial⟩ (ih hF0 hrc w8) rfl ?_
    rintro _ _ ⟨rfl, rfl⟩
    refine TOps.fin ?_
    exact Nrm.ret0 (H' := row (some bs) 106 9 1 [.int .i64 F.vars, slV na no F.nodes.length cap sa, .int .i64 F.top, .int .i64 st, slV (some cb) 0 cost.length cc, .int .i64 (s').best, .int .i64 (s').total, .bool (s').found, errV 73 none] :: H) Try.results42 (Le.refl _) ⟨rfl, rfl⟩
end Go.Proofs
namespace Go.Proofs
open Go.GL
set_option linter.unusedVariables false
set_option linter.unusedSimpArgs false
end Go.Proofs
namespace Go.Proofs
open Go.GL
set_option linter.unusedVariables false
set_option linter.unusedSimpArgs false
theorem csyntax_g {H : List Ent} {fv : Value} {F : Fm} (hF : RF H fv F) (hk : F.ok) :
    Gives Try.prog 67 [fv] H (R1 (.tuple (List.toArray [.bool (F.err.isNone && F.syn), errV 73 F.err])) H) := by
  have hF0 := hF
  obtain ⟨na, off, ncap, nsp, rfl, hN⟩ := hF
  refine Gives.enter Try.func67 rfl (by exact Try.ntmps67) rfl ?_
  refine Tri.seq (Tri.region ?_)
  refine TOps.boxN rfl ti24 rfl rfl (fun b1 => ?_)
  refine TOps.hide (fun H1 l1 s1 r1 => ?_)
  replace hF0 := hF0.le l1
  refine TOps.assign rfl rfl ?_
  refine TOps.assign rfl rfl ?_
  refine TOps.next ?_
  refine Tri.seq (Tri.region ?_)
  refine TOps.loadN rfl ti24 (by first | exact Rd.all (by repeat (first | exact List.Mem.head _ | apply List.Mem.tail)) | (repeat (first | assumption | apply Rd.up))) rfl rfl ?_
  refine TOps.call (vs := [_]) Try.call48 ⟨rfl, trivial⟩ (trim_g hF0 hk) rfl ?_
  rintro _ H2 ⟨tv, rfl, l2, s2, hT⟩
  obtain ⟨ta, toff, tcap, tsp, rfl, hTN⟩ := hT
  replace l2 := l2.trans l1
  refine TOps.move rfl rfl ?_
  refine TOps.extract rfl rfl rfl ?_
  refine TOps.extract rfl rfl rfl ?_
  refine TOps.alloc ti24 rfl (fun b4 => ?_)
  refine TOps.storeN rfl rfl ti24 rfl rfl (by repeat (first | exact Upd.here | apply Upd.there)) (by first | decide | (simp; done) | (simp; omega)) ?_
  refine TOps.hide (fun H3 l3 s3 r3 => ?_)
  replace hTN := hTN.le l3
  replace l3 := l3.trans l2
  refine TOps.assign rfl rfl ?_
  refine TOps.next ?_
  refine Tri.seq ?_
  refine Tri.seq (Tri.region ?_)
  refine TOps.move rfl rfl ?_
  refine TOps.neqNil rfl Try.underlying34 rfl ?_
  refine TOps.next ?_
  refine Tri.cond rfl (fun hc1 => ?_) (fun hc1 => ?_)
  · try simp only [decide_eq_true_eq, decide_eq_false_iff_not, Bool.and_eq_true, Bool.or_eq_true, Bool.not_eq_true', Bool.and_eq_false_iff, Bool.or_eq_false_iff, Bool.not_eq_false', Int.not_lt, Int.not_le, ne_eq, Decidable.not_not, Option.isSome_iff_ne_none, Option.isNone_iff_eq_none] at hc1
    obtain ⟨e, he⟩ := Option.ne_none_iff_exists'.1 hc1
    refine Tri.seq (Tri.region ?_)
    refine TOps.move rfl rfl ?_
    refine TOps.assign rfl rfl ?_
    refine TOps.assign rfl rfl ?_
    refine TOps.next ?_
    refine Tri.ret2 (H' := H) Try.results67 (fun _ _ h => h) (.tmp rfl) (.tmp rfl) l3 ⟨by rw [he]; rfl, rfl⟩
  try simp only [decide_eq_true_eq, decide_eq_false_iff_not, Bool.and_eq_true, Bool.or_eq_true, Bool.not_eq_true', Bool.and_eq_false_iff, Bool.or_eq_false_iff, Bool.not_eq_false', Int.not_lt, Int.not_le, ne_eq, Decidable.not_not, Option.isSome_iff_ne_none, Option.isNone_iff_eq_none] at hc1
  have he : F.err = none := by simpa using hc1
  have hg := (Fm.good_iff F).1 he
  have hgt := Fm.trim_good hg
  have gt2 := hgt.n1
  rw [he, show (bif (none : Option Int).isNone then F.trim else Fm.zero) = F.trim from rfl] at r3
  rw [he, show (bif (none : Option Int).isNone then F.trim else Fm.zero) = F.trim from rfl] at hTN
  have hsy : F.syn = F.trim.nodes.all plainNd := rfl
  generalize F.trim = T at *
  replace r3 : Rd H3 b4 0 [.int .i64 T.vars, slV ta toff T.nodes.length tcap tsp, .int .i64 T.top] := r3
  refine Tri.fin ?_
  refine Nrm.next ?_
  refine Tri.seq ?_
  refine Tri.seq (Tri.region ?_)
  first | refine TOps.fieldB 1 rfl Try.underlying24 rfl rfl ti22 rfl rfl rfl ?_ | refine TOps.fieldN 1 rfl Try.underlying24 rfl rfl ti22 rfl rfl rfl ?_
  refine TOps.load1 rfl ti22 (by first | exact Rd.lit (by repeat (first | exact List.Mem.head _ | apply List.Mem.tail)) rfl | (repeat (first | assumption | exact Rd.fld (by assumption) 1 rfl | apply Rd.up))) rfl ?_
  refine TOps.len rfl Try.underlying22 rfl ?_
  refine TOps.move rfl rfl ?_
  refine TOps.next ?_
  refine Tri.range (X := Unit) (fun x k => [(17, slV ta toff T.nodes.length tcap tsp)]) (fun x k => H3) (fun x k => ∀ d ∈ T.nodes.take k, plainNd d = true) (by omega) rfl rfl rfl (fun _ _ => ⟨rfl, rfl, rfl, rfl⟩) () (by simp) ⟨rfl, trivial⟩ (by repeat (first | exact Le.refl _ | assumption | apply Le.drop)) (fun k x hlt hp => ?_) (fun x ac wc hp hS hM => ?_)
  · skip
    obtain ⟨nb, aa, ao, acap, asp, rfl, rfl, hn⟩ := hTN.at hlt
    have hcells := hn.cells
    refine Tri.seq (Tri.region ?_)
    refine TOps.indexAddr (off' := toff + k * 3) rfl rfl Try.underlying22 ti102 (by omega) (by omega) (by simp) rfl ?_
    refine TOps.loadN rfl ti102 (by first | exact Rd.all (by repeat (first | exact List.Mem.head _ | apply List.Mem.tail)) | (repeat (first | assumption | apply Rd.up))) rfl rfl ?_
    refine TOps.alloc ti102 rfl (fun b7 => ?_)
    refine TOps.storeN rfl rfl ti102 rfl rfl (by repeat (first | exact Upd.here | apply Upd.there)) (by first | decide | (simp; done) | (simp; omega)) ?_
    refine TOps.next ?_
    refine Tri.seq (Tri.region ?_)
    refine TOps.field0 rfl Try.underlying102 rfl rfl ti3 rfl rfl rfl ?_
    refine TOps.load1 rfl ti3 (by first | exact Rd.lit (by repeat (first | exact List.Mem.head _ | apply List.Mem.tail)) rfl | (repeat (first | assumption | exact Rd.fld (by assumption) 0 rfl | apply Rd.up))) rfl ?_
    refine TOps.eqlI rfl rfl rfl ?_
    refine TOps.move rfl rfl ?_
    refine' TOps.orB 3 rfl rfl rfl rfl (fun hg7_3 => ?_) ?_; rotate_left
    · have hg7_3' := hg7_3
      try simp only [decide_eq_true_eq, decide_eq_false_iff_not, Bool.and_eq_true, Bool.or_eq_true, Bool.not_eq_true', Bool.and_eq_false_iff, Bool.or_eq_false_iff, Bool.not_eq_false', Int.not_lt, Int.not_le, ne_eq, Decidable.not_not] at hg7_3'
      refine TOps.strip 3 false rfl rfl hg7_3 rfl ?_
      refine TOps.field0 rfl Try.underlying102 rfl rfl ti3 rfl rfl rfl ?_
      refine TOps.load1 rfl ti3 (by first | exact Rd.lit (by repeat (first | exact List.Mem.head _ | apply List.Mem.tail)) rfl | (repeat (first | assumption | exact Rd.fld (by assumption) 0 rfl | apply Rd.up))) rfl ?_
      refine TOps.eqlI rfl rfl rfl ?_
      refine TOps.blk rfl (by repeat (first | exact Ext.refl _ | refine Ext.cons rfl ?_)) (by repeat (first | exact Le.refl _ | apply Le.drop))
    refine TOps.next ?_
    refine Tri.cond rfl (fun hc2 => ?_) (fun hc2 => ?_)
    · try simp only [decide_eq_true_eq, decide_eq_false_iff_not, Bool.and_eq_true, Bool.or_eq_true, Bool.not_eq_true', Bool.and_eq_false_iff, Bool.or_eq_false_iff, Bool.not_eq_false', Int.not_lt, Int.not_le, ne_eq, Decidable.not_not, Option.isSome_iff_ne_none, Option.isNone_iff_eq_none] at hc2
      have hsf : F.syn = false := by
        rw [hsy, List.all_eq_false]
        refine ⟨T.nodes[k], List.getElem_mem hlt, ?_⟩
        unfold plainNd
        rcases hc2 with h | h <;> rw [h] <;> decide
      refine Tri.seq (Tri.region ?_)
      refine TOps.assign rfl rfl ?_
      refine TOps.assign rfl rfl ?_
      refine TOps.next ?_
      refine Tri.ret2 (H' := H) Try.results67 (fun _ _ h => h) (.tmp rfl) (.tmp rfl) (Le.drop l3) ⟨by rw [he, hsf]; rfl, rfl⟩
    try simp only [decide_eq_true_eq, decide_eq_false_iff_not, Bool.and_eq_true, Bool.or_eq_true, Bool.not_eq_true', Bool.and_eq_false_iff, Bool.or_eq_false_iff, Bool.not_eq_false', Int.not_lt, Int.not_le, ne_eq, Decidable.not_not, Option.isSome_iff_ne_none, Option.isNone_iff_eq_none] at hc2
    have hpk : plainNd T.nodes[k] = true := by unfold plainNd; simp; omega
    refine Tri.fin ?_
    refine Nrm.body () (ball_take_succ hlt hp hpk) ⟨rfl, rfl, rfl, trivial⟩ (by repeat (first | exact Le.refl _ | assumption | apply Le.drop))
  have hst : F.syn = true := by rw [hsy]; exact List.all_eq_true.2 fun d hd => hp d (by simpa using hd)
  refine Nrm.of hS hM ?_
  refine Nrm.next ?_
  refine Tri.seq (Tri.region ?_)
  refine TOps.assign rfl rfl ?_
  refine TOps.assign rfl rfl ?_
  refine TOps.next ?_
  refine Tri.ret2 (H' := H) Try.results67 (fun _ _ h => h) (.tmp rfl) (.tmp rfl) l3 ⟨by rw [he, hst]; rfl, rfl⟩
end Go.Proofs
namespace Go.Proofs
open Go.GL
set_option linter.unusedVariables false
set_option linter.unusedSimpArgs false
end Go.Proofs
namespace Go.Proofs
open Go.GL
set_option linter.unusedVariables false
set_option linter.unusedSimpArgs false
theorem cloneInts_g {H : List Ent} {xs : List Int} {a sp : Option Nat} {off cap : Nat} (hr : RInts H a off xs sp) (hl : xs.length ≤ 1000000) :
    Gives Try.prog 65 [slV a off xs.length cap sp] H (NewS 3 (ints xs) xs.length H) := by
  have hr0 : RdS H a off (ints xs) sp := hr
  clear hr
  refine Gives.enter Try.func65 rfl (by exact Try.ntmps65) rfl ?_
  refine Tri.seq (Tri.region ?_)
  refine TOps.assign rfl rfl ?_
  refine TOps.next ?_
  refine Tri.seq ?_
  refine Tri.seq (Tri.region ?_)
  refine TOps.move rfl rfl ?_
  refine TOps.eqlSlNil rfl Try.underlying53 rfl ?_
  refine TOps.next ?_
  refine Tri.cond rfl (fun hc1 => ?_) (fun hc1 => ?_)
  · try simp only [decide_eq_true_eq, decide_eq_false_iff_not, Bool.and_eq_true, Bool.or_eq_true, Bool.not_eq_true', Bool.and_eq_false_iff, Bool.or_eq_false_iff, Bool.not_eq_false', Int.not_lt, Int.not_le, ne_eq, Decidable.not_not, Option.isSome_iff_ne_none, Option.isNone_iff_eq_none] at hc1
    subst hc1
    have hx := RdS.none hr0
    obtain rfl : xs = [] := by simpa using hx
    refine Tri.seq (Tri.region ?_)
    refine TOps.assign rfl rfl ?_
    refine TOps.next ?_
    refine Tri.ret1 (H' := _) Try.results65 (fun _ _ h => h) (.tmp rfl) Le.addNil ⟨none, 0, rfl, by simp, rfl⟩
  try simp only [decide_eq_true_eq, decide_eq_false_iff_not, Bool.and_eq_true, Bool.or_eq_true, Bool.not_eq_true', Bool.and_eq_false_iff, Bool.or_eq_false_iff, Bool.not_eq_false', Int.not_lt, Int.not_le, ne_eq, Decidable.not_not, Option.isSome_iff_ne_none, Option.isNone_iff_eq_none] at hc1
  refine Tri.fin ?_
  refine Nrm.next ?_
  refine Tri.seq (Tri.region ?_)
  refine TOps.buildSlice0 Try.underlying53 ti3 rfl (fun b5 => ?_)
  replace hr0 := hr0.up (e := row (some b5) 3 1 0 [])
  refine TOps.move rfl rfl ?_
  refine TOps.append (ys := ints xs) rfl rfl Try.underlying53 ti3 rfl (fun _ _ => Upd.here) hr0 (by simp) rfl (oneInts xs) (by omega) (by omega) rfl (fun a' cap' h0 => ?_)
  refine TOps.assign rfl rfl ?_
  refine TOps.next ?_
  refine Tri.ret1 (H' := _) Try.results65 (fun _ _ h => h) (.tmp rfl) (Le.refl _) ⟨a', cap', by rw [Nat.zero_add], h0, rfl⟩
theorem cloneN_g {H : List Ent} {fv : Value} {F : Fm} (hF : RF H fv F) (hg : F.Good) :
    Gives Try.prog 38 [fv] H (fun u H' => ∃ N, RF N u F ∧ N ++ H = H') := by
  have hF0 := hF
  obtain ⟨na, off, cap, nsp, rfl, hN⟩ := hF
  have g2 := hg.n1
  refine Gives.enter Try.func38 rfl (by exact Try.ntmps38) rfl ?_
  refine Tri.seq (Tri.region ?_)
  refine TOps.boxN rfl ti24 rfl rfl (fun b1 => ?_)
  refine TOps.hide (fun H1 l1 s1 r1 => ?_)
  replace hF0 := hF0.le l1; replace hN := hN.le l1
  refine TOps.alloc ti24 rfl (fun b2 => ?_)
  refine TOps.next ?_
  refine Tri.seq (Tri.region ?_)
  refine TOps.field0 rfl Try.underlying24 rfl rfl ti3 rfl rfl rfl ?_
  refine TOps.load1 rfl ti3 (by first | exact Rd.lit (by repeat (first | exact List.Mem.head _ | apply List.Mem.tail)) rfl | (repeat (first | assumption | exact Rd.fld (by assumption) 0 rfl | apply Rd.up))) rfl ?_
  first | refine TOps.fieldB 2 rfl Try.underlying24 rfl rfl ti3 rfl rfl rfl ?_ | refine TOps.fieldN 2 rfl Try.underlying24 rfl rfl ti3 rfl rfl rfl ?_
  refine TOps.load1 rfl ti3 (by first | exact Rd.lit (by repeat (first | exact List.Mem.head _ | apply List.Mem.tail)) rfl | (repeat (first | assumption | exact Rd.fld (by assumption) 2 rfl | apply Rd.up))) rfl ?_
  refine TOps.buildStruct (vs := [(0, _), (2, _)]) (xs := [_, _, _]) [(0, 1), (1, 1), (2, 1)] Try.underlying24 ti24 (fun w => by simp) ⟨rfl, rfl, rfl, rfl, trivial⟩ rfl rfl ?_
  refine TOps.alloc ti24 rfl (fun b3 => ?_)
  refine TOps.storeN rfl rfl ti24 rfl rfl (by repeat (first | exact Upd.here | apply Upd.there)) (by first | decide | (simp; done) | (simp; omega)) ?_
  refine TOps.next ?_
  refine Tri.seq ?_
  refine Tri.seq (Tri.region ?_)
  first | refine TOps.fieldB 1 rfl Try.underlying24 rfl rfl ti22 rfl rfl rfl ?_ | refine TOps.fieldN 1 rfl Try.underlying24 rfl rfl ti22 rfl rfl rfl ?_
  refine TOps.load1 rfl ti22 (by first | exact Rd.lit (by repeat (first | exact List.Mem.head _ | apply List.Mem.tail)) rfl | (repeat (first | assumption | exact Rd.fld (by assumption) 1 rfl | apply Rd.up))) rfl ?_
  refine TOps.len rfl Try.underlying22 rfl ?_
  refine TOps.move rfl rfl ?_
  refine TOps.next ?_
  refine Tri.range (X := (Option Nat × Nat) × List SA × List Ent) (fun z k => [(1, .pointer (some ⟨b1, 0, none⟩)), (2, .pointer (some ⟨b2, 0, none⟩)), (3, .pointer (some ⟨b3, 0, none⟩)), (12, slV na off F.nodes.length cap nsp)]) (fun z k => row (some b3) 24 3 1 [.int .i64 F.vars, slV z.1.1 0 k z.1.2, .int .i64 F.top] :: row z.1.1 102 3 z.1.2 (nsCells (F.nodes.take k) z.2.1) :: row (some b2) 24 3 1 [.int .i64 0, slV none 0 0 0, .int .i64 0] :: (z.2.2 ++ H1)) (fun z k => ArgsIn z.2.2 (F.nodes.take k) z.2.1 ∧ (F.nodes.take k ≠ [] → ∃ b, z.1.1 = some b)) (by omega) rfl rfl rfl (fun _ _ => ⟨rfl, rfl, rfl, rfl⟩) ((none, 0), [], []) ⟨ArgsIn.nil, fun h => absurd rfl h⟩ ⟨rfl, rfl, rfl, rfl, trivial⟩ (Le.addNil.trans (Sp.le (by repeat (first | exact Sp.refl _ | exact Sp.sub (by assumption) | refine Sp.cons (by repeat (first | exact Pick.here | apply Pick.there)) ?_ | exact Sp.nil | apply Sp.skip)))) (fun k z hlt hp => ?_) (fun z ac wc hp hS hM => ?_)
  · skip
    obtain ⟨⟨oa, ocap⟩, qs, H3⟩ := z
    obtain ⟨hp3, hp4⟩ := hp
    dsimp only at hp3 hp4 ⊢
    have hp1 : Le (H3 ++ H1) H1 := Le.sub (List.sublist_append_right _ _)
    obtain ⟨nb, aa, ao, acap, asp, rfl, rfl, hn⟩ := hN.at hlt
    have hfi := hg.fits k hlt
    have hcells := hn.cells
    have hal := hfi.len
    replace hcells := hcells.le hp1; replace hn := hn.le hp1
    have htk : (F.nodes.take k).length = k := by rw [List.length_take]; omega
    refine Tri.seq (Tri.region ?_)
    refine TOps.indexAddr (off' := off + k * 3) rfl rfl Try.underlying22 ti102 (by omega) (by omega) (by simp) rfl ?_
    refine TOps.loadN rfl ti102 (by first | exact Rd.all (by repeat (first | exact List.Mem.head _ | apply List.Mem.tail)) | (repeat (first | assumption | apply Rd.up))) rfl rfl ?_
    refine TOps.alloc ti102 rfl (fun b5 => ?_)
    refine TOps.storeN rfl rfl ti102 rfl rfl (by repeat (first | exact Upd.here | apply Upd.there)) (by first | decide | (simp; done) | (simp; omega)) ?_
    refine TOps.next ?_
    obtain ⟨CS, hCS⟩ : ∃ CS, CS = nsCells (F.nodes.take k) qs := ⟨_, rfl⟩
    have hcl : CS.length = k * 3 := by rw [hCS, nsCells_length _ _ hp3.1, htk]
    obtain ⟨HB, hHB⟩ : ∃ HB, HB = row (some b2) 24 3 1 [.int .i64 0, slV none 0 0 0, .int .i64 0] :: (H3 ++ H1) := ⟨_, rfl⟩
    have hBr : RInts HB aa ao F.nodes[k].args asp := by rw [hHB]; exact RdS.up hn.args
    have hr5 : ∀ (x : OA (ints F.nodes[k].args) × Nat × Nat × Nat × Nat) (c : Nat), Rd (match c with | 0 => row (some b5) 102 3 1 [.int .i64 F.nodes[k].kind, .int .i64 F.nodes[k].k, slV aa ao F.nodes[k].args.length acap asp] :: row (some b3) 24 3 1 [.int .i64 F.vars, slV oa 0 k ocap, .int .i64 F.top] :: row oa 102 3 ocap CS :: HB | 1 => row x.1.1 3 1 x.2.1 (ints F.nodes[k].args) :: row (some b5) 102 3 1 [.int .i64 F.nodes[k].kind, .int .i64 F.nodes[k].k, slV aa ao F.nodes[k].args.length acap asp] :: row (some b3) 24 3 1 [.int .i64 F.vars, slV oa 0 k ocap, .int .i64 F.top] :: row oa 102 3 ocap CS :: HB | 2 => row (some x.2.2.1) 102 3 1 [.int .i64 F.nodes[k].kind, .int .i64 F.nodes[k].k, slV x.1.1 0 F.nodes[k].args.length x.2.1] :: row x.1.1 3 1 x.2.1 (ints F.nodes[k].args) :: row (some b5) 102 3 1 [.int .i64 F.nodes[k].kind, .int .i64 F.nodes[k].k, slV aa ao F.nodes[k].args.length acap asp] :: row (some b3) 24 3 1 [.int .i64 F.vars, slV oa 0 k ocap, .int .i64 F.top] :: row oa 102 3 ocap CS :: HB | 3 => row x.1.1 3 1 x.2.1 (ints F.nodes[k].args) :: row (some b5) 102 3 1 [.int .i64 F.nodes[k].kind, .int .i64 F.nodes[k].k, slV aa ao F.nodes[k].args.length acap asp] :: row (some b3) 24 3 1 [.int .i64 F.vars, slV oa 0 k ocap, .int .i64 F.top] :: row (some x.2.2.2.1) 102 3 x.2.2.2.2 (CS ++ [.int .i64 F.nodes[k].kind, .int .i64 F.nodes[k].k, slV x.1.1 0 F.nodes[k].args.length x.2.1]) :: HB | _ + 4 => row x.1.1 3 1 x.2.1 (ints F.nodes[k].args) :: row (some b5) 102 3 1 [.int .i64 F.nodes[k].kind, .int .i64 F.nodes[k].k, slV aa ao F.nodes[k].args.length acap asp] :: row (some b3) 24 3 1 [.int .i64 F.vars, slV (some x.2.2.2.1) 0 (k + 1) x.2.2.2.2, .int .i64 F.top] :: row (some x.2.2.2.1) 102 3 x.2.2.2.2 (CS ++ [.int .i64 F.nodes[k].kind, .int .i64 F.nodes[k].k, slV x.1.1 0 F.nodes[k].args.length x.2.1]) :: HB) b5 0 [.int .i64 F.nodes[k].kind, .int .i64 F.nodes[k].k, slV aa ao F.nodes[k].args.length acap asp] := by
      intro x c
      match c with
      | 0 => exact Rd.all (by repeat (first | exact List.Mem.head _ | apply List.Mem.tail))
      | 1 => exact Rd.all (by repeat (first | exact List.Mem.head _ | apply List.Mem.tail))
      | 2 => exact Rd.all (by repeat (first | exact List.Mem.head _ | apply List.Mem.tail))
      | 3 => exact Rd.all (by repeat (first | exact List.Mem.head _ | apply List.Mem.tail))
      | _ + 4 => exact Rd.all (by repeat (first | exact List.Mem.head _ | apply List.Mem.tail))
    refine Tri.drawX (X := OA (ints F.nodes[k].args) × Nat × Nat × Nat × Nat) rfl [(1, .pointer (some ⟨b1, 0, none⟩)), (2, .pointer (some ⟨b2, 0, none⟩)), (3, .pointer (some ⟨b3, 0, none⟩)), (12, slV (some nb) off F.nodes.length cap), (13, .int .i64 F.nodes.length), (14, .int .i64 k), (5, .pointer (some ⟨b5, 0, none⟩))] [] (fun x => [_, slV oa 0 k ocap, _, _, _, _, _, _, slV x.1.1 0 F.nodes[k].args.length x.2.1, .agg (List.toArray [.int .i64 F.nodes[k].kind, .int .i64 F.nodes[k].k, slV x.1.1 0 F.nodes[k].args.length x.2.1]), slV (some x.2.2.1) 0 1 1, slV (some x.2.2.2.1) 0 (k + 1) x.2.2.2.2, _, undef]) (fun x c => match c with | 0 => row (some b5) 102 3 1 [.int .i64 F.nodes[k].kind, .int .i64 F.nodes[k].k, slV aa ao F.nodes[k].args.length acap asp] :: row (some b3) 24 3 1 [.int .i64 F.vars, slV oa 0 k ocap, .int .i64 F.top] :: row oa 102 3 ocap CS :: HB | 1 => row x.1.1 3 1 x.2.1 (ints F.nodes[k].args) :: row (some b5) 102 3 1 [.int .i64 F.nodes[k].kind, .int .i64 F.nodes[k].k, slV aa ao F.nodes[k].args.length acap asp] :: row (some b3) 24 3 1 [.int .i64 F.vars, slV oa 0 k ocap, .int .i64 F.top] :: row oa 102 3 ocap CS :: HB | 2 => row (some x.2.2.1) 102 3 1 [.int .i64 F.nodes[k].kind, .int .i64 F.nodes[k].k, slV x.1.1 0 F.nodes[k].args.length x.2.1] :: row x.1.1 3 1 x.2.1 (ints F.nodes[k].args) :: row (some b5) 102 3 1 [.int .i64 F.nodes[k].kind, .int .i64 F.nodes[k].k, slV aa ao F.nodes[k].args.length acap asp] :: row (some b3) 24 3 1 [.int .i64 F.vars, slV oa 0 k ocap, .int .i64 F.top] :: row oa 102 3 ocap CS :: HB | 3 => row x.1.1 3 1 x.2.1 (ints F.nodes[k].args) :: row (some b5) 102 3 1 [.int .i64 F.nodes[k].kind, .int .i64 F.nodes[k].k, slV aa ao F.nodes[k].args.length acap asp] :: row (some b3) 24 3 1 [.int .i64 F.vars, slV oa 0 k ocap, .int .i64 F.top] :: row (some x.2.2.2.1) 102 3 x.2.2.2.2 (CS ++ [.int .i64 F.nodes[k].kind, .int .i64 F.nodes[k].k, slV x.1.1 0 F.nodes[k].args.length x.2.1]) :: HB | _ + 4 => row x.1.1 3 1 x.2.1 (ints F.nodes[k].args) :: row (some b5) 102 3 1 [.int .i64 F.nodes[k].kind, .int .i64 F.nodes[k].k, slV aa ao F.nodes[k].args.length acap asp] :: row (some b3) 24 3 1 [.int .i64 F.vars, slV (some x.2.2.2.1) 0 (k + 1) x.2.2.2.2, .int .i64 F.top] :: row (some x.2.2.2.1) 102 3 x.2.2.2.2 (CS ++ [.int .i64 F.nodes[k].kind, .int .i64 F.nodes[k].k, slV x.1.1 0 F.nodes[k].args.length x.2.1]) :: HB) [8, 10, 11, 13] (OA.zero _, 0, 0, 0, 0) [] rfl rfl ⟨rfl, rfl, rfl, rfl, rfl, rfl, rfl, trivial⟩ trivial (by rw [hHB, hCS]; exact Le.refl _) (by
      refine ⟨?_, ?_, ?_, ?_, ?_, ?_, ?_, ?_, ?_, ?_, ?_, ?_, ?_, ?_, trivial⟩
      · refine ⟨fun x S c he hw hd hc hcu hm _ => ?_, trivial⟩
        first | refine TOps.fieldB 1 (he _ _ rfl) Try.underlying24 rfl rfl ti22 rfl rfl rfl ?_ | refine TOps.fieldN 1 (he _ _ rfl) Try.underlying24 rfl rfl ti22 rfl rfl rfl ?_
        exact TOps.fd x rfl rfl
      · refine ⟨fun x S c he hw hd hc hcu hm _ => ?_, trivial⟩
        obtain ⟨h0, -⟩ := hd
        rcases (show c = 0 ∨ c = 1 ∨ c = 2 by have : c ≤ 2 := hcu; omega) with rfl | rfl | rfl <;> refine TOps.load1 h0 ti22 (Rd.lit (by repeat (first | exact List.Mem.head _ | apply List.Mem.tail)) rfl) rfl ?_
        all_goals exact TOps.fin (Nrm.draw x (fun _ _ _ => rfl) rfl (Le.refl _))
      · refine ⟨fun x S c he hw hd hc hcu hm _ => ?_, trivial⟩
        refine TOps.field0 (he _ _ rfl) Try.underlying102 rfl rfl ti3 rfl rfl rfl ?_
        exact TOps.fd x rfl rfl
      · refine ⟨fun x S c he hw hd hc hcu hm _ => ?_, trivial⟩
        obtain ⟨h2, -⟩ := hd
        refine TOps.load1 h2 ti3 ((hr5 x c).fld 0 rfl) rfl ?_
        exact TOps.fd x rfl rfl
      · refine ⟨fun x S c he hw hd hc hcu hm _ => ?_, trivial⟩
        first | refine TOps.fieldB 1 (he _ _ rfl) Try.underlying102 rfl rfl ti3 rfl rfl rfl ?_ | refine TOps.fieldN 1 (he _ _ rfl) Try.underlying102 rfl rfl ti3 rfl rfl rfl ?_
        exact TOps.fd x rfl rfl
      · refine ⟨fun x S c he hw hd hc hcu hm _ => ?_, trivial⟩
        obtain ⟨h4, -⟩ := hd
        refine TOps.load1 h4 ti3 ((hr5 x c).fld 1 rfl) rfl ?_
        exact TOps.fd x rfl rfl
      · refine ⟨fun x S c he hw hd hc hcu hm _ => ?_, trivial⟩
        first | refine TOps.fieldB 2 (he _ _ rfl) Try.underlying102 rfl rfl ti53 rfl rfl rfl ?_ | refine TOps.fieldN 2 (he _ _ rfl) Try.underlying102 rfl rfl ti53 rfl rfl rfl ?_
        exact TOps.fd x rfl rfl
      · refine ⟨fun x S c he hw hd hc hcu hm _ => ?_, trivial⟩
        obtain ⟨h6, -⟩ := hd
        refine TOps.load1 h6 ti53 ((hr5 x c).fld 2 rfl) rfl ?_
        exact TOps.fd x rfl rfl
      · refine ⟨fun x S c he hw hd hc hcu hm _ => ?_, trivial⟩
        obtain ⟨h7, -⟩ := hd
        obtain rfl : c = 0 := hm rfl
        refine TOps.call (vs := [_]) Try.call65 ⟨h7, trivial⟩ (cloneInts_g (RdS.up (RdS.up (RdS.up hBr))) (by omega)) rfl ?_
        rintro _ _ ⟨a', c', rfl, h0', rfl⟩
        refine TOps.fin (Nrm.draw (⟨a', h0'⟩, c', x.2.2) ?_ rfl (Le.refl _))
        intro j hj hcj; rcases j with _|_|_|_|_|_|_|_|_|_|_|_|_|_|j <;> first | rfl | exact absurd rfl hj | exact absurd hcj (by decide)
      · refine ⟨fun x S c he hw hd hc hcu hm _ => ?_, trivial⟩
        obtain ⟨h3, h5, h8, -⟩ := hd
        refine TOps.buildStruct (vs := [(0, _), (1, _), (2, _)]) (xs := [_, _, _]) [(0, 1), (1, 1), (2, 1)] Try.underlying102 ti102 (fun w => by simp) ⟨rfl, h3, rfl, h5, rfl, h8, trivial⟩ rfl rfl ?_
        exact TOps.fd x rfl rfl
      · refine ⟨fun x S c he hw hd hc hcu hm _ => ?_, trivial⟩
        obtain ⟨h9, -⟩ := hd
        obtain rfl : c = 1 := hm rfl
        refine TOps.buildSlice (vs := [_]) (xs := [_, _, _]) Try.underlying22 ti102 ⟨rfl, h9, trivial⟩ rfl rfl rfl rfl rfl rfl (by decide) rfl (fun b28 => ?_)
        refine TOps.fin (Nrm.draw (x.1, x.2.1, b28, x.2.2.2) ?_ rfl (Le.refl _))
        intro j hj hcj; rcases j with _|_|_|_|_|_|_|_|_|_|_|_|_|_|j <;> first | rfl | exact absurd rfl hj | exact absurd hcj (by decide)
      · refine ⟨fun x S c he hw hd hc hcu hm _ => ?_, trivial⟩
        obtain ⟨h1, h10, h8, -⟩ := hd
        obtain rfl : c = 2 := hm rfl
        refine TOps.appendLit h1 h10 Try.underlying22 ti102 rfl (fun _ _ => (by repeat (first | exact Upd.here | apply Upd.there))) rfl (by rw [hcl]) rfl (by omega) (by omega) (by simp) rfl (fun b29 cap29 => ?_)
        refine TOps.fin (Nrm.draw (x.1, x.2.1, x.2.2.1, b29, cap29) ?_ rfl (Le.refl _))
        intro j hj hcj; rcases j with _|_|_|_|_|_|_|_|_|_|_|_|_|_|j <;> first | rfl | exact absurd rfl hj | exact absurd hcj (by decide)
      · refine ⟨fun x S c he hw hd hc hcu hm _ => ?_, trivial⟩
        obtain ⟨h0, h1, h2, h3, h4, h5, h6, h7, h8, h9, h10, h11, -⟩ := hd
        first | refine TOps.fieldB 1 (he _ _ rfl) Try.underlying24 rfl rfl ti22 rfl rfl rfl ?_ | refine TOps.fieldN 1 (he _ _ rfl) Try.underlying24 rfl rfl ti22 rfl rfl rfl ?_
        exact TOps.fd x rfl rfl
      · refine ⟨fun x S c he hw hd hc hcu hm _ => ?_, trivial⟩
        obtain ⟨h12, h11, _, h0, h1, h2, h3, h4, h5, h6, h7, h8, h9, h10, _, -⟩ := hd
        obtain rfl : c = 3 := hm rfl
        refine TOps.store1 h12 h11 ti22 rfl rfl (by repeat (first | exact Upd.here | apply Upd.there)) (by simp) ?_
        exact TOps.fd x rfl rfl
      ) (fun w => ?_)
    subst hHB
    refine Nrm.body ((some w.2.2.2.1, w.2.2.2.2), qs ++ [(w.1.1, 0, w.2.1, none)], row w.1.1 3 1 w.2.1 (ints F.nodes[k].args) :: H3) (by rw [List.take_succ_eq_append_getElem hlt]; exact ⟨ArgsIn.snoc (hp3.le (Le.drop (Le.refl _))) (RdS.ofRowA (List.Mem.head _) w.1.2), fun _ => ⟨_, rfl⟩⟩) ⟨rfl, rfl, rfl, rfl, rfl, rfl, trivial⟩ (by rw [List.take_succ_eq_append_getElem hlt, List.cons_append]; exact (Sp.le (by repeat (first | exact Sp.refl _ | exact Sp.sub (by assumption) | refine Sp.cons (by repeat (first | exact Pick.here | exact Pick.row (by first | (simp; done) | (rw [nsCells_snoc _ _ _ _ hp3.1, ← hCS]; simp [ndCells]; done)) | apply Pick.there)) ?_ | exact Sp.nil | apply Sp.skip))))
  obtain ⟨hp3, hp4⟩ := hp
  rw [List.take_length] at hM hp3 hp4
  refine Nrm.of hS hM ?_
  refine Nrm.next ?_
  refine Tri.seq (Tri.region ?_)
  refine TOps.loadN rfl ti24 (by first | exact Rd.all (by repeat (first | exact List.Mem.head _ | apply List.Mem.tail)) | (repeat (first | assumption | apply Rd.up))) rfl rfl ?_
  refine TOps.storeN rfl rfl ti24 rfl rfl (by repeat (first | exact Upd.here | apply Upd.there)) (by first | decide | (simp; done) | (simp; omega)) ?_
  refine TOps.next ?_
  refine Tri.ret1 (H' := (row z.1.1 102 3 z.1.2 (nsCells F.nodes z.2.1) :: z.2.2) ++ H) Try.results38 (fun _ _ h => h) (.cellN rfl rfl ti24 (Rd.all (by repeat (first | exact List.Mem.head _ | apply List.Mem.tail))) rfl) (Le.sub (List.Sublist.cons _ (List.Sublist.cons_cons _ (List.Sublist.cons _ (List.Sublist.append_left s1 _))))) ⟨row z.1.1 102 3 z.1.2 (nsCells F.nodes z.2.1) :: z.2.2, ?_, rfl⟩
  refine ⟨z.1.1, 0, z.1.2, none, rfl, ?_⟩
  exact RNodes.ofA (E := 102) (sz := 3) (cap := z.1.2) (List.Mem.head _) (hp3.le (Le.drop (Le.refl _))) hp4
theorem newN_g {H : List Ent} {fv : Value} {F : Fm} (hF : RF H fv F) (hg : F.Good) :
    Gives Try.prog 13 [fv] H (fun u H' => ∃ m nv N, u = .tuple (List.toArray [.pointer (some ⟨m, 0, none⟩), errV 73 none]) ∧ RF N (.agg (List.toArray [.int .i64 F.vars, nv, .int .i64 F.top])) F ∧ row (some m) 100 5 1 [.int .i64 F.vars, nv, .int .i64 F.top, .int .i64 Mo.zero.f, slV none 0 Mo.zero.log.length 0] :: row none 137 3 0 (logCells Mo.zero.log) :: (N ++ H) = H') := by
  have hF0 := hF
  have he := (Fm.good_iff F).2 hg
  obtain ⟨na, off, cap, nsp, rfl, hN⟩ := hF
  refine Gives.enter Try.func13 rfl (by exact Try.ntmps13) rfl ?_
  refine Tri.seq (Tri.region ?_)
  refine TOps.boxN rfl ti24 rfl rfl (fun b1 => ?_)
  refine TOps.hide (fun H1 l1 s1 r1 => ?_)
  replace hF0 := hF0.le l1
  refine TOps.assign rfl rfl ?_
  refine TOps.assign rfl rfl ?_
  refine TOps.next ?_
  refine Tri.seq ?_
  refine Tri.seq (Tri.region ?_)
  refine TOps.loadN rfl ti24 (by first | exact Rd.all (by repeat (first | exact List.Mem.head _ | apply List.Mem.tail)) | (repeat (first | assumption | apply Rd.up))) rfl rfl ?_
  refine TOps.call (vs := [_]) Try.call30 ⟨rfl, trivial⟩ (check_g hF0 hg.ok) rfl ?_
  rintro _ _ ⟨rfl, rfl⟩
  rw [he]
  refine TOps.assign rfl rfl ?_
  refine TOps.next ?_
  refine Tri.seq (Tri.region ?_)
  refine TOps.move rfl rfl ?_
  refine TOps.neqNil (T := 73) (o := none) rfl Try.underlying34 rfl ?_
  refine TOps.next ?_
  refine Tri.cond rfl (fun hc1 => ?_) (fun hc1 => ?_)
  · exact absurd hc1 (by first | decide | simp)
  try simp only [decide_eq_true_eq, decide_eq_false_iff_not, Bool.and_eq_true, Bool.or_eq_true, Bool.not_eq_true', Bool.and_eq_false_iff, Bool.or_eq_false_iff, Bool.not_eq_false', Int.not_lt, Int.not_le, ne_eq, Decidable.not_not, Option.isSome_iff_ne_none, Option.isNone_iff_eq_none] at hc1
  refine Tri.fin ?_
  refine Nrm.next ?_
  refine Tri.seq (Tri.region ?_)
  refine TOps.loadN rfl ti24 (by first | exact Rd.all (by repeat (first | exact List.Mem.head _ | apply List.Mem.tail)) | (repeat (first | assumption | apply Rd.up))) rfl rfl ?_
  refine TOps.call (vs := [_]) Try.call38 ⟨rfl, trivial⟩ (cloneN_g hF0 hg) rfl ?_
  rintro _ _ ⟨N, hT, rfl⟩
  obtain ⟨ta, toff, tcap, tsp, rfl, hTN⟩ := hT
  refine TOps.buildStruct (vs := [(0, _)]) (xs := [_, _, _, _, _]) [(0, 3), (3, 1), (4, 1)] Try.underlying100 ti100 (fun w => by simp) ⟨rfl, rfl, trivial⟩ rfl rfl ?_
  refine TOps.boxN rfl ti100 rfl rfl (fun b13 => ?_)
  refine TOps.assign rfl rfl ?_
  refine TOps.assign rfl rfl ?_
  refine TOps.next ?_
  refine Tri.ret2 (H' := row (some b13) 100 5 1 [.int .i64 F.vars, slV ta toff F.nodes.length tcap tsp, .int .i64 F.top, .int .i64 0, slV none 0 0 0] :: row none 137 3 0 [] :: (N ++ H)) Try.results13 (fun _ _ h => h) (.tmp rfl) (.tmp rfl) ((Le.trans Le.addNil Le.swap).trans (Le.sub (List.Sublist.cons_cons _ (List.Sublist.cons_cons _ (List.Sublist.append_left s1 _))))) ⟨b13, slV ta toff F.nodes.length tcap tsp, N, rfl, ⟨ta, toff, tcap, tsp, rfl, hTN⟩, rfl⟩
theorem newOk_g {H : List Ent} {fv : Value} {F : Fm} (hF : RF H fv F) (hg : F.Good) :
    Gives Try.prog 13 [fv] H (fun u H' => ∃ m nv H2, u = .tuple (List.toArray [.pointer (some ⟨m, 0, none⟩), errV 73 none]) ∧ Le H2 H ∧ H.Sublist H2 ∧ RF H2 (.agg (List.toArray [.int .i64 F.vars, nv, .int .i64 F.top])) F ∧ row (some m) 100 5 1 [.int .i64 F.vars, nv, .int .i64 F.top, .int .i64 Mo.zero.f, slV none 0 Mo.zero.log.length 0] :: row none 137 3 0 (logCells Mo.zero.log) :: H2 = H') := by
  intro w hM
  refine (newN_g hF hg w hM).mono fun e W' h => ?_
  obtain ⟨v, H', ⟨m, nv, N, h1, h2, h3⟩, h4, h5⟩ := h
  exact ⟨v, H', ⟨m, nv, N ++ H, h1, Le.sub (List.sublist_append_right _ _), List.sublist_append_right _ _, h2.le (Le.sub (List.sublist_append_left _ _)), h3⟩, h4, h5⟩
end Go.Proofs
namespace Go.Proofs
open Go.GL
set_option linter.unusedVariables false
set_option linter.unusedSimpArgs false
theorem mvalue_g {H : List Ent} {m : Nat} {F : Fm} {nv lv : Value} {f : Nat} (hr : Rd H m 0 [.int .i64 F.vars, nv, .int .i64 F.top, .int .i64 f, lv]) (hF : RF H (.agg (List.toArray [.int .i64 F.vars, nv, .int .i64 F.top])) F) (hg : F.Good) (hf : f < 2 ^ F.vars.toNat) (s : Nat) (hs : s < 2 ^ F.vars.toNat) :
    Gives Try.prog 85 [.pointer (some ⟨m, 0, none⟩), .int .i64 s] H (R1 (.bool (F.value (s : Nat))) H) := by
  have hse := Fm.setErr_of hg hs
  refine Gives.enter Try.func85 rfl (by exact Try.ntmps85) rfl ?_
  refine Tri.seq (Tri.region ?_)
  refine TOps.assign rfl rfl ?_
  refine TOps.next ?_
  refine Tri.seq (Tri.region ?_)
  refine TOps.move rfl rfl ?_
  refine TOps.nilCheck rfl rfl ?_
  refine TOps.field0 rfl Try.underlying100 rfl rfl ti24 rfl rfl rfl ?_
  refine TOps.loadN rfl ti24 (show Rd H m 0 [.int .i64 F.vars, nv, .int .i64 F.top] from hr.pre 3) rfl rfl ?_
  refine TOps.move rfl rfl ?_
  refine TOps.call (vs := [_, _]) Try.call9 ⟨rfl, rfl, trivial⟩ (value_g hF hg.ok (s : Int)) rfl ?_
  rintro _ _ ⟨rfl, rfl⟩
  rw [hse, show ((none : Option Int).isNone && F.value (s : Nat)) = F.value (s : Nat) from rfl]
  refine TOps.move rfl rfl ?_
  refine TOps.extract rfl rfl rfl ?_
  refine TOps.extract rfl rfl rfl ?_
  refine TOps.assign rfl rfl ?_
  refine TOps.assign rfl rfl ?_
  refine TOps.next ?_
  refine Tri.seq (Tri.region ?_)
  refine TOps.move rfl rfl ?_
  refine TOps.assign rfl rfl ?_
  refine TOps.next ?_
  refine Tri.ret1 (H' := H) Try.results85 (fun _ _ h => h) (.tmp rfl) (Le.refl _) ⟨rfl, rfl⟩
theorem mtop_g {H : List Ent} {m : Nat} {F : Fm} {nv lv : Value} {f : Nat} (hr : Rd H m 0 [.int .i64 F.vars, nv, .int .i64 F.top, .int .i64 f, lv]) (hF : RF H (.agg (List.toArray [.int .i64 F.vars, nv, .int .i64 F.top])) F) (hg : F.Good) (hf : f < 2 ^ F.vars.toNat) : Gives Try.prog 66 [.pointer (some ⟨m, 0, none⟩)] H (R1 (.bool (F.value (f : Nat))) H) := by
  refine Gives.enter Try.func66 rfl (by exact Try.ntmps66) rfl ?_
  refine Tri.seq (Tri.region ?_)
  refine TOps.assign rfl rfl ?_
  refine TOps.next ?_
  refine Tri.seq (Tri.region ?_)
  refine TOps.move rfl rfl ?_
  refine TOps.neqPtrNil rfl Try.underlying46 rfl ?_
  refine TOps.move rfl rfl ?_
  refine' TOps.andB 6 rfl rfl rfl rfl (fun hg1_2 => ?_) ?_; rotate_left
  · have hg1_2' := hg1_2
    try simp only [decide_eq_true_eq, decide_eq_false_iff_not, Bool.and_eq_true, Bool.or_eq_true, Bool.not_eq_true', Bool.and_eq_false_iff, Bool.or_eq_false_iff, Bool.not_eq_false', Int.not_lt, Int.not_le, ne_eq, Decidable.not_not] at hg1_2'
    refine TOps.strip 2 true rfl rfl hg1_2 rfl ?_
    refine TOps.move rfl rfl ?_
    refine TOps.move rfl rfl ?_
    refine TOps.nilCheck rfl rfl ?_
    first | refine TOps.fieldB 3 rfl Try.underlying100 rfl rfl ti3 rfl rfl rfl ?_ | refine TOps.fieldN 3 rfl Try.underlying100 rfl rfl ti3 rfl rfl rfl ?_
    refine TOps.load1 rfl ti3 (by first | exact Rd.lit (by repeat (first | exact List.Mem.head _ | apply List.Mem.tail)) rfl | (repeat (first | assumption | exact Rd.fld (by assumption) 3 rfl | apply Rd.up))) rfl ?_
    refine TOps.call (vs := [_, _]) Try.call85 ⟨rfl, rfl, trivial⟩ (mvalue_g hr hF hg hf f hf) rfl ?_
    rintro _ _ ⟨rfl, rfl⟩
    refine TOps.blk rfl (by repeat (first | exact Ext.refl _ | refine Ext.cons rfl ?_)) (by repeat (first | exact Le.refl _ | apply Le.drop))
  refine TOps.assign rfl rfl ?_
  refine TOps.next ?_
  refine Tri.ret1 (H' := H) Try.results66 (fun _ _ h => h) (.tmp rfl) (Le.refl _) ⟨rfl, rfl⟩
theorem mfailed_g {H : List Ent} {m : Nat} {F : Fm} {nv lv : Value} {f : Nat} (hr : Rd H m 0 [.int .i64 F.vars, nv, .int .i64 F.top, .int .i64 f, lv]) (hF : RF H (.agg (List.toArray [.int .i64 F.vars, nv, .int .i64 F.top])) F) (hg : F.Good) (hf : f < 2 ^ F.vars.toNat) : Gives Try.prog 17 [.pointer (some ⟨m, 0, none⟩)] H (R1 (.int .i64 f) H) := by
  refine Gives.enter Try.func17 rfl (by exact Try.ntmps17) rfl ?_
  refine Tri.seq (Tri.region ?_)
  refine TOps.assign rfl rfl ?_
  refine TOps.next ?_
  refine Tri.seq ?_
  refine Tri.seq (Tri.region ?_)
  refine TOps.move rfl rfl ?_
  refine TOps.eqlPtrNil rfl Try.underlying46 rfl ?_
  refine TOps.next ?_
  refine Tri.cond rfl (fun hc1 => ?_) (fun hc1 => ?_)
  · exact absurd hc1 (by first | decide | simp)
  try simp only [decide_eq_true_eq, decide_eq_false_iff_not, Bool.and_eq_true, Bool.or_eq_true, Bool.not_eq_true', Bool.and_eq_false_iff, Bool.or_eq_false_iff, Bool.not_eq_false', Int.not_lt, Int.not_le, ne_eq, Decidable.not_not, Option.isSome_iff_ne_none, Option.isNone_iff_eq_none] at hc1
  refine Tri.fin ?_
  refine Nrm.next ?_
  refine Tri.seq (Tri.region ?_)
  refine TOps.move rfl rfl ?_
  refine TOps.nilCheck rfl rfl ?_
  first | refine TOps.fieldB 3 rfl Try.underlying100 rfl rfl ti3 rfl rfl rfl ?_ | refine TOps.fieldN 3 rfl Try.underlying100 rfl rfl ti3 rfl rfl rfl ?_
  refine TOps.load1 rfl ti3 (by first | exact Rd.lit (by repeat (first | exact List.Mem.head _ | apply List.Mem.tail)) rfl | (repeat (first | assumption | exact Rd.fld (by assumption) 3 rfl | apply Rd.up))) rfl ?_
  refine TOps.assign rfl rfl ?_
  refine TOps.next ?_
  refine Tri.ret1 (H' := H) Try.results17 (fun _ _ h => h) (.tmp rfl) (Le.refl _) ⟨rfl, rfl⟩
theorem mfailedNil_g {H : List Ent} : Gives Try.prog 17 [.pointer none] H (R1 (.int .i64 0) H) := by
  refine Gives.enter Try.func17 rfl (by exact Try.ntmps17) rfl ?_
  refine Tri.seq (Tri.region ?_)
  refine TOps.assign rfl rfl ?_
  refine TOps.next ?_
  refine Tri.seq ?_
  refine Tri.seq (Tri.region ?_)
  refine TOps.move rfl rfl ?_
  refine TOps.eqlPtrNil rfl Try.underlying46 rfl ?_
  refine TOps.next ?_
  refine Tri.cond rfl (fun hc1 => ?_) (fun hc1 => ?_)
  · try simp only [decide_eq_true_eq, decide_eq_false_iff_not, Bool.and_eq_true, Bool.or_eq_true, Bool.not_eq_true', Bool.and_eq_false_iff, Bool.or_eq_false_iff, Bool.not_eq_false', Int.not_lt, Int.not_le, ne_eq, Decidable.not_not, Option.isSome_iff_ne_none, Option.isNone_iff_eq_none] at hc1
    refine Tri.seq (Tri.region ?_)
    refine TOps.assign rfl rfl ?_
    refine TOps.next ?_
    refine Tri.ret1 (H' := H) Try.results17 (fun _ _ h => h) (.tmp rfl) (Le.refl _) ⟨rfl, rfl⟩
  · exact absurd hc1 (by first | decide | simp)
theorem mplay_g {H0 : List Ent} {m : Nat} {F : Fm} {nv : Value} {Z : Mo} {la : Option Nat} {lcap : Nat} (hF : RF H0 (.agg (List.toArray [.int .i64 F.vars, nv, .int .i64 F.top])) F) (hg : F.Good) (hS : MoOk F Z) (hla : Z.log ≠ [] → ∃ b, la = some b) (i : Int) (fl : Bool) :
    Gives Try.prog 39 [.pointer (some ⟨m, 0, none⟩), .int .i64 i, .bool fl] (row (some m) 100 5 1 [.int .i64 F.vars, nv, .int .i64 F.top, .int .i64 Z.f, slV la 0 Z.log.length lcap] :: row la 137 3 lcap (logCells Z.log) :: H0) (fun u H' => ∃ la' lcap', ((F.play Z i fl).log ≠ [] → ∃ b, la' = some b) ∧ u = .tuple (List.toArray [.bool (F.playTop Z i fl), errV 73 (F.playErr Z i fl)]) ∧ row (some m) 100 5 1 [.int .i64 F.vars, nv, .int .i64 F.top, .int .i64 (F.play Z i fl).f, slV la' 0 (F.play Z i fl).log.length lcap'] :: row la' 137 3 lcap' (logCells (F.play Z i fl).log) :: H0 = H') := by
  have g0 := hg.v0; have g1 := hg.v1
  obtain ⟨v, hv⟩ := Int.eq_ofNat_of_zero_le g0
  have hvn : F.vars.toNat = v := by omega
  have h24 := pow24 (show v ≤ 24 by omega)
  have hff := hS.lt
  have hl4 := hS.len
  have hlc := logCells_length Z.log
  rw [hvn] at hff
  have hsp : ∀ x : Bool, decide ((if x then (1 : Int) else 0) = 1) = x := fun x => by cases x <;> rfl
  have hF1 : ∀ (e1 e2 : Ent), RF (e1 :: e2 :: H0) (.agg (List.toArray [.int .i64 F.vars, nv, .int .i64 F.top])) F := fun e1 e2 => hF.le (Le.drop (Le.drop (Le.refl _)))
  refine Gives.enter Try.func39 rfl (by exact Try.ntmps39) rfl ?_
  refine Tri.seq (Tri.region ?_)
  refine TOps.assign rfl rfl ?_
  refine TOps.assign rfl rfl ?_
  refine TOps.next ?_
  refine Tri.seq ?_
  refine Tri.block ?_
  refine Tri.seq (Tri.region ?_)
  refine TOps.move rfl rfl ?_
  refine TOps.eqlPtrNil rfl Try.underlying46 rfl ?_
  refine TOps.assign rfl rfl ?_
  refine TOps.next ?_
  refine Tri.cond rfl (fun hc1 => ?_) (fun hc1 => ?_)
  · exact absurd hc1 (by first | decide | simp)
  try simp only [decide_eq_true_eq, decide_eq_false_iff_not, Bool.and_eq_true, Bool.or_eq_true, Bool.not_eq_true', Bool.and_eq_false_iff, Bool.or_eq_false_iff, Bool.not_eq_false', Int.not_lt, Int.not_le, ne_eq, Decidable.not_not, Option.isSome_iff_ne_none, Option.isNone_iff_eq_none] at hc1
  refine Tri.seq (Tri.region ?_)
  refine TOps.move rfl rfl ?_
  refine TOps.lss rfl rfl rfl ?_
  refine TOps.move rfl rfl ?_
  refine' TOps.orB 7 rfl rfl rfl rfl (fun hg3_2 => ?_) ?_; rotate_left
  · have hg3_2' := hg3_2
    try simp only [decide_eq_true_eq, decide_eq_false_iff_not, Bool.and_eq_true, Bool.or_eq_true, Bool.not_eq_true', Bool.and_eq_false_iff, Bool.or_eq_false_iff, Bool.not_eq_false', Int.not_lt, Int.not_le, ne_eq, Decidable.not_not] at hg3_2'
    refine TOps.strip 2 false rfl rfl hg3_2 rfl ?_
    refine TOps.move rfl rfl ?_
    refine TOps.move rfl rfl ?_
    refine TOps.nilCheck rfl rfl ?_
    refine TOps.field0 rfl Try.underlying100 rfl rfl ti24 rfl rfl rfl ?_
    refine TOps.field0 rfl Try.underlying24 rfl rfl ti3 rfl rfl rfl ?_
    refine TOps.load1 rfl ti3 (by first | exact Rd.lit (by repeat (first | exact List.Mem.head _ | apply List.Mem.tail)) rfl | (repeat (first | assumption | exact Rd.fld (by assumption) 0 rfl | apply Rd.up))) rfl ?_
    refine TOps.geq rfl rfl rfl ?_
    refine TOps.blk rfl (by repeat (first | exact Ext.refl _ | refine Ext.cons rfl ?_)) (by repeat (first | exact Le.refl _ | apply Le.drop))
  refine TOps.assign rfl rfl ?_
  refine TOps.next ?_
  refine Tri.cond rfl (fun hc2 => ?_) (fun hc2 => ?_)
  · try simp only [decide_eq_true_eq, decide_eq_false_iff_not, Bool.and_eq_true, Bool.or_eq_true, Bool.not_eq_true', Bool.and_eq_false_iff, Bool.or_eq_false_iff, Bool.not_eq_false', Int.not_lt, Int.not_le, ne_eq, Decidable.not_not, Option.isSome_iff_ne_none, Option.isNone_iff_eq_none] at hc2
    have hpe := Fm.playErr_1 (F := F) (S := Z) (i := i) (fl := fl) (by omega)
    refine Tri.seq (Tri.region ?_)
    refine TOps.makeInterface rfl Try.underlying73 rfl rfl ?_
    refine TOps.assign rfl rfl ?_
    refine TOps.assign rfl rfl ?_
    refine TOps.next ?_
    refine Tri.ret2 (H' := row (some m) 100 5 1 [.int .i64 F.vars, nv, .int .i64 F.top, .int .i64 Z.f, slV la 0 Z.log.length lcap] :: row la 137 3 lcap (logCells Z.log) :: H0) Try.results39 (fun _ _ h => h) (.tmp rfl) (.tmp rfl) (Le.refl _) ⟨la, lcap, by rw [Fm.play_err hpe]; exact hla, by unfold Fm.playTop; rw [hpe]; rfl, by rw [Fm.play_err hpe]⟩
  try simp only [decide_eq_true_eq, decide_eq_false_iff_not, Bool.and_eq_true, Bool.or_eq_true, Bool.not_eq_true', Bool.and_eq_false_iff, Bool.or_eq_false_iff, Bool.not_eq_false', Int.not_lt, Int.not_le, ne_eq, Decidable.not_not, Option.isSome_iff_ne_none, Option.isNone_iff_eq_none] at hc2
  obtain ⟨n, rfl⟩ := Int.eq_ofNat_of_zero_le (show 0 ≤ i by omega)
  have hnv : n < v := by omega
  have hin : ¬ ((n : Int) < 0 ∨ F.vars ≤ n) := by omega
  have hbit := bit_step Z.f n (by omega)
  have h2n : 2 ^ n < 2 ^ v := Nat.pow_lt_pow_right (by decide) hnv
  have hxl : Z.f ^^^ 2 ^ n < 2 ^ F.vars.toNat := by rw [hvn]; exact xor_bit_lt hff hnv
  refine Tri.seq (Tri.region ?_)
  refine TOps.move rfl rfl ?_
  refine TOps.nilCheck rfl rfl ?_
  first | refine TOps.fieldB 3 rfl Try.underlying100 rfl rfl ti3 rfl rfl rfl ?_ | refine TOps.fieldN 3 rfl Try.underlying100 rfl rfl ti3 rfl rfl rfl ?_
  refine TOps.load1 rfl ti3 (by first | exact Rd.lit (by repeat (first | exact List.Mem.head _ | apply List.Mem.tail)) rfl | (repeat (first | assumption | exact Rd.fld (by assumption) 3 rfl | apply Rd.up))) rfl ?_
  refine TOps.move rfl rfl ?_
  refine TOps.shr rfl rfl (by omega) rfl rfl ?_
  refine TOps.and (r := if Z.f.testBit n then 1 else 0) rfl rfl (by rw [Int.toNat_natCast]; exact hbit) rfl ?_
  refine TOps.eqlIr (r := Z.f.testBit n) rfl rfl (hsp _) rfl ?_
  refine TOps.move rfl rfl ?_
  refine TOps.eqlB rfl rfl Try.underlying4 rfl ?_
  refine TOps.assign rfl rfl ?_
  refine TOps.next ?_
  refine Tri.cond rfl (fun hc3 => ?_) (fun hc3 => ?_)
  · try simp only [decide_eq_true_eq, decide_eq_false_iff_not, Bool.and_eq_true, Bool.or_eq_true, Bool.not_eq_true', Bool.and_eq_false_iff, Bool.or_eq_false_iff, Bool.not_eq_false', Int.not_lt, Int.not_le, ne_eq, Decidable.not_not, Option.isSome_iff_ne_none, Option.isNone_iff_eq_none] at hc3
    have hpe := Fm.playErr_2 (F := F) (S := Z) (i := n) (fl := fl) hin (by simpa using hc3)
    refine Tri.seq (Tri.region ?_)
    refine TOps.makeInterface rfl Try.underlying73 rfl rfl ?_
    refine TOps.assign rfl rfl ?_
    refine TOps.assign rfl rfl ?_
    refine TOps.next ?_
    refine Tri.ret2 (H' := row (some m) 100 5 1 [.int .i64 F.vars, nv, .int .i64 F.top, .int .i64 Z.f, slV la 0 Z.log.length lcap] :: row la 137 3 lcap (logCells Z.log) :: H0) Try.results39 (fun _ _ h => h) (.tmp rfl) (.tmp rfl) (Le.refl _) ⟨la, lcap, by rw [Fm.play_err hpe]; exact hla, by unfold Fm.playTop; rw [hpe]; rfl, by rw [Fm.play_err hpe]⟩
  try simp only [decide_eq_true_eq, decide_eq_false_iff_not, Bool.and_eq_true, Bool.or_eq_true, Bool.not_eq_true', Bool.and_eq_false_iff, Bool.or_eq_false_iff, Bool.not_eq_false', Int.not_lt, Int.not_le, ne_eq, Decidable.not_not, Option.isSome_iff_ne_none, Option.isNone_iff_eq_none] at hc3
  have hnb : ¬ Z.f.testBit (n : Int).toNat = fl := by simpa using hc3
  refine Tri.seq (Tri.region ?_)
  refine TOps.move rfl rfl ?_
  refine TOps.nilCheck rfl rfl ?_
  first | refine TOps.fieldB 4 rfl Try.underlying100 rfl rfl ti98 rfl rfl rfl ?_ | refine TOps.fieldN 4 rfl Try.underlying100 rfl rfl ti98 rfl rfl rfl ?_
  refine TOps.load1 rfl ti98 (by first | exact Rd.lit (by repeat (first | exact List.Mem.head _ | apply List.Mem.tail)) rfl | (repeat (first | assumption | exact Rd.fld (by assumption) 4 rfl | apply Rd.up))) rfl ?_
  refine TOps.len rfl Try.underlying98 rfl ?_
  refine TOps.eqlI rfl rfl rfl ?_
  refine TOps.assign rfl rfl ?_
  refine TOps.next ?_
  refine Tri.cond rfl (fun hc4 => ?_) (fun hc4 => ?_)
  · try simp only [decide_eq_true_eq, decide_eq_false_iff_not, Bool.and_eq_true, Bool.or_eq_true, Bool.not_eq_true', Bool.and_eq_false_iff, Bool.or_eq_false_iff, Bool.not_eq_false', Int.not_lt, Int.not_le, ne_eq, Decidable.not_not, Option.isSome_iff_ne_none, Option.isNone_iff_eq_none] at hc4
    have hpe := Fm.playErr_3 (F := F) (S := Z) (i := n) (fl := fl) hin hnb (by omega)
    refine Tri.seq (Tri.region ?_)
    refine TOps.makeInterface rfl Try.underlying73 rfl rfl ?_
    refine TOps.assign rfl rfl ?_
    refine TOps.assign rfl rfl ?_
    refine TOps.next ?_
    refine Tri.ret2 (H' := row (some m) 100 5 1 [.int .i64 F.vars, nv, .int .i64 F.top, .int .i64 Z.f, slV la 0 Z.log.length lcap] :: row la 137 3 lcap (logCells Z.log) :: H0) Try.results39 (fun _ _ h => h) (.tmp rfl) (.tmp rfl) (Le.refl _) ⟨la, lcap, by rw [Fm.play_err hpe]; exact hla, by unfold Fm.playTop; rw [hpe]; rfl, by rw [Fm.play_err hpe]⟩
  try simp only [decide_eq_true_eq, decide_eq_false_iff_not, Bool.and_eq_true, Bool.or_eq_true, Bool.not_eq_true', Bool.and_eq_false_iff, Bool.or_eq_false_iff, Bool.not_eq_false', Int.not_lt, Int.not_le, ne_eq, Decidable.not_not, Option.isSome_iff_ne_none, Option.isNone_iff_eq_none] at hc4
  have hpe := Fm.playErr_4 (F := F) (S := Z) (i := n) (fl := fl) hin hnb (by omega)
  refine Tri.fin ?_
  refine Nrm.unB ?_
  refine Nrm.next ?_
  refine Tri.seq ?_
  refine Tri.drawX (X := Unit) rfl [(0, .pointer (some ⟨m, 0, none⟩)), (1, .int .i64 n), (2, .bool fl)] [] (fun x => [_, _, _, _, _, _, _, _, _, undef]) (fun x c => match c with | 0 => row (some m) 100 5 1 [.int .i64 F.vars, nv, .int .i64 F.top, .int .i64 Z.f, slV la 0 Z.log.length lcap] :: row la 137 3 lcap (logCells Z.log) :: H0 | _ + 1 => row (some m) 100 5 1 [.int .i64 F.vars, nv, .int .i64 F.top, .int .i64 ((Z.f ^^^ 2 ^ n : Nat) : Int), slV la 0 Z.log.length lcap] :: row la 137 3 lcap (logCells Z.log) :: H0) [9] () [] rfl rfl ⟨rfl, rfl, rfl, trivial⟩ trivial (by repeat (first | exact Le.refl _ | assumption | apply Le.drop)) (by
    refine ⟨?_, ?_, ?_, ?_, ?_, ?_, ?_, ?_, ?_, ?_, trivial⟩
    · refine ⟨fun x S c he hw hd hc hcu hm _ => ?_, trivial⟩
      refine TOps.move (he _ _ rfl) rfl ?_
      exact TOps.fd x rfl rfl
    · refine ⟨fun x S c he hw hd hc hcu hm _ => ?_, trivial⟩
      obtain ⟨h0, -⟩ := hd
      refine TOps.nilCheck h0 rfl ?_
      exact TOps.fd x rfl rfl
    · refine ⟨fun x S c he hw hd hc hcu hm _ => ?_, trivial⟩
      obtain ⟨h1, -⟩ := hd
      first | refine TOps.fieldB 3 h1 Try.underlying100 rfl rfl ti3 rfl rfl rfl ?_ | refine TOps.fieldN 3 h1 Try.underlying100 rfl rfl ti3 rfl rfl rfl ?_
      exact TOps.fd x rfl rfl
    · refine ⟨fun x S c he hw hd hc hcu hm _ => ?_, trivial⟩
      obtain ⟨h2, -⟩ := hd
      obtain rfl : c = 0 := by have : c ≤ 0 := hcu; omega
      refine TOps.load1 h2 ti3 (Rd.lit (by repeat (first | exact List.Mem.head _ | apply List.Mem.tail)) rfl) rfl ?_
      exact TOps.fd x rfl rfl
    · refine ⟨fun x S c he hw hd hc hcu hm _ => ?_, trivial⟩
      refine TOps.move (he _ _ rfl) rfl ?_
      exact TOps.fd x rfl rfl
    · refine ⟨fun x S c he hw hd hc hcu hm _ => ?_, trivial⟩
      obtain ⟨h4, -⟩ := hd
      refine TOps.shl (r := ((2 ^ n : Nat) : Int)) rfl h4 (by omega) (by rw [Int.toNat_natCast]; exact ishl_one (by omega)) rfl ?_
      exact TOps.fd x rfl rfl
    · refine ⟨fun x S c he hw hd hc hcu hm _ => ?_, trivial⟩
      obtain ⟨h3, h5, -⟩ := hd
      refine TOps.xor (r := ((Z.f ^^^ 2 ^ n : Nat) : Int)) h3 h5 (ixor_nat (by omega) (by omega)) rfl ?_
      exact TOps.fd x rfl rfl
    · refine ⟨fun x S c he hw hd hc hcu hm _ => ?_, trivial⟩
      obtain ⟨h0, _, h1, h2, h3, h4, h5, h6, -⟩ := hd
      refine TOps.nilCheck h0 rfl ?_
      exact TOps.fd x rfl rfl
    · refine ⟨fun x S c he hw hd hc hcu hm _ => ?_, trivial⟩
      obtain ⟨h7, h0, h1, h2, h3, h4, h5, h6, -⟩ := hd
      first | refine TOps.fieldB 3 h7 Try.underlying100 rfl rfl ti3 rfl rfl rfl ?_ | refine TOps.fieldN 3 h7 Try.underlying100 rfl rfl ti3 rfl rfl rfl ?_
      exact TOps.fd x rfl rfl
    · refine ⟨fun x S c he hw hd hc hcu hm _ => ?_, trivial⟩
      obtain ⟨h8, h6, h0, h1, h2, h3, h4, h5, _, -⟩ := hd
      obtain rfl : c = 0 := hm rfl
      refine TOps.store1 h8 h6 ti3 rfl rfl Upd.here (by simp) ?_
      exact TOps.fd x rfl rfl
    ) (fun x => ?_)
  refine Nrm.next ?_
  refine Tri.seq (Tri.region ?_)
  refine TOps.move rfl rfl ?_
  refine TOps.call (vs := [_]) Try.call66 ⟨rfl, trivial⟩ (mtop_g (F := F) (nv := nv) (f := Z.f ^^^ 2 ^ n) (Rd.all (List.Mem.head _)) (hF1 _ _) hg hxl) rfl ?_
  rintro _ _ ⟨rfl, rfl⟩
  refine TOps.assign rfl rfl ?_
  refine TOps.next ?_
  refine Tri.seq (Tri.region ?_)
  refine TOps.move rfl rfl ?_
  refine TOps.move rfl rfl ?_
  refine TOps.nilCheck rfl rfl ?_
  first | refine TOps.fieldB 4 rfl Try.underlying100 rfl rfl ti98 rfl rfl rfl ?_ | refine TOps.fieldN 4 rfl Try.underlying100 rfl rfl ti98 rfl rfl rfl ?_
  refine TOps.load1 rfl ti98 (by first | exact Rd.lit (by repeat (first | exact List.Mem.head _ | apply List.Mem.tail)) rfl | (repeat (first | assumption | exact Rd.fld (by assumption) 4 rfl | apply Rd.up))) rfl ?_
  refine TOps.move rfl rfl ?_
  refine TOps.move rfl rfl ?_
  refine TOps.move rfl rfl ?_
  refine TOps.buildStruct (vs := [(0, _), (1, _), (2, _)]) (xs := [_, _, _]) [(0, 1), (1, 1), (2, 1)] Try.underlying137 ti137 (fun w => by simp) ⟨rfl, rfl, rfl, rfl, rfl, rfl, trivial⟩ rfl rfl ?_
  refine TOps.buildSlice (vs := [_]) (xs := [_, _, _]) Try.underlying98 ti137 ⟨rfl, rfl, trivial⟩ rfl rfl rfl rfl rfl rfl (by decide) rfl (fun b66 => ?_)
  refine TOps.appendLit rfl rfl Try.underlying98 ti137 rfl (fun _ _ => (by repeat (first | exact Upd.here | apply Upd.there))) rfl hlc rfl (by omega) (by omega) (by simp) rfl (fun b67 cap67 => ?_)
  refine TOps.nilCheck rfl rfl ?_
  first | refine TOps.fieldB 4 rfl Try.underlying100 rfl rfl ti98 rfl rfl rfl ?_ | refine TOps.fieldN 4 rfl Try.underlying100 rfl rfl ti98 rfl rfl rfl ?_
  refine TOps.store1 rfl rfl ti98 rfl rfl (by repeat (first | exact Upd.here | apply Upd.there)) (by first | decide | (simp; done) | (simp; omega) | exact (show (4 : Nat) < 5 by decide)) ?_
  refine TOps.next ?_
  refine Tri.seq (Tri.region ?_)
  refine TOps.move rfl rfl ?_
  refine TOps.assign rfl rfl ?_
  refine TOps.assign rfl rfl ?_
  refine TOps.next ?_
  refine Tri.ret2 (H' := row (some m) 100 5 1 [.int .i64 F.vars, nv, .int .i64 F.top, .int .i64 (Z.push (Z.f ^^^ 2 ^ n) ⟨n, fl, F.value ((Z.f ^^^ 2 ^ n : Nat) : Int)⟩).f, slV (some b67) 0 (Z.push (Z.f ^^^ 2 ^ n) ⟨n, fl, F.value ((Z.f ^^^ 2 ^ n : Nat) : Int)⟩).log.length cap67] :: row (some b67) 137 3 cap67 (logCells (Z.push (Z.f ^^^ 2 ^ n) ⟨n, fl, F.value ((Z.f ^^^ 2 ^ n : Nat) : Int)⟩).log) :: H0) Try.results39 (fun _ _ h => h) (.tmp rfl) (.tmp rfl) (Sp.le (by repeat (first | exact Sp.refl _ | exact Sp.sub (by assumption) | refine Sp.cons (by repeat (first | exact Pick.here | exact Pick.row (by first | (simp; done) | (rw [logCells_append]; rfl)) | apply Pick.there)) ?_ | exact Sp.nil | apply Sp.skip))) ⟨some b67, cap67, fun _ => ⟨_, rfl⟩, by unfold Fm.playTop; rw [hpe]; rfl, by rw [Fm.play_ok hpe]; rfl⟩
theorem mfail_g {H0 : List Ent} {m : Nat} {F : Fm} {nv : Value} {Z : Mo} {la : Option Nat} {lcap : Nat} (hF : RF H0 (.agg (List.toArray [.int .i64 F.vars, nv, .int .i64 F.top])) F) (hg : F.Good) (hS : MoOk F Z) (hla : Z.log ≠ [] → ∃ b, la = some b) (i : Int) :
    Gives Try.prog 15 [.pointer (some ⟨m, 0, none⟩), .int .i64 i] (row (some m) 100 5 1 [.int .i64 F.vars, nv, .int .i64 F.top, .int .i64 Z.f, slV la 0 Z.log.length lcap] :: row la 137 3 lcap (logCells Z.log) :: H0) (fun u H' => ∃ la' lcap', ((F.play Z i true).log ≠ [] → ∃ b, la' = some b) ∧ u = .tuple (List.toArray [.bool (F.playTop Z i true), errV 73 (F.playErr Z i true)]) ∧ row (some m) 100 5 1 [.int .i64 F.vars, nv, .int .i64 F.top, .int .i64 (F.play Z i true).f, slV la' 0 (F.play Z i true).log.length lcap'] :: row la' 137 3 lcap' (logCells (F.play Z i true).log) :: H0 = H') := by
  refine Gives.enter Try.func15 rfl (by exact Try.ntmps15) rfl ?_
  refine Tri.seq (Tri.region ?_)
  refine TOps.assign rfl rfl ?_
  refine TOps.assign rfl rfl ?_
  refine TOps.next ?_
  refine Tri.seq (Tri.region ?_)
  refine TOps.move rfl rfl ?_
  refine TOps.move rfl rfl ?_
  refine TOps.call (vs := [_, _, _]) Try.call39 ⟨rfl, rfl, rfl, trivial⟩ (mplay_g hF hg hS hla i true) rfl ?_
  rintro _ _ ⟨la', lcap', hla', rfl, rfl⟩
  refine TOps.extract rfl rfl rfl ?_
  refine TOps.extract rfl rfl rfl ?_
  refine TOps.assign rfl rfl ?_
  refine TOps.assign rfl rfl ?_
  refine TOps.next ?_
  refine Tri.ret2 (H' := _) Try.results15 (fun _ _ h => h) (.tmp rfl) (.tmp rfl) (Le.refl _) ⟨la', lcap', hla', rfl, rfl⟩
end Go.Proofs
namespace Go.Proofs
open Go.GL
set_option linter.unusedVariables false
set_option linter.unusedSimpArgs false
theorem rcheck1_g {H : List Ent} {q : Int} (h0 : 0 ≤ q) (h1 : q ≤ 1048576) : Gives Try.prog 69 [.int .i64 q] H (R1 (.bool false) H) := by
  refine Gives.enter Try.func69 rfl (by exact Try.ntmps69) rfl ?_
  refine Tri.seq (Tri.region ?_)
  refine TOps.assign rfl rfl ?_
  refine TOps.next ?_
  refine Tri.seq (Tri.region ?_)
  refine TOps.move rfl rfl ?_
  refine TOps.lss rfl rfl rfl ?_
  refine TOps.move rfl rfl ?_
  refine' TOps.orB 2 rfl rfl rfl rfl (fun hg1_2 => ?_) ?_; rotate_left
  · have hg1_2' := hg1_2
    try simp only [decide_eq_true_eq, decide_eq_false_iff_not, Bool.and_eq_true, Bool.or_eq_true, Bool.not_eq_true', Bool.and_eq_false_iff, Bool.or_eq_false_iff, Bool.not_eq_false', Int.not_lt, Int.not_le, ne_eq, Decidable.not_not] at hg1_2'
    refine TOps.strip 2 false rfl rfl hg1_2 rfl ?_
    refine TOps.move rfl rfl ?_
    refine TOps.gtr rfl rfl rfl ?_
    refine TOps.blk rfl (by repeat (first | exact Ext.refl _ | refine Ext.cons rfl ?_)) (by repeat (first | exact Le.refl _ | apply Le.drop))
  refine TOps.assign rfl rfl ?_
  refine TOps.next ?_
  refine Tri.ret1 (H' := H) Try.results69 (fun _ _ h => h) (.tmp rfl) (Le.refl _) ⟨?_, rfl⟩
  rw [decide_eq_false (show ¬ q < 0 by omega), decide_eq_false (show ¬ 1048576 < q by omega)]; rfl
theorem indexFn_g {H : List Ent} {xs : List Int} {cb cc : Nat} (hr : Rd H cb 0 (ints xs)) (hx : ∀ q ∈ xs, 0 ≤ q ∧ q ≤ 1048576) (hl : xs.length ≤ 1000) :
    Gives Try.prog 86 [slV (some cb) 0 xs.length cc, .func (.func 69) #[] #[]] H (R1 (.int .i64 (-1)) H) := by
  refine Gives.enter Try.func86 rfl (by exact Try.ntmps86) rfl ?_
  refine Tri.seq (Tri.region ?_)
  refine TOps.assign rfl rfl ?_
  refine TOps.next ?_
  refine Tri.seq ?_
  refine Tri.seq (Tri.region ?_)
  refine TOps.move rfl rfl ?_
  refine TOps.len rfl Try.underlying53 rfl ?_
  refine TOps.move rfl rfl ?_
  refine TOps.next ?_
  refine Tri.range (X := Unit) (fun x k => [(0, slV (some cb) 0 xs.length cc), (1, .func (.func 69) #[] #[])]) (fun x k => H) (fun x k => True) (by omega) rfl rfl rfl (fun _ _ => ⟨rfl, rfl, rfl, rfl⟩) () trivial ⟨rfl, rfl, trivial⟩ (by repeat (first | exact Le.refl _ | assumption | apply Le.drop)) (fun k x hlt hp => ?_) (fun x ac wc hp hS hM => ?_)
  · skip
    have hxk := hx xs[k] (List.getElem_mem hlt)
    have hrk : Rd H cb (0 + k) [.int .i64 xs[k]] := Rd.part hr k (by simp [ints, hlt])
    refine Tri.seq (Tri.region ?_)
    refine TOps.move rfl rfl ?_
    refine TOps.assign rfl rfl ?_
    refine TOps.next ?_
    refine Tri.seq (Tri.region ?_)
    refine TOps.move rfl rfl ?_
    refine TOps.move rfl rfl ?_
    refine TOps.move rfl rfl ?_
    refine TOps.indexAddr (b := cb) (off := 0) (m := xs.length) (cap := cc) (off' := 0 + k) rfl rfl Try.underlying53 ti3 (by omega) (by omega) (by simp) rfl ?_
    refine TOps.load1 rfl ti3 hrk rfl ?_
    refine TOps.callV (caps := []) (vs := [_]) rfl Try.call69 ⟨rfl, trivial⟩ (rcheck1_g hxk.1 hxk.2) rfl ?_
    rintro _ _ ⟨rfl, rfl⟩
    refine TOps.next ?_
    refine Tri.cond rfl (fun hc1 => ?_) (fun hc1 => ?_)
    · exact absurd hc1 (by first | decide | simp)
    try simp only [decide_eq_true_eq, decide_eq_false_iff_not, Bool.and_eq_true, Bool.or_eq_true, Bool.not_eq_true', Bool.and_eq_false_iff, Bool.or_eq_false_iff, Bool.not_eq_false', Int.not_lt, Int.not_le, ne_eq, Decidable.not_not, Option.isSome_iff_ne_none, Option.isNone_iff_eq_none] at hc1
    refine Tri.fin ?_
    refine Nrm.body () trivial ⟨rfl, rfl, rfl, rfl, trivial⟩ (by repeat (first | exact Le.refl _ | assumption | apply Le.drop))
  refine Nrm.of hS hM ?_
  refine Nrm.next ?_
  refine Tri.seq (Tri.region ?_)
  refine TOps.assign rfl rfl ?_
  refine TOps.next ?_
  refine Tri.ret1 (H' := H) Try.results86 (fun _ _ h => h) (.tmp rfl) (Le.refl _) ⟨rfl, rfl⟩
theorem containsFn_g {H : List Ent} {xs : List Int} {cb cc : Nat} (hr : Rd H cb 0 (ints xs)) (hx : ∀ q ∈ xs, 0 ≤ q ∧ q ≤ 1048576) (hl : xs.length ≤ 1000) :
    Gives Try.prog 68 [slV (some cb) 0 xs.length cc, .func (.func 69) #[] #[]] H (R1 (.bool false) H) := by
  refine Gives.enter Try.func68 rfl (by exact Try.ntmps68) rfl ?_
  refine Tri.seq (Tri.region ?_)
  refine TOps.assign rfl rfl ?_
  refine TOps.next ?_
  refine Tri.seq (Tri.region ?_)
  refine TOps.move rfl rfl ?_
  refine TOps.move rfl rfl ?_
  refine TOps.call (vs := [_, _]) Try.call86 ⟨rfl, rfl, trivial⟩ (indexFn_g hr hx hl) rfl ?_
  rintro _ _ ⟨rfl, rfl⟩
  refine TOps.geq rfl rfl rfl ?_
  refine TOps.assign rfl rfl ?_
  refine TOps.next ?_
  refine Tri.ret1 (H' := H) Try.results68 (fun _ _ h => h) (.tmp rfl) (Le.refl _) ⟨rfl, rfl⟩
theorem pcheck_g {H : List Ent} {fv : Value} {F : Fm} (hF : RF H fv F) (hk : F.ok) (hg : F.Good) (hs : F.syn = true) {v : Nat} (hv : F.vars = v) (hv24 : v ≤ 24) {st : Int} {cost : List Int} {cb cc : Nat} (hr : Rd H cb 0 (ints cost)) (hx : ∀ q ∈ cost, 0 ≤ q ∧ q ≤ 1048576) (hl : cost.length = v) (hst : 0 ≤ st) (hst2 : st < ((2 ^ v : Nat) : Int)) :
    Gives Try.prog 40 [fv, .agg (List.toArray [.int .i64 st, slV (some cb) 0 cost.length cc])] H (R1 (errV 73 none) H) := by
  have hF0 := hF
  have he := (Fm.good_iff F).2 hg
  obtain ⟨na, no, cap, sa, rfl, hN⟩ := hF
  refine Gives.enter Try.func40 rfl (by exact Try.ntmps40) rfl ?_
  refine Tri.seq (Tri.region ?_)
  refine TOps.boxN rfl ti24 rfl rfl (fun b2 => ?_)
  refine TOps.hide (fun H1 l1 s1 r1 => ?_)
  replace hF0 := hF0.le l1; replace hr := hr.le l1
  refine TOps.boxN rfl ti55 rfl rfl (fun b3 => ?_)
  refine TOps.hide (fun H2 l2 s2 r2 => ?_)
  replace hF0 := hF0.le l2; replace hr := hr.le l2; replace r1 := r1.le l2; have l3 := l2.trans l1
  refine TOps.assign rfl rfl ?_
  refine TOps.next ?_
  refine Tri.seq (Tri.region ?_)
  refine TOps.loadN (vs := fc3 F na no cap sa) rfl ti24 r1 rfl rfl ?_
  refine TOps.call (vs := [_]) Try.call67 ⟨rfl, trivial⟩ (csyntax_g hF0 hk) rfl ?_
  rintro _ _ ⟨rfl, rfl⟩
  rw [he, hs]
  refine TOps.move rfl rfl ?_
  refine TOps.extract rfl rfl rfl ?_
  refine TOps.extract rfl rfl rfl ?_
  refine TOps.assign rfl rfl ?_
  refine TOps.assign rfl rfl ?_
  refine TOps.next ?_
  refine Tri.seq ?_
  refine Tri.block ?_
  refine Tri.seq (Tri.region ?_)
  refine TOps.move rfl rfl ?_
  refine TOps.neqNil (T := 73) (o := none) rfl Try.underlying34 rfl ?_
  refine TOps.assign rfl rfl ?_
  refine TOps.next ?_
  refine Tri.cond rfl (fun hc1 => ?_) (fun hc1 => ?_)
  · exact absurd hc1 (by first | decide | simp)
  try simp only [decide_eq_true_eq, decide_eq_false_iff_not, Bool.and_eq_true, Bool.or_eq_true, Bool.not_eq_true', Bool.and_eq_false_iff, Bool.or_eq_false_iff, Bool.not_eq_false', Int.not_lt, Int.not_le, ne_eq, Decidable.not_not, Option.isSome_iff_ne_none, Option.isNone_iff_eq_none] at hc1
  refine Tri.seq (Tri.region ?_)
  refine TOps.move rfl rfl ?_
  refine TOps.not rfl rfl ?_
  refine TOps.assign rfl rfl ?_
  refine TOps.next ?_
  refine Tri.cond rfl (fun hc2 => ?_) (fun hc2 => ?_)
  · exact absurd hc2 (by first | decide | simp)
  try simp only [decide_eq_true_eq, decide_eq_false_iff_not, Bool.and_eq_true, Bool.or_eq_true, Bool.not_eq_true', Bool.and_eq_false_iff, Bool.or_eq_false_iff, Bool.not_eq_false', Int.not_lt, Int.not_le, ne_eq, Decidable.not_not, Option.isSome_iff_ne_none, Option.isNone_iff_eq_none] at hc2
  refine Tri.seq ?_
  refine Tri.drawC rfl [(2, .pointer (some ⟨b2, 0, none⟩)), (3, .pointer (some ⟨b3, 0, none⟩))] [] [_, _, _, _, _, _, _, _, _, _, _, _] (H2) [11] rfl ⟨rfl, rfl, trivial⟩ trivial (by repeat (first | exact Le.refl _ | assumption | apply Le.drop)) (by
    refine ⟨?_, ?_, ?_, ?_, ?_, ?_, ?_, ?_, ?_, ?_, ?_, ?_, trivial⟩
    · refine ⟨fun x S c he hw hd hc hcu hm _ => ?_, trivial⟩
      refine TOps.field0 (he _ _ rfl) Try.underlying55 rfl rfl ti3 rfl rfl rfl ?_
      exact TOps.fd x rfl rfl
    · refine ⟨fun x S c he hw hd hc hcu hm _ => ?_, trivial⟩
      obtain ⟨h0, -⟩ := hd
      refine TOps.load1 h0 ti3 (Rd.fld r2 0 rfl) rfl ?_
      exact TOps.fd x rfl rfl
    · refine ⟨fun x S c he hw hd hc hcu hm _ => ?_, trivial⟩
      obtain ⟨h1, -⟩ := hd
      refine TOps.lssr (r := false) h1 rfl (by simp; omega) rfl ?_
      exact TOps.fd x rfl rfl
    · refine ⟨fun x S c he hw hd hc hcu hm _ => ?_, trivial⟩
      obtain ⟨h2, -⟩ := hd
      refine TOps.move h2 rfl ?_
      exact TOps.fd x rfl rfl
    · refine ⟨fun x S c he hw hd hc hcu hm hgd => ?_, ⟨_, rfl⟩, .inl ⟨rfl, fun x => .inl rfl⟩⟩
      obtain ⟨h3, -⟩ := hd
      refine TOps.field0 (he _ _ rfl) Try.underlying55 rfl rfl ti3 rfl rfl rfl ?_
      exact TOps.fd x rfl rfl
    · refine ⟨fun x S c he hw hd hc hcu hm hgd => ?_, ⟨_, rfl⟩, .inl ⟨rfl, fun x => .inl rfl⟩⟩
      obtain ⟨h4, h3, -⟩ := hd
      refine TOps.load1 h4 ti3 (Rd.fld r2 0 rfl) rfl ?_
      exact TOps.fd x rfl rfl
    · refine ⟨fun x S c he hw hd hc hcu hm hgd => ?_, ⟨_, rfl⟩, .inl ⟨rfl, fun x => .inl rfl⟩⟩
      obtain ⟨h3, -⟩ := hd
      refine TOps.field0 (he _ _ rfl) Try.underlying24 rfl rfl ti3 rfl rfl rfl ?_
      exact TOps.fd x rfl rfl
    · refine ⟨fun x S c he hw hd hc hcu hm hgd => ?_, ⟨_, rfl⟩, .inl ⟨rfl, fun x => .inl rfl⟩⟩
      obtain ⟨h6, h3, -⟩ := hd
      refine TOps.load1 (v := natV v) h6 ti3 (Rd.eqv (Rd.fld r1 0 rfl) (by rw [hv])) rfl ?_
      exact TOps.fd x rfl rfl
    · refine ⟨fun x S c he hw hd hc hcu hm hgd => ?_, ⟨_, rfl⟩, .inl ⟨rfl, fun x => .inl rfl⟩⟩
      obtain ⟨h7, h3, -⟩ := hd
      refine TOps.shl (r := ((2 ^ v : Nat) : Int)) rfl h7 (by omega) (ishl_one (by omega)) rfl ?_
      exact TOps.fd x rfl rfl
    · refine ⟨fun x S c he hw hd hc hcu hm hgd => ?_, ⟨_, rfl⟩, .inl ⟨rfl, fun x => .inl rfl⟩⟩
      obtain ⟨h5, h8, h3, -⟩ := hd
      refine TOps.geqr (r := false) h5 h8 (decide_eq_false (by omega)) rfl ?_
      exact TOps.fd x rfl rfl
    · refine ⟨fun x S c he hw hd hc hcu hm _ => ?_, trivial⟩
      obtain ⟨h3, h9, -⟩ := hd
      refine TOps.pick h3 rfl h9 rfl ?_
      exact TOps.fd x rfl rfl
    · refine ⟨fun x S c he hw hd hc hcu hm _ => ?_, trivial⟩
      obtain ⟨h10, h3, -⟩ := hd
      refine TOps.assign h10 rfl ?_
      exact TOps.fd x rfl rfl
    ) ?_
  refine Nrm.next ?_
  refine Tri.cond rfl (fun hc3 => ?_) (fun hc3 => ?_)
  · exact absurd hc3 (by first | decide | simp)
  try simp only [decide_eq_true_eq, decide_eq_false_iff_not, Bool.and_eq_true, Bool.or_eq_true, Bool.not_eq_true', Bool.and_eq_false_iff, Bool.or_eq_false_iff, Bool.not_eq_false', Int.not_lt, Int.not_le, ne_eq, Decidable.not_not, Option.isSome_iff_ne_none, Option.isNone_iff_eq_none] at hc3
  refine Tri.seq (Tri.region ?_)
  first | refine TOps.fieldB 1 rfl Try.underlying55 rfl rfl ti53 rfl rfl rfl ?_ | refine TOps.fieldN 1 rfl Try.underlying55 rfl rfl ti53 rfl rfl rfl ?_
  refine TOps.load1 rfl ti53 (Rd.fld r2 1 rfl) rfl ?_
  refine TOps.len rfl Try.underlying53 rfl ?_
  refine TOps.field0 rfl Try.underlying24 rfl rfl ti3 rfl rfl rfl ?_
  refine TOps.load1 rfl ti3 (Rd.fld r1 0 rfl) rfl ?_
  refine TOps.neqIr (r := false) rfl rfl (by simp; omega) rfl ?_
  refine TOps.assign rfl rfl ?_
  refine TOps.next ?_
  refine Tri.cond rfl (fun hc4 => ?_) (fun hc4 => ?_)
  · exact absurd hc4 (by first | decide | simp)
  try simp only [decide_eq_true_eq, decide_eq_false_iff_not, Bool.and_eq_true, Bool.or_eq_true, Bool.not_eq_true', Bool.and_eq_false_iff, Bool.or_eq_false_iff, Bool.not_eq_false', Int.not_lt, Int.not_le, ne_eq, Decidable.not_not, Option.isSome_iff_ne_none, Option.isNone_iff_eq_none] at hc4
  refine Tri.seq (Tri.region ?_)
  first | refine TOps.fieldB 1 rfl Try.underlying55 rfl rfl ti53 rfl rfl rfl ?_ | refine TOps.fieldN 1 rfl Try.underlying55 rfl rfl ti53 rfl rfl rfl ?_
  refine TOps.load1 rfl ti53 (Rd.fld r2 1 rfl) rfl ?_
  refine TOps.call (vs := [_, _]) Try.call68 ⟨rfl, rfl, trivial⟩ (containsFn_g hr hx (by omega)) rfl ?_
  rintro _ _ ⟨rfl, rfl⟩
  refine TOps.assign rfl rfl ?_
  refine TOps.next ?_
  refine Tri.cond rfl (fun hc5 => ?_) (fun hc5 => ?_)
  · exact absurd hc5 (by first | decide | simp)
  try simp only [decide_eq_true_eq, decide_eq_false_iff_not, Bool.and_eq_true, Bool.or_eq_true, Bool.not_eq_true', Bool.and_eq_false_iff, Bool.or_eq_false_iff, Bool.not_eq_false', Int.not_lt, Int.not_le, ne_eq, Decidable.not_not, Option.isSome_iff_ne_none, Option.isNone_iff_eq_none] at hc5
  refine Tri.fin ?_
  refine Nrm.unB ?_
  refine Nrm.next ?_
  refine Tri.seq (Tri.region ?_)
  refine TOps.assign rfl rfl ?_
  refine TOps.next ?_
  refine Tri.ret1 (H' := H) Try.results40 (fun _ _ h => h) (.tmp rfl) l3 ⟨rfl, rfl⟩
theorem possible_g {H : List Ent} {fv : Value} {F : Fm} (hF : RF H fv F) (hk : F.ok) (he : F.setErr 0 = none) (hv : F.value 0 = false) :
    Gives Try.prog 41 [fv] H (R1 (errV 73 none) H) := by
  have hF0 := hF
  obtain ⟨na, no, cap, sa, rfl, hN⟩ := hF
  refine Gives.enter Try.func41 rfl (by exact Try.ntmps41) rfl ?_
  refine Tri.seq (Tri.region ?_)
  refine TOps.boxN rfl ti24 rfl rfl (fun b1 => ?_)
  refine TOps.hide (fun H1 l1 s1 r1 => ?_)
  replace hF0 := hF0.le l1
  refine TOps.assign rfl rfl ?_
  refine TOps.next ?_
  refine Tri.seq (Tri.region ?_)
  refine TOps.loadN (vs := fc3 F na no cap sa) rfl ti24 r1 rfl rfl ?_
  refine TOps.call (vs := [_, _]) Try.call9 ⟨rfl, rfl, trivial⟩ (valueOk_g hF0 hk he) rfl ?_
  rintro _ _ ⟨rfl, rfl⟩
  rw [hv]
  refine TOps.move rfl rfl ?_
  refine TOps.extract rfl rfl rfl ?_
  refine TOps.extract rfl rfl rfl ?_
  refine TOps.assign rfl rfl ?_
  refine TOps.assign rfl rfl ?_
  refine TOps.next ?_
  refine Tri.seq ?_
  refine Tri.seq (Tri.region ?_)
  refine TOps.move rfl rfl ?_
  refine TOps.eqlNil (T := 73) (o := none) rfl Try.underlying34 rfl ?_
  refine TOps.move rfl rfl ?_
  refine' TOps.andB 1 rfl rfl rfl rfl (fun hg2_2 => ?_) ?_; rotate_left
  · have hg2_2' := hg2_2
    try simp only [decide_eq_true_eq, decide_eq_false_iff_not, Bool.and_eq_true, Bool.or_eq_true, Bool.not_eq_true', Bool.and_eq_false_iff, Bool.or_eq_false_iff, Bool.not_eq_false', Int.not_lt, Int.not_le, ne_eq, Decidable.not_not] at hg2_2'
    refine TOps.strip 2 true rfl rfl hg2_2 rfl ?_
    refine TOps.move rfl rfl ?_
    refine TOps.blk rfl (by repeat (first | exact Ext.refl _ | refine Ext.cons rfl ?_)) (by repeat (first | exact Le.refl _ | apply Le.drop))
  refine TOps.next ?_
  refine Tri.cond rfl (fun hc1 => ?_) (fun hc1 => ?_)
  · exact absurd hc1 (by first | decide | simp)
  try simp only [decide_eq_true_eq, decide_eq_false_iff_not, Bool.and_eq_true, Bool.or_eq_true, Bool.not_eq_true', Bool.and_eq_false_iff, Bool.or_eq_false_iff, Bool.not_eq_false', Int.not_lt, Int.not_le, ne_eq, Decidable.not_not, Option.isSome_iff_ne_none, Option.isNone_iff_eq_none] at hc1
  refine Tri.fin ?_
  refine Nrm.next ?_
  refine Tri.seq (Tri.region ?_)
  refine TOps.move rfl rfl ?_
  refine TOps.assign rfl rfl ?_
  refine TOps.next ?_
  refine Tri.ret1 (H' := H) Try.results41 (fun _ _ h => h) (.tmp rfl) l1 ⟨rfl, rfl⟩
theorem cheapest_g {H : List Ent} {fv : Value} {F : Fm} (hF : RF H fv F) (hk : F.ok) (hg : F.Good) (hs : F.syn = true) {v : Nat} (hv : F.vars = v) (hv24 : v ≤ 24) {st : Int} {cost : List Int} {cb cc : Nat} (hr : Rd H cb 0 (ints cost)) (hx : ∀ q ∈ cost, 0 ≤ q ∧ q ≤ 1048576) (hl : cost.length = v) (hst : 0 ≤ st) (hst2 : st < ((2 ^ v : Nat) : Int)) (he0 : F.setErr 0 = none) (hv0 : F.value 0 = false) {k : Nat} {z : SS} (hm : fromM F st cost v k 0 0 0 ⟨0, 0, false⟩ = some z) :
    Gives Try.prog 16 [fv, .agg (List.toArray [.int .i64 st, slV (some cb) 0 cost.length cc])] H (R1 (.tuple (List.toArray [.int .i64 z.best, .int .i64 z.total, errV 73 none])) H) := by
  have hF0 := hF
  obtain ⟨na, no, cap, sa, rfl, hN⟩ := hF
  refine Gives.enter Try.func16 rfl (by exact Try.ntmps16) rfl ?_
  refine Tri.seq (Tri.region ?_)
  refine TOps.boxN rfl ti24 rfl rfl (fun b2 => ?_)
  refine TOps.hide (fun H1 l1 s1 r1 => ?_)
  replace hF0 := hF0.le l1; replace hr := hr.le l1
  refine TOps.boxN rfl ti55 rfl rfl (fun b3 => ?_)
  refine TOps.hide (fun H2 l2 s2 r2 => ?_)
  replace hF0 := hF0.le l2; replace hr := hr.le l2; replace r1 := r1.le l2; have l3 := l2.trans l1
  refine TOps.assign rfl rfl ?_
  refine TOps.assign rfl rfl ?_
  refine TOps.assign rfl rfl ?_
  refine TOps.next ?_
  refine Tri.seq ?_
  refine Tri.seq (Tri.region ?_)
  refine TOps.loadN (vs := fc3 F na no cap sa) rfl ti24 r1 rfl rfl ?_
  refine TOps.loadN (vs := [.int .i64 st, slV (some cb) 0 cost.length cc]) rfl ti55 r2 rfl rfl ?_
  refine TOps.call (vs := [_, _]) Try.call40 ⟨rfl, rfl, trivial⟩ (pcheck_g hF0 hk hg hs hv hv24 hr hx hl hst hst2) rfl ?_
  rintro _ _ ⟨rfl, rfl⟩
  refine TOps.assign rfl rfl ?_
  refine TOps.next ?_
  refine Tri.seq (Tri.region ?_)
  refine TOps.move rfl rfl ?_
  refine TOps.neqNil (T := 73) (o := none) rfl Try.underlying34 rfl ?_
  refine TOps.next ?_
  refine Tri.cond rfl (fun hc1 => ?_) (fun hc1 => ?_)
  · exact absurd hc1 (by first | decide | simp)
  try simp only [decide_eq_true_eq, decide_eq_false_iff_not, Bool.and_eq_true, Bool.or_eq_true, Bool.not_eq_true', Bool.and_eq_false_iff, Bool.or_eq_false_iff, Bool.not_eq_false', Int.not_lt, Int.not_le, ne_eq, Decidable.not_not, Option.isSome_iff_ne_none, Option.isNone_iff_eq_none] at hc1
  refine Tri.fin ?_
  refine Nrm.next ?_
  refine Tri.seq ?_
  refine Tri.seq (Tri.region ?_)
  refine TOps.loadN (vs := fc3 F na no cap sa) rfl ti24 r1 rfl rfl ?_
  refine TOps.call (vs := [_]) Try.call41 ⟨rfl, trivial⟩ (possible_g hF0 hk he0 hv0) rfl ?_
  rintro _ _ ⟨rfl, rfl⟩
  refine TOps.assign rfl rfl ?_
  refine TOps.next ?_
  refine Tri.seq (Tri.region ?_)
  refine TOps.move rfl rfl ?_
  refine TOps.neqNil (T := 73) (o := none) rfl Try.underlying34 rfl ?_
  refine TOps.next ?_
  refine Tri.cond rfl (fun hc2 => ?_) (fun hc2 => ?_)
  · exact absurd hc2 (by first | decide | simp)
  try simp only [decide_eq_true_eq, decide_eq_false_iff_not, Bool.and_eq_true, Bool.or_eq_true, Bool.not_eq_true', Bool.and_eq_false_iff, Bool.or_eq_false_iff, Bool.not_eq_false', Int.not_lt, Int.not_le, ne_eq, Decidable.not_not, Option.isSome_iff_ne_none, Option.isNone_iff_eq_none] at hc2
  refine Tri.fin ?_
  refine Nrm.next ?_
  refine Tri.seq (Tri.region ?_)
  refine TOps.loadN (vs := fc3 F na no cap sa) rfl ti24 r1 rfl rfl ?_
  refine TOps.loadN (vs := [.int .i64 st, slV (some cb) 0 cost.length cc]) rfl ti55 r2 rfl rfl ?_
  refine TOps.buildStruct (vs := [(0, _), (1, _)]) (xs := [_, _, _, _, _, _, _, _, _]) [(0, 3), (3, 2), (5, 1), (6, 1), (7, 1), (8, 1)] Try.underlying106 ti106 (fun w => by simp) ⟨rfl, rfl, rfl, rfl, trivial⟩ rfl rfl ?_
  refine TOps.alloc ti106 rfl (fun b9 => ?_)
  refine TOps.storeN rfl rfl ti106 rfl rfl (by repeat (first | exact Upd.here | apply Upd.there)) (by first | decide | (simp; done) | (simp; omega)) ?_
  refine TOps.le (H' := row (some b9) 106 9 1 [.int .i64 F.vars, slV na no F.nodes.length cap sa, .int .i64 F.top, .int .i64 st, slV (some cb) 0 cost.length cc, .int .i64 ((SS.mk 0 0 false)).best, .int .i64 ((SS.mk 0 0 false)).total, .bool ((SS.mk 0 0 false)).found, errV 73 none] :: H2) (Le.refl _) ?_
  refine TOps.next ?_
  refine Tri.seq (Tri.region ?_)
  refine TOps.call (vs := [_, _, _, _]) Try.call42 ⟨rfl, rfl, rfl, rfl, trivial⟩ (from_g hk hv hv24 k (i := 0) (set := 0) (total := 0) hF0 hr hm) rfl ?_
  rintro _ _ ⟨rfl, rfl⟩
  refine TOps.next ?_
  refine Tri.seq ?_
  refine Tri.seq (Tri.region ?_)
  first | refine TOps.fieldB 8 rfl Try.underlying106 rfl rfl ti34 rfl rfl rfl ?_ | refine TOps.fieldN 8 rfl Try.underlying106 rfl rfl ti34 rfl rfl rfl ?_
  refine TOps.load1 (v := errV 73 none) rfl ti34 (Rd.fld (Rd.all (H := row (some b9) 106 9 1 [.int .i64 F.vars, slV na no F.nodes.length cap sa, .int .i64 F.top, .int .i64 st, slV (some cb) 0 cost.length cc, .int .i64 (z).best, .int .i64 (z).total, .bool (z).found, errV 73 none] :: H2) (List.Mem.head _)) 8 rfl) rfl ?_
  refine TOps.neqNil (T := 73) (o := none) rfl Try.underlying34 rfl ?_
  refine TOps.next ?_
  refine Tri.cond rfl (fun hc3 => ?_) (fun hc3 => ?_)
  · exact absurd hc3 (by first | decide | simp)
  try simp only [decide_eq_true_eq, decide_eq_false_iff_not, Bool.and_eq_true, Bool.or_eq_true, Bool.not_eq_true', Bool.and_eq_false_iff, Bool.or_eq_false_iff, Bool.not_eq_false', Int.not_lt, Int.not_le, ne_eq, Decidable.not_not, Option.isSome_iff_ne_none, Option.isNone_iff_eq_none] at hc3
  refine Tri.fin ?_
  refine Nrm.next ?_
  refine Tri.seq ?_
  refine Tri.drawC rfl [(9, .pointer (some ⟨b9, 0, none⟩))] [] [_, _, _, _, _, _, _] (row (some b9) 106 9 1 [.int .i64 F.vars, slV na no F.nodes.length cap sa, .int .i64 F.top, .int .i64 st, slV (some cb) 0 cost.length cc, .int .i64 (z).best, .int .i64 (z).total, .bool (z).found, errV 73 none] :: H2) [4, 5, 6] rfl ⟨rfl, trivial⟩ trivial (by repeat (first | exact Le.refl _ | assumption | apply Le.drop)) (by
    refine ⟨?_, ?_, ?_, ?_, ?_, ?_, ?_, trivial⟩
    · refine ⟨fun x S c he hw hd hc hcu hm _ => ?_, trivial⟩
      first | refine TOps.fieldB 5 (he _ _ rfl) Try.underlying106 rfl rfl ti3 rfl rfl rfl ?_ | refine TOps.fieldN 5 (he _ _ rfl) Try.underlying106 rfl rfl ti3 rfl rfl rfl ?_
      exact TOps.fd x rfl rfl
    · refine ⟨fun x S c he hw hd hc hcu hm _ => ?_, trivial⟩
      obtain ⟨h0, -⟩ := hd
      refine TOps.load1 h0 ti3 (Rd.fld (Rd.all (H := row (some b9) 106 9 1 [.int .i64 F.vars, slV na no F.nodes.length cap sa, .int .i64 F.top, .int .i64 st, slV (some cb) 0 cost.length cc, .int .i64 (z).best, .int .i64 (z).total, .bool (z).found, errV 73 none] :: H2) (List.Mem.head _)) 5 rfl) rfl ?_
      exact TOps.fd x rfl rfl
    · refine ⟨fun x S c he hw hd hc hcu hm _ => ?_, trivial⟩
      first | refine TOps.fieldB 6 (he _ _ rfl) Try.underlying106 rfl rfl ti3 rfl rfl rfl ?_ | refine TOps.fieldN 6 (he _ _ rfl) Try.underlying106 rfl rfl ti3 rfl rfl rfl ?_
      exact TOps.fd x rfl rfl
    · refine ⟨fun x S c he hw hd hc hcu hm _ => ?_, trivial⟩
      obtain ⟨h2, -⟩ := hd
      refine TOps.load1 h2 ti3 (Rd.fld (Rd.all (H := row (some b9) 106 9 1 [.int .i64 F.vars, slV na no F.nodes.length cap sa, .int .i64 F.top, .int .i64 st, slV (some cb) 0 cost.length cc, .int .i64 (z).best, .int .i64 (z).total, .bool (z).found, errV 73 none] :: H2) (List.Mem.head _)) 6 rfl) rfl ?_
      exact TOps.fd x rfl rfl
    · refine ⟨fun x S c he hw hd hc hcu hm _ => ?_, trivial⟩
      obtain ⟨h1, h0, _, -⟩ := hd
      refine TOps.assign h1 rfl ?_
      exact TOps.fd x rfl rfl
    · refine ⟨fun x S c he hw hd hc hcu hm _ => ?_, trivial⟩
      obtain ⟨h3, h4, h0, h1, h2, _, _, -⟩ := hd
      refine TOps.assign h3 rfl ?_
      exact TOps.fd x rfl rfl
    · refine ⟨fun x S c he hw hd hc hcu hm _ => ?_, trivial⟩
      obtain ⟨h5, h0, h1, h2, h3, h4, _, -⟩ := hd
      refine TOps.assign rfl rfl ?_
      exact TOps.fd x rfl rfl
    ) ?_
  refine Nrm.next ?_
  refine Tri.ret3 (H' := H) Try.results16 (fun _ _ h => h) (.tmp rfl) (.tmp rfl) (.tmp rfl) (Le.drop l3) ⟨rfl, rfl⟩
end Go.Proofs
namespace Go.Proofs
open Go.GL
set_option linter.unusedVariables false
set_option linter.unusedSimpArgs false
theorem vote_g {H : List Ent} : Gives Try.prog 14 [] H (NewF vote3 H) := by
  refine Gives.enter Try.func14 rfl (by exact Try.ntmps14) rfl ?_
  refine Tri.seq (Tri.region ?_)
  refine TOps.alloc ti24 rfl (fun b0 => ?_)
  refine TOps.next ?_
  refine Tri.seq (Tri.region ?_)
  refine TOps.buildSlice (vs := [_, _, _]) (xs := [_, _, _]) Try.underlying53 ti3 ⟨rfl, rfl, rfl, rfl, rfl, rfl, trivial⟩ rfl rfl rfl rfl rfl rfl (by decide) rfl (fun b1 => ?_)
  refine TOps.buildStruct (vs := [(0, _), (1, _), (2, _)]) (xs := [_, _, _]) [(0, 1), (1, 1), (2, 1)] Try.underlying102 ti102 (fun w => by simp) ⟨rfl, rfl, rfl, rfl, rfl, rfl, trivial⟩ rfl rfl ?_
  refine TOps.buildSlice (vs := [_]) (xs := [_, _, _]) Try.underlying22 ti102 ⟨rfl, rfl, trivial⟩ rfl rfl rfl rfl rfl rfl (by decide) rfl (fun b3 => ?_)
  refine TOps.buildStruct (vs := [(0, _), (2, _), (1, _)]) (xs := [_, _, _]) [(0, 1), (1, 1), (2, 1)] Try.underlying24 ti24 (fun w => by simp) ⟨rfl, rfl, rfl, rfl, rfl, rfl, trivial⟩ rfl rfl ?_
  refine TOps.storeN rfl rfl ti24 rfl rfl (by repeat (first | exact Upd.here | apply Upd.there)) (by first | decide | (simp; done) | (simp; omega)) ?_
  refine TOps.next ?_
  refine Tri.ret1 (H' := _) Try.results14 (fun _ _ h => h) (.cellN rfl rfl ti24 (Rd.all (by repeat (first | exact List.Mem.head _ | apply List.Mem.tail))) rfl) (Le.refl _) ⟨(by repeat (first | exact Le.refl _ | apply Le.drop)), (by repeat (first | exact List.Sublist.refl _ | apply List.Sublist.cons)), ?_⟩
  refine ⟨some b3, 0, 1, none, rfl, RNodes.ofRow (E := 102) (sz := 3) (cap := 1) (qs := [(some b1, 0, 3, none)]) (by repeat (first | exact List.Mem.head _ | apply List.Mem.tail)) rfl ?_⟩
  intro i d q hd hq
  rcases i with _ | i
  · simp [vote3] at hd hq; subst hd hq; exact RInts.ofRow (xs := [0, 1, 2]) (by repeat (first | exact List.Mem.head _ | apply List.Mem.tail))
  · simp [vote3] at hd
theorem awake59_g {H : List Ent} : Gives Try.prog 4 [] H (R1 (.bool true) H) := by
  have hg := vote3_good
  have e1 := voM1_eq; have e2 := voM2_eq; have e3 := voM1_err; have e4 := voM2_err; have e6 := voM2_top
  have e7 := vote3_syn; have e8 := vote3_set; have e9 := vote3_zero
  have h8 : 2 ^ vote3.vars.toNat = 8 := rfl
  have hok : vote3.ok := hg.ok
  have ok1 : MoOk vote3 voM1 := by rw [← e1]; exact (MoOk.nil _).play 0 true
  have hv3 : vote3.vars = (3 : Nat) := rfl
  have hfr := vote3_from
  obtain ⟨F, hFe⟩ : ∃ F, F = vote3 := ⟨_, rfl⟩
  rw [← hFe] at hg e1 e2 e3 e4 e6 e7 e8 e9 h8 ok1 hok hv3 hfr
  refine Gives.enter Try.func4 rfl (by exact Try.ntmps4) rfl ?_
  refine Tri.seq (Tri.region ?_)
  refine TOps.assign rfl rfl ?_
  refine TOps.next ?_
  refine Tri.seq (Tri.region ?_)
  refine TOps.call (vs := []) Try.call14 trivial (vote_g) rfl ?_
  rintro _ H1 ⟨l1, s1, hF1⟩
  rw [← hFe] at hF1
  refine TOps.call (vs := [_]) Try.call13 ⟨rfl, trivial⟩ (newOk_g hF1 hg) rfl ?_
  rintro _ _ ⟨m, nv, H2, rfl, l2, s2, hF2, rfl⟩
  have l3 := l2.trans l1
  have hF3 : ∀ (a b : Ent), RF (a :: b :: H2) (.agg (List.toArray [.int .i64 F.vars, nv, .int .i64 F.top])) F := fun a b => hF2.le (Le.drop (Le.drop (Le.refl _)))
  refine TOps.move rfl rfl ?_
  refine TOps.extract rfl rfl rfl ?_
  refine TOps.extract rfl rfl rfl ?_
  refine TOps.assign rfl rfl ?_
  refine TOps.assign rfl rfl ?_
  refine TOps.next ?_
  refine Tri.seq ?_
  refine Tri.seq (Tri.region ?_)
  refine TOps.move rfl rfl ?_
  refine TOps.neqNil (T := 73) (o := none) rfl Try.underlying34 rfl ?_
  refine TOps.move rfl rfl ?_
  refine' TOps.orB 2 rfl rfl rfl rfl (fun hg2_2 => ?_) ?_; rotate_left
  · have hg2_2' := hg2_2
    try simp only [decide_eq_true_eq, decide_eq_false_iff_not, Bool.and_eq_true, Bool.or_eq_true, Bool.not_eq_true', Bool.and_eq_false_iff, Bool.or_eq_false_iff, Bool.not_eq_false', Int.not_lt, Int.not_le, ne_eq, Decidable.not_not] at hg2_2'
    refine TOps.strip 2 false rfl rfl hg2_2 rfl ?_
    refine TOps.move rfl rfl ?_
    refine TOps.eqlPtrNil rfl Try.underlying46 rfl ?_
    refine TOps.blk rfl (by repeat (first | exact Ext.refl _ | refine Ext.cons rfl ?_)) (by repeat (first | exact Le.refl _ | apply Le.drop))
  refine TOps.next ?_
  refine Tri.cond rfl (fun hc1 => ?_) (fun hc1 => ?_)
  · exact absurd hc1 (by first | decide | simp)
  try simp only [decide_eq_true_eq, decide_eq_false_iff_not, Bool.and_eq_true, Bool.or_eq_true, Bool.not_eq_true', Bool.and_eq_false_iff, Bool.or_eq_false_iff, Bool.not_eq_false', Int.not_lt, Int.not_le, ne_eq, Decidable.not_not, Option.isSome_iff_ne_none, Option.isNone_iff_eq_none] at hc1
  refine Tri.fin ?_
  refine Nrm.next ?_
  refine Tri.seq (Tri.region ?_)
  refine TOps.move rfl rfl ?_
  refine TOps.call (vs := [_, _]) Try.call15 ⟨rfl, rfl, trivial⟩ (mfail_g hF2 hg (MoOk.nil F) (fun h => absurd rfl h) 0) rfl ?_
  rintro _ _ ⟨la, lcap, hla, rfl, rfl⟩
  rw [e1, e3]
  rw [e1] at hla
  refine TOps.move rfl rfl ?_
  refine TOps.extract rfl rfl rfl ?_
  refine TOps.extract rfl rfl rfl ?_
  refine TOps.assign rfl rfl ?_
  refine TOps.assign rfl rfl ?_
  refine TOps.next ?_
  refine Tri.seq (Tri.region ?_)
  refine TOps.move rfl rfl ?_
  refine TOps.call (vs := [_, _]) Try.call15 ⟨rfl, rfl, trivial⟩ (mfail_g hF2 hg ok1 hla 2) rfl ?_
  rintro _ _ ⟨la2, lcap2, hla2, rfl, rfl⟩
  rw [e2, e4, e6]
  refine TOps.move rfl rfl ?_
  refine TOps.extract rfl rfl rfl ?_
  refine TOps.extract rfl rfl rfl ?_
  refine TOps.assign rfl rfl ?_
  refine TOps.assign rfl rfl ?_
  refine TOps.next ?_
  refine Tri.seq (Tri.region ?_)
  refine TOps.call (vs := []) Try.call14 trivial (vote_g) rfl ?_
  rintro _ H4 ⟨l4, s4, hF4⟩
  rw [← hFe] at hF4
  refine TOps.buildSlice (vs := [_, _, _]) (xs := [_, _, _]) Try.underlying53 ti3 ⟨rfl, rfl, rfl, rfl, rfl, rfl, trivial⟩ rfl rfl rfl rfl rfl rfl (by decide) rfl (fun b33 => ?_)
  refine TOps.buildStruct (vs := [(0, _), (1, _)]) (xs := [_, _]) [(0, 1), (1, 1)] Try.underlying55 ti55 (fun w => by simp) ⟨rfl, rfl, rfl, rfl, trivial⟩ rfl rfl ?_
  refine TOps.call (vs := [_, _]) Try.call16 ⟨rfl, rfl, trivial⟩ (cheapest_g (v := 3) (st := 5) (cost := [4, 1, 3]) (k := 8) (hF4.le (Le.drop (Le.refl _))) hok hg e7 hv3 (by decide) (Rd.all (List.Mem.head _)) (by decide) rfl (by decide) (by decide) e8 e9 hfr) rfl ?_
  rintro _ _ ⟨rfl, rfl⟩
  refine TOps.move rfl rfl ?_
  refine TOps.extract rfl rfl rfl ?_
  refine TOps.extract rfl rfl rfl ?_
  refine TOps.extract rfl rfl rfl ?_
  refine TOps.assign rfl rfl ?_
  refine TOps.assign rfl rfl ?_
  refine TOps.assign rfl rfl ?_
  refine TOps.next ?_
  refine Tri.seq (Tri.region ?_)
  refine TOps.move rfl rfl ?_
  refine TOps.eqlNil (T := 73) (o := none) rfl Try.underlying34 rfl ?_
  refine TOps.move rfl rfl ?_
  refine' TOps.andB 2 rfl rfl rfl rfl (fun hg7_2 => ?_) ?_; rotate_left
  · have hg7_2' := hg7_2
    try simp only [decide_eq_true_eq, decide_eq_false_iff_not, Bool.and_eq_true, Bool.or_eq_true, Bool.not_eq_true', Bool.and_eq_false_iff, Bool.or_eq_false_iff, Bool.not_eq_false', Int.not_lt, Int.not_le, ne_eq, Decidable.not_not] at hg7_2'
    refine TOps.strip 2 true rfl rfl hg7_2 rfl ?_
    refine TOps.move rfl rfl ?_
    refine TOps.eqlNil (T := 73) (o := none) rfl Try.underlying34 rfl ?_
    refine TOps.blk rfl (by repeat (first | exact Ext.refl _ | refine Ext.cons rfl ?_)) (by repeat (first | exact Le.refl _ | apply Le.drop))
  refine TOps.move rfl rfl ?_
  refine' TOps.andB 2 rfl rfl rfl rfl (fun hg7_6 => ?_) ?_; rotate_left
  · have hg7_6' := hg7_6
    try simp only [decide_eq_true_eq, decide_eq_false_iff_not, Bool.and_eq_true, Bool.or_eq_true, Bool.not_eq_true', Bool.and_eq_false_iff, Bool.or_eq_false_iff, Bool.not_eq_false', Int.not_lt, Int.not_le, ne_eq, Decidable.not_not] at hg7_6'
    refine TOps.strip 6 true rfl rfl hg7_6 rfl ?_
    refine TOps.move rfl rfl ?_
    refine TOps.eqlNil (T := 73) (o := none) rfl Try.underlying34 rfl ?_
    refine TOps.blk rfl (by repeat (first | exact Ext.refl _ | refine Ext.cons rfl ?_)) (by repeat (first | exact Le.refl _ | apply Le.drop))
  refine TOps.move rfl rfl ?_
  refine' TOps.andB 1 rfl rfl rfl rfl (fun hg7_10 => ?_) ?_; rotate_left
  · have hg7_10' := hg7_10
    try simp only [decide_eq_true_eq, decide_eq_false_iff_not, Bool.and_eq_true, Bool.or_eq_true, Bool.not_eq_true', Bool.and_eq_false_iff, Bool.or_eq_false_iff, Bool.not_eq_false', Int.not_lt, Int.not_le, ne_eq, Decidable.not_not] at hg7_10'
    refine TOps.strip 10 true rfl rfl hg7_10 rfl ?_
    refine TOps.move rfl rfl ?_
    refine TOps.blk rfl (by repeat (first | exact Ext.refl _ | refine Ext.cons rfl ?_)) (by repeat (first | exact Le.refl _ | apply Le.drop))
  refine TOps.move rfl rfl ?_
  refine' TOps.andB 3 rfl rfl rfl rfl (fun hg7_13 => ?_) ?_; rotate_left
  · have hg7_13' := hg7_13
    try simp only [decide_eq_true_eq, decide_eq_false_iff_not, Bool.and_eq_true, Bool.or_eq_true, Bool.not_eq_true', Bool.and_eq_false_iff, Bool.or_eq_false_iff, Bool.not_eq_false', Int.not_lt, Int.not_le, ne_eq, Decidable.not_not] at hg7_13'
    refine TOps.strip 13 true rfl rfl hg7_13 rfl ?_
    refine TOps.move rfl rfl ?_
    refine TOps.call (vs := [_]) Try.call17 ⟨rfl, trivial⟩ (mfailed_g (F := F) (nv := nv) (f := 5) (lv := slV la2 0 voM2.log.length lcap2) ((Rd.all (List.Mem.head _)).le ((Le.drop (Le.refl _)).trans l4)) (hF2.le (((Le.drop (Le.refl _)).trans l4).trans (Le.drop (Le.drop (Le.refl _))))) hg (by rw [h8]; decide)) rfl ?_
    rintro _ _ ⟨rfl, rfl⟩
    refine TOps.eqlIr (r := true) rfl rfl rfl rfl ?_
    refine TOps.blk rfl (by repeat (first | exact Ext.refl _ | refine Ext.cons rfl ?_)) (by repeat (first | exact Le.refl _ | apply Le.drop))
  refine TOps.move rfl rfl ?_
  refine' TOps.andB 2 rfl rfl rfl rfl (fun hg7_18 => ?_) ?_; rotate_left
  · have hg7_18' := hg7_18
    try simp only [decide_eq_true_eq, decide_eq_false_iff_not, Bool.and_eq_true, Bool.or_eq_true, Bool.not_eq_true', Bool.and_eq_false_iff, Bool.or_eq_false_iff, Bool.not_eq_false', Int.not_lt, Int.not_le, ne_eq, Decidable.not_not] at hg7_18'
    refine TOps.strip 18 true rfl rfl hg7_18 rfl ?_
    refine TOps.move rfl rfl ?_
    refine TOps.eqlIr (r := true) rfl rfl rfl rfl ?_
    refine TOps.blk rfl (by repeat (first | exact Ext.refl _ | refine Ext.cons rfl ?_)) (by repeat (first | exact Le.refl _ | apply Le.drop))
  refine TOps.move rfl rfl ?_
  refine' TOps.andB 2 rfl rfl rfl rfl (fun hg7_22 => ?_) ?_; rotate_left
  · have hg7_22' := hg7_22
    try simp only [decide_eq_true_eq, decide_eq_false_iff_not, Bool.and_eq_true, Bool.or_eq_true, Bool.not_eq_true', Bool.and_eq_false_iff, Bool.or_eq_false_iff, Bool.not_eq_false', Int.not_lt, Int.not_le, ne_eq, Decidable.not_not] at hg7_22'
    refine TOps.strip 22 true rfl rfl hg7_22 rfl ?_
    refine TOps.move rfl rfl ?_
    refine TOps.eqlIr (r := true) rfl rfl rfl rfl ?_
    refine TOps.blk rfl (by repeat (first | exact Ext.refl _ | refine Ext.cons rfl ?_)) (by repeat (first | exact Le.refl _ | apply Le.drop))
  refine TOps.assign rfl rfl ?_
  refine TOps.next ?_
  refine Tri.ret1 (H' := H) Try.results4 (fun _ _ h => h) (.tmp rfl) (((Le.drop (Le.refl _)).trans l4).trans (Le.drop (Le.drop l3))) ⟨rfl, rfl⟩
end Go.Proofs
namespace Go.Proofs
open Go.GL
set_option linter.unusedVariables false
set_option linter.unusedSimpArgs false
theorem tcheck10_g {H : List Ent} {fv : Value} {F : Fm} (hF : RF H fv F) (hk : F.ok) :
    Gives Try.prog 60 [fv] H (R1 (errV 73 F.terr) H) := by
  have hF0 := hF
  obtain ⟨a, off, cap, nsp, rfl, hN⟩ := hF
  refine Gives.enter Try.func60 rfl (by exact Try.ntmps60) rfl ?_
  refine Tri.seq (Tri.region ?_)
  refine TOps.boxN rfl ti24 rfl rfl (fun b1 => ?_)
  refine TOps.hide (fun H1 l1 s1 r1 => ?_)
  replace hF0 := hF0.le l1
  refine TOps.assign rfl rfl ?_
  refine TOps.next ?_
  refine Tri.seq ?_
  refine Tri.seq (Tri.region ?_)
  refine TOps.loadN rfl ti24 (by first | exact Rd.all (by repeat (first | exact List.Mem.head _ | apply List.Mem.tail)) | (repeat (first | assumption | apply Rd.up))) rfl rfl ?_
  refine TOps.call (vs := [_]) Try.call30 ⟨rfl, trivial⟩ (check_g hF0 hk) rfl ?_
  rintro _ _ ⟨rfl, rfl⟩
  refine TOps.assign rfl rfl ?_
  refine TOps.next ?_
  refine Tri.seq (Tri.region ?_)
  refine TOps.move rfl rfl ?_
  refine TOps.neqNil rfl Try.underlying34 rfl ?_
  refine TOps.next ?_
  refine Tri.cond rfl (fun hc1 => ?_) (fun hc1 => ?_)
  · try simp only [decide_eq_true_eq, decide_eq_false_iff_not, Bool.and_eq_true, Bool.or_eq_true, Bool.not_eq_true', Bool.and_eq_false_iff, Bool.or_eq_false_iff, Bool.not_eq_false', Int.not_lt, Int.not_le, ne_eq, Decidable.not_not, Option.isSome_iff_ne_none, Option.isNone_iff_eq_none] at hc1
    obtain ⟨e, he⟩ := Option.ne_none_iff_exists'.1 hc1
    refine Tri.seq (Tri.region ?_)
    refine TOps.move rfl rfl ?_
    refine TOps.assign rfl rfl ?_
    refine TOps.next ?_
    refine Tri.ret1 (H' := H) Try.results60 (fun _ _ h => h) (.tmp rfl) l1 ⟨by rw [show F.terr = F.err from by unfold Fm.terr; rw [he]], rfl⟩
  try simp only [decide_eq_true_eq, decide_eq_false_iff_not, Bool.and_eq_true, Bool.or_eq_true, Bool.not_eq_true', Bool.and_eq_false_iff, Bool.or_eq_false_iff, Bool.not_eq_false', Int.not_lt, Int.not_le, ne_eq, Decidable.not_not, Option.isSome_iff_ne_none, Option.isNone_iff_eq_none] at hc1
  have he : F.err = none := by simpa using hc1
  refine Tri.fin ?_
  refine Nrm.next ?_
  refine Tri.seq ?_
  refine Tri.seq (Tri.region ?_)
  refine TOps.field0 rfl Try.underlying24 rfl rfl ti3 rfl rfl rfl ?_
  refine TOps.load1 rfl ti3 (by first | exact Rd.lit (by repeat (first | exact List.Mem.head _ | apply List.Mem.tail)) rfl | (repeat (first | assumption | exact Rd.fld (by assumption) 0 rfl | apply Rd.up))) rfl ?_
  refine TOps.gtr rfl rfl rfl ?_
  refine TOps.next ?_
  refine Tri.cond rfl (fun hc2 => ?_) (fun hc2 => ?_)
  · try simp only [decide_eq_true_eq, decide_eq_false_iff_not, Bool.and_eq_true, Bool.or_eq_true, Bool.not_eq_true', Bool.and_eq_false_iff, Bool.or_eq_false_iff, Bool.not_eq_false', Int.not_lt, Int.not_le, ne_eq, Decidable.not_not, Option.isSome_iff_ne_none, Option.isNone_iff_eq_none] at hc2
    refine Tri.seq (Tri.region ?_)
    refine TOps.makeInterface rfl Try.underlying73 rfl rfl ?_
    refine TOps.assign rfl rfl ?_
    refine TOps.next ?_
    refine Tri.ret1 (H' := H) Try.results60 (fun _ _ h => h) (.tmp rfl) l1 ⟨by rw [show F.terr = some 4 from by unfold Fm.terr; rw [he]; exact if_pos hc2]; rfl, rfl⟩
  try simp only [decide_eq_true_eq, decide_eq_false_iff_not, Bool.and_eq_true, Bool.or_eq_true, Bool.not_eq_true', Bool.and_eq_false_iff, Bool.or_eq_false_iff, Bool.not_eq_false', Int.not_lt, Int.not_le, ne_eq, Decidable.not_not, Option.isSome_iff_ne_none, Option.isNone_iff_eq_none] at hc2
  refine Tri.fin ?_
  refine Nrm.next ?_
  refine Tri.seq (Tri.region ?_)
  refine TOps.assign rfl rfl ?_
  refine TOps.next ?_
  refine Tri.ret1 (H' := H) Try.results60 (fun _ _ h => h) (.tmp rfl) l1 ⟨by rw [show F.terr = none from by unfold Fm.terr; rw [he]; exact if_neg (by omega)]; rfl, rfl⟩
theorem table_g {H : List Ent} {fv : Value} {F : Fm} (hF : RF H fv F) (hk : F.ok) :
    Gives Try.prog 31 [fv] H (fun u H' => ∃ xs a cap, xs = (bif F.terr.isNone then F.table else []) ∧ u = .tuple (List.toArray [slV a 0 xs.length cap, errV 73 F.terr]) ∧ (bools xs ≠ [] → ∃ b, a = some b) ∧ row a 4 1 cap (bools xs) :: H = H') := by
  have hF0 := hF
  obtain ⟨na, off, ncap, nsp, rfl, hN⟩ := hF
  refine Gives.enter Try.func31 rfl (by exact Try.ntmps31) rfl ?_
  refine Tri.seq (Tri.region ?_)
  refine TOps.boxN rfl ti24 rfl rfl (fun b1 => ?_)
  refine TOps.hide (fun H1 l1 s1 r1 => ?_)
  replace hF0 := hF0.le l1
  refine TOps.assign rfl rfl ?_
  refine TOps.assign rfl rfl ?_
  refine TOps.next ?_
  refine Tri.seq ?_
  refine Tri.seq (Tri.region ?_)
  refine TOps.loadN rfl ti24 (by first | exact Rd.all (by repeat (first | exact List.Mem.head _ | apply List.Mem.tail)) | (repeat (first | assumption | apply Rd.up))) rfl rfl ?_
  refine TOps.call (vs := [_]) Try.call60 ⟨rfl, trivial⟩ (tcheck10_g hF0 hk) rfl ?_
  rintro _ _ ⟨rfl, rfl⟩
  refine TOps.assign rfl rfl ?_
  refine TOps.next ?_
  refine Tri.seq (Tri.region ?_)
  refine TOps.move rfl rfl ?_
  refine TOps.neqNil rfl Try.underlying34 rfl ?_
  refine TOps.next ?_
  refine Tri.cond rfl (fun hc1 => ?_) (fun hc1 => ?_)
  · try simp only [decide_eq_true_eq, decide_eq_false_iff_not, Bool.and_eq_true, Bool.or_eq_true, Bool.not_eq_true', Bool.and_eq_false_iff, Bool.or_eq_false_iff, Bool.not_eq_false', Int.not_lt, Int.not_le, ne_eq, Decidable.not_not, Option.isSome_iff_ne_none, Option.isNone_iff_eq_none] at hc1
    obtain ⟨e, he⟩ := Option.ne_none_iff_exists'.1 hc1
    refine Tri.seq (Tri.region ?_)
    refine TOps.move rfl rfl ?_
    refine TOps.assign rfl rfl ?_
    refine TOps.assign rfl rfl ?_
    refine TOps.next ?_
    refine Tri.ret2 (H' := _) Try.results31 (fun _ _ h => h) (.tmp rfl) (.tmp rfl) (Le.trans Le.addNil (Le.consOf s1)) ⟨[], none, 0, by rw [he]; rfl, by rw [he]; rfl, by simp, rfl⟩
  try simp only [decide_eq_true_eq, decide_eq_false_iff_not, Bool.and_eq_true, Bool.or_eq_true, Bool.not_eq_true', Bool.and_eq_false_iff, Bool.or_eq_false_iff, Bool.not_eq_false', Int.not_lt, Int.not_le, ne_eq, Decidable.not_not, Option.isSome_iff_ne_none, Option.isNone_iff_eq_none] at hc1
  have he : F.terr = none := by simpa using hc1
  obtain ⟨hg, h12⟩ := Fm.terr_none he
  have g0 := hg.v0
  obtain ⟨v, hv⟩ := Int.eq_ofNat_of_zero_le g0
  have hvn : F.vars.toNat = v := by omega
  have h4096 := pow12 (v := v) (by omega)
  have htl := F.table_length
  rw [hvn] at htl
  have hpv : ∀ s, s < 2 ^ v → F.setErr (s : Nat) = none := fun s hs => Fm.setErr_of hg (by rw [hvn]; exact hs)
  have hall : (List.range (2 ^ v)).map (fun (s : Nat) => F.value s) = F.table := by unfold Fm.table; rw [hvn]
  have hsh : ishl 1 v = ((2 ^ v : Nat) : Int) := ishl_one (by omega)
  rw [hv] at r1 hF0 ⊢
  generalize 2 ^ v = N at *
  refine Tri.fin ?_
  refine Nrm.next ?_
  refine Tri.seq (Tri.region ?_)
  refine TOps.field0 rfl Try.underlying24 rfl rfl ti3 rfl rfl rfl ?_
  refine TOps.load1 rfl ti3 (by first | exact Rd.lit (by repeat (first | exact List.Mem.head _ | apply List.Mem.tail)) rfl | (repeat (first | assumption | exact Rd.fld (by assumption) 0 rfl | apply Rd.up))) rfl ?_
  refine TOps.shl (r := (N : Int)) rfl rfl (by omega) hsh rfl ?_
  refine TOps.make1 rfl rfl Try.underlying77 ti4 (by omega) (by omega) (by omega) rfl (fun b17 => ?_)
  refine TOps.assign rfl rfl ?_
  refine TOps.next ?_
  refine Tri.seq ?_
  refine Tri.seq (Tri.region ?_)
  refine TOps.move rfl rfl ?_
  refine TOps.len rfl Try.underlying77 rfl ?_
  refine TOps.move rfl rfl ?_
  refine TOps.next ?_
  refine Tri.range (X := Unit) (fun x k => [(1, .pointer (some ⟨b1, 0, none⟩)), (5, slV (some b17) 0 N N)]) (fun x k => row (some b17) 4 1 N (bools ((List.range k).map (fun (s : Nat) => F.value s) ++ List.replicate (N - k) false)) :: H1) (fun x k => True) (by omega) rfl rfl rfl (fun _ _ => ⟨rfl, rfl, rfl, rfl⟩) () trivial ⟨rfl, rfl, trivial⟩ (Le.rowEq (by simp)) (fun k x hlt hp => ?_) (fun x ac wc hp hS hM => ?_)
  · skip
    have hse := hpv k hlt
    refine Tri.seq (Tri.region ?_)
    refine TOps.move rfl rfl ?_
    refine TOps.assign rfl rfl ?_
    refine TOps.next ?_
    refine Tri.seq (Tri.region ?_)
    refine TOps.loadN rfl ti24 (by first | exact Rd.all (by repeat (first | exact List.Mem.head _ | apply List.Mem.tail)) | (repeat (first | assumption | apply Rd.up))) rfl rfl ?_
    refine TOps.move rfl rfl ?_
    refine TOps.call (vs := [_, _]) Try.call9 ⟨rfl, rfl, trivial⟩ (value_g (hF0.le (Le.drop (Le.refl _))) hk (k : Int)) rfl ?_
    rintro _ _ ⟨rfl, rfl⟩
    rw [hse, show ((none : Option Int).isNone && F.value (k : Nat)) = F.value (k : Nat) from rfl]
    refine TOps.move rfl rfl ?_
    refine TOps.extract rfl rfl rfl ?_
    refine TOps.extract rfl rfl rfl ?_
    refine TOps.assign rfl rfl ?_
    refine TOps.assign rfl rfl ?_
    refine TOps.next ?_
    refine Tri.seq ?_
    refine Tri.seq (Tri.region ?_)
    refine TOps.move rfl rfl ?_
    refine TOps.neqNil (T := 73) (o := none) rfl Try.underlying34 rfl ?_
    refine TOps.next ?_
    refine Tri.cond rfl (fun hc2 => ?_) (fun hc2 => ?_)
    · try simp only [decide_eq_true_eq, decide_eq_false_iff_not, Bool.and_eq_true, Bool.or_eq_true, Bool.not_eq_true', Bool.and_eq_false_iff, Bool.or_eq_false_iff, Bool.not_eq_false', Int.not_lt, Int.not_le, ne_eq, Decidable.not_not, Option.isSome_iff_ne_none, Option.isNone_iff_eq_none] at hc2
      have hfalse : False := by simp at hc2
      refine Tri.seq (Tri.region ?_)
      refine TOps.move rfl rfl ?_
      refine TOps.assign rfl rfl ?_
      refine TOps.assign rfl rfl ?_
      refine TOps.next ?_
      exact hfalse.elim
    try simp only [decide_eq_true_eq, decide_eq_false_iff_not, Bool.and_eq_true, Bool.or_eq_true, Bool.not_eq_true', Bool.and_eq_false_iff, Bool.or_eq_false_iff, Bool.not_eq_false', Int.not_lt, Int.not_le, ne_eq, Decidable.not_not, Option.isSome_iff_ne_none, Option.isNone_iff_eq_none] at hc2
    refine Tri.fin ?_
    refine Nrm.next ?_
    refine Tri.region ?_
    refine TOps.move rfl rfl ?_
    refine TOps.move rfl rfl ?_
    refine TOps.move rfl rfl ?_
    refine TOps.indexAddr (off' := k) rfl rfl Try.underlying77 ti4 (by omega) (by omega) (by simp) rfl ?_
    refine TOps.store1 rfl rfl ti4 rfl rfl (by repeat (first | exact Upd.here | apply Upd.there)) (by first | decide | (simp; done) | (simp; omega)) ?_
    refine TOps.fin ?_
    refine Nrm.body () trivial ⟨rfl, rfl, rfl, rfl, trivial⟩ (Le.rowEq (by rw [← fill_set (fun (s : Nat) => F.value s) false hlt]; simp [bools]))
  rw [Nat.sub_self, List.replicate_zero, List.append_nil, hall] at hM
  refine Nrm.of hS hM ?_
  refine Nrm.next ?_
  refine Tri.seq (Tri.region ?_)
  refine TOps.move rfl rfl ?_
  refine TOps.assign rfl rfl ?_
  refine TOps.assign rfl rfl ?_
  refine TOps.next ?_
  refine Tri.ret2 (H' := _) Try.results31 (fun _ _ h => h) (.tmp rfl) (.tmp rfl) (Le.consOf s1) ⟨F.table, some b17, N, by rw [he]; rfl, by rw [he, htl]; rfl, fun _ => ⟨_, rfl⟩, rfl⟩
theorem equal_g {H : List Ent} {fv gv : Value} {F G : Fm} (hF : RF H fv F) (hk : F.ok) (hG : RF H gv G) (hkG : G.ok) :
    Gives Try.prog 8 [fv, gv] H (fun u H' => ∃ z, (F.eqErr G = none → DifAt F G z) ∧ u = .tuple (List.toArray [.bool ((F.eqErr G).isNone && decide (z < 0)), .int .i64 (bif (F.eqErr G).isNone then z else 0), errV 73 (F.eqErr G)]) ∧ H = H') := by
  have hF0 := hF; have hG0 := hG
  obtain ⟨na, off, cap, nsp, rfl, hN⟩ := hF
  obtain ⟨ga, goff, gcap, gsp, rfl, hNG⟩ := hG
  refine Gives.enter Try.func8 rfl (by exact Try.ntmps8) rfl ?_
  refine Tri.seq (Tri.region ?_)
  refine TOps.boxN rfl ti24 rfl rfl (fun b2 => ?_)
  refine TOps.hide (fun H1 l1 s1 r1 => ?_)
  replace hF0 := hF0.le l1; replace hG0 := hG0.le l1
  refine TOps.boxN rfl ti24 rfl rfl (fun b3 => ?_)
  refine TOps.hide (fun H2 l2 s2 r2 => ?_)
  replace hF0 := hF0.le l2; replace hG0 := hG0.le l2; replace r1 := r1.le l2; have l3 := l2.trans l1
  refine TOps.assign rfl rfl ?_
  refine TOps.assign rfl rfl ?_
  refine TOps.assign rfl rfl ?_
  refine TOps.next ?_
  refine Tri.seq ?_
  refine Tri.seq (Tri.region ?_)
  refine TOps.loadN rfl ti24 (by first | exact Rd.all (by repeat (first | exact List.Mem.head _ | apply List.Mem.tail)) | (repeat (first | assumption | apply Rd.up))) rfl rfl ?_
  refine TOps.call (vs := [_]) Try.call30 ⟨rfl, trivial⟩ (check_g hF0 hk) rfl ?_
  rintro _ _ ⟨rfl, rfl⟩
  refine TOps.assign rfl rfl ?_
  refine TOps.next ?_
  refine Tri.seq (Tri.region ?_)
  refine TOps.move rfl rfl ?_
  refine TOps.neqNil rfl Try.underlying34 rfl ?_
  refine TOps.next ?_
  refine Tri.cond rfl (fun hc1 => ?_) (fun hc1 => ?_)
  · try simp only [decide_eq_true_eq, decide_eq_false_iff_not, Bool.and_eq_true, Bool.or_eq_true, Bool.not_eq_true', Bool.and_eq_false_iff, Bool.or_eq_false_iff, Bool.not_eq_false', Int.not_lt, Int.not_le, ne_eq, Decidable.not_not, Option.isSome_iff_ne_none, Option.isNone_iff_eq_none] at hc1
    obtain ⟨e, he⟩ := Option.ne_none_iff_exists'.1 hc1
    refine Tri.seq (Tri.region ?_)
    refine TOps.move rfl rfl ?_
    refine TOps.assign rfl rfl ?_
    refine TOps.assign rfl rfl ?_
    refine TOps.assign rfl rfl ?_
    refine TOps.next ?_
    refine Tri.ret3 (H' := H) Try.results8 (fun _ _ h => h) (.tmp rfl) (.tmp rfl) (.tmp rfl) l3 ⟨0, fun h => (by rw [Fm.eqErr_1 he] at h; cases h), by rw [Fm.eqErr_1 he, he]; rfl, rfl⟩
  try simp only [decide_eq_true_eq, decide_eq_false_iff_not, Bool.and_eq_true, Bool.or_eq_true, Bool.not_eq_true', Bool.and_eq_false_iff, Bool.or_eq_false_iff, Bool.not_eq_false', Int.not_lt, Int.not_le, ne_eq, Decidable.not_not, Option.isSome_iff_ne_none, Option.isNone_iff_eq_none] at hc1
  have he : F.err = none := by simpa using hc1
  refine Tri.fin ?_
  refine Nrm.next ?_
  refine Tri.seq ?_
  refine Tri.seq (Tri.region ?_)
  refine TOps.loadN rfl ti24 (by first | exact Rd.all (by repeat (first | exact List.Mem.head _ | apply List.Mem.tail)) | (repeat (first | assumption | apply Rd.up))) rfl rfl ?_
  refine TOps.call (vs := [_]) Try.call30 ⟨rfl, trivial⟩ (check_g hG0 hkG) rfl ?_
  rintro _ _ ⟨rfl, rfl⟩
  refine TOps.assign rfl rfl ?_
  refine TOps.next ?_
  refine Tri.seq (Tri.region ?_)
  refine TOps.move rfl rfl ?_
  refine TOps.neqNil rfl Try.underlying34 rfl ?_
  refine TOps.next ?_
  refine Tri.cond rfl (fun hc2 => ?_) (fun hc2 => ?_)
  · try simp only [decide_eq_true_eq, decide_eq_false_iff_not, Bool.and_eq_true, Bool.or_eq_true, Bool.not_eq_true', Bool.and_eq_false_iff, Bool.or_eq_false_iff, Bool.not_eq_false', Int.not_lt, Int.not_le, ne_eq, Decidable.not_not, Option.isSome_iff_ne_none, Option.isNone_iff_eq_none] at hc2
    obtain ⟨e, hge⟩ := Option.ne_none_iff_exists'.1 hc2
    refine Tri.seq (Tri.region ?_)
    refine TOps.move rfl rfl ?_
    refine TOps.assign rfl rfl ?_
    refine TOps.assign rfl rfl ?_
    refine TOps.assign rfl rfl ?_
    refine TOps.next ?_
    refine Tri.ret3 (H' := H) Try.results8 (fun _ _ h => h) (.tmp rfl) (.tmp rfl) (.tmp rfl) l3 ⟨0, fun h => (by rw [Fm.eqErr_2 he hge] at h; cases h), by rw [Fm.eqErr_2 he hge, hge]; rfl, rfl⟩
  try simp only [decide_eq_true_eq, decide_eq_false_iff_not, Bool.and_eq_true, Bool.or_eq_true, Bool.not_eq_true', Bool.and_eq_false_iff, Bool.or_eq_false_iff, Bool.not_eq_false', Int.not_lt, Int.not_le, ne_eq, Decidable.not_not, Option.isSome_iff_ne_none, Option.isNone_iff_eq_none] at hc2
  have hge : G.err = none := by simpa using hc2
  refine Tri.fin ?_
  refine Nrm.next ?_
  refine Tri.seq ?_
  refine Tri.seq (Tri.region ?_)
  refine TOps.field0 rfl Try.underlying24 rfl rfl ti3 rfl rfl rfl ?_
  refine TOps.load1 rfl ti3 (by first | exact Rd.lit (by repeat (first | exact List.Mem.head _ | apply List.Mem.tail)) rfl | (repeat (first | assumption | exact Rd.fld (by assumption) 0 rfl | apply Rd.up))) rfl ?_
  refine TOps.field0 rfl Try.underlying24 rfl rfl ti3 rfl rfl rfl ?_
  refine TOps.load1 rfl ti3 (by first | exact Rd.lit (by repeat (first | exact List.Mem.head _ | apply List.Mem.tail)) rfl | (repeat (first | assumption | exact Rd.fld (by assumption) 0 rfl | apply Rd.up))) rfl ?_
  refine TOps.neqI rfl rfl rfl ?_
  refine TOps.next ?_
  refine Tri.cond rfl (fun hc3 => ?_) (fun hc3 => ?_)
  · try simp only [decide_eq_true_eq, decide_eq_false_iff_not, Bool.and_eq_true, Bool.or_eq_true, Bool.not_eq_true', Bool.and_eq_false_iff, Bool.or_eq_false_iff, Bool.not_eq_false', Int.not_lt, Int.not_le, ne_eq, Decidable.not_not, Option.isSome_iff_ne_none, Option.isNone_iff_eq_none] at hc3
    refine Tri.seq (Tri.region ?_)
    refine TOps.makeInterface rfl Try.underlying73 rfl rfl ?_
    refine TOps.assign rfl rfl ?_
    refine TOps.assign rfl rfl ?_
    refine TOps.assign rfl rfl ?_
    refine TOps.next ?_
    refine Tri.ret3 (H' := H) Try.results8 (fun _ _ h => h) (.tmp rfl) (.tmp rfl) (.tmp rfl) l3 ⟨0, fun h => (by rw [Fm.eqErr_3 he hge hc3] at h; cases h), by rw [Fm.eqErr_3 he hge hc3]; rfl, rfl⟩
  try simp only [decide_eq_true_eq, decide_eq_false_iff_not, Bool.and_eq_true, Bool.or_eq_true, Bool.not_eq_true', Bool.and_eq_false_iff, Bool.or_eq_false_iff, Bool.not_eq_false', Int.not_lt, Int.not_le, ne_eq, Decidable.not_not, Option.isSome_iff_ne_none, Option.isNone_iff_eq_none] at hc3
  have h3 : F.vars = G.vars := hc3
  have heq := Fm.eqErr_4 he hge h3
  refine Tri.fin ?_
  refine Nrm.next ?_
  refine Tri.seq (Tri.region ?_)
  refine TOps.loadN rfl ti24 (by first | exact Rd.all (by repeat (first | exact List.Mem.head _ | apply List.Mem.tail)) | (repeat (first | assumption | apply Rd.up))) rfl rfl ?_
  refine TOps.call (vs := [_]) Try.call31 ⟨rfl, trivial⟩ (table_g hF0 hk) rfl ?_
  rintro _ _ ⟨xs, la, lcap, hxs, rfl, hla, rfl⟩
  have hlr : RdS (row la 4 1 lcap (bools xs) :: H2) la 0 (bools xs) := RdS.ofRowA (List.Mem.head _) hla
  replace hG0 := hG0.le (Le.drop (e := row la 4 1 lcap (bools xs)) (Le.refl _)); replace r1 := r1.up (e := row la 4 1 lcap (bools xs)); replace r2 := r2.up (e := row la 4 1 lcap (bools xs))
  have l4 : Le (row la 4 1 lcap (bools xs) :: H2) H := Le.drop l3
  generalize row la 4 1 lcap (bools xs) :: H2 = H3 at *
  refine TOps.move rfl rfl ?_
  refine TOps.extract rfl rfl rfl ?_
  refine TOps.extract rfl rfl rfl ?_
  refine TOps.assign rfl rfl ?_
  refine TOps.assign rfl rfl ?_
  refine TOps.next ?_
  refine Tri.seq ?_
  refine Tri.seq (Tri.region ?_)
  refine TOps.move rfl rfl ?_
  refine TOps.neqNil rfl Try.underlying34 rfl ?_
  refine TOps.next ?_
  refine Tri.cond rfl (fun hc4 => ?_) (fun hc4 => ?_)
  · try simp only [decide_eq_true_eq, decide_eq_false_iff_not, Bool.and_eq_true, Bool.or_eq_true, Bool.not_eq_true', Bool.and_eq_false_iff, Bool.or_eq_false_iff, Bool.not_eq_false', Int.not_lt, Int.not_le, ne_eq, Decidable.not_not, Option.isSome_iff_ne_none, Option.isNone_iff_eq_none] at hc4
    obtain ⟨e, het⟩ := Option.ne_none_iff_exists'.1 hc4
    refine Tri.seq (Tri.region ?_)
    refine TOps.move rfl rfl ?_
    refine TOps.assign rfl rfl ?_
    refine TOps.assign rfl rfl ?_
    refine TOps.assign rfl rfl ?_
    refine TOps.next ?_
    refine Tri.ret3 (H' := H) Try.results8 (fun _ _ h => h) (.tmp rfl) (.tmp rfl) (.tmp rfl) l4 ⟨0, fun h => (by rw [heq, het] at h; cases h), by rw [heq, het]; rfl, rfl⟩
  try simp only [decide_eq_true_eq, decide_eq_false_iff_not, Bool.and_eq_true, Bool.or_eq_true, Bool.not_eq_true', Bool.and_eq_false_iff, Bool.or_eq_false_iff, Bool.not_eq_false', Int.not_lt, Int.not_le, ne_eq, Decidable.not_not, Option.isSome_iff_ne_none, Option.isNone_iff_eq_none] at hc4
  have het : F.terr = none := by simpa using hc4
  have hgt : G.terr = none := by rw [← Fm.terr_same he hge h3]; exact het
  rw [het] at heq
  obtain rfl : xs = F.table := by rw [hxs, het]; rfl
  refine Tri.fin ?_
  refine Nrm.next ?_
  refine Tri.seq (Tri.region ?_)
  refine TOps.loadN rfl ti24 (by first | exact Rd.all (by repeat (first | exact List.Mem.head _ | apply List.Mem.tail)) | (repeat (first | assumption | apply Rd.up))) rfl rfl ?_
  refine TOps.call (vs := [_]) Try.call31 ⟨rfl, trivial⟩ (table_g hG0 hkG) rfl ?_
  rintro _ _ ⟨ys, ma, mcap, hys, rfl, hma, rfl⟩
  obtain rfl : ys = G.table := by rw [hys, hgt]; rfl
  rw [hgt]
  have hmr : RdS (row ma 4 1 mcap (bools G.table) :: H3) ma 0 (bools G.table) := RdS.ofRowA (List.Mem.head _) hma
  replace hlr := RdS.up (e := row ma 4 1 mcap (bools G.table)) hlr
  have l5 : Le (row ma 4 1 mcap (bools G.table) :: H3) H := Le.drop l4
  generalize row ma 4 1 mcap (bools G.table) :: H3 = H4 at *
  have htl := F.table_length
  have hgl := G.table_length
  rw [← h3] at hgl
  have h12 := (Fm.terr_none het).2
  have h4096 := pow12 (v := F.vars.toNat) (by omega)
  refine TOps.move rfl rfl ?_
  refine TOps.extract rfl rfl rfl ?_
  refine TOps.extract rfl rfl rfl ?_
  refine TOps.assign rfl rfl ?_
  refine TOps.assign rfl rfl ?_
  refine TOps.next ?_
  refine Tri.seq ?_
  refine Tri.seq (Tri.region ?_)
  refine TOps.move rfl rfl ?_
  refine TOps.neqNil (T := 73) (o := none) rfl Try.underlying34 rfl ?_
  refine TOps.next ?_
  refine Tri.cond rfl (fun hc5 => ?_) (fun hc5 => ?_)
  · try simp only [decide_eq_true_eq, decide_eq_false_iff_not, Bool.and_eq_true, Bool.or_eq_true, Bool.not_eq_true', Bool.and_eq_false_iff, Bool.or_eq_false_iff, Bool.not_eq_false', Int.not_lt, Int.not_le, ne_eq, Decidable.not_not, Option.isSome_iff_ne_none, Option.isNone_iff_eq_none] at hc5
    have hfalse : False := by simp at hc5
    refine Tri.seq (Tri.region ?_)
    refine TOps.move rfl rfl ?_
    refine TOps.assign rfl rfl ?_
    refine TOps.assign rfl rfl ?_
    refine TOps.assign rfl rfl ?_
    refine TOps.next ?_
    exact hfalse.elim
  try simp only [decide_eq_true_eq, decide_eq_false_iff_not, Bool.and_eq_true, Bool.or_eq_true, Bool.not_eq_true', Bool.and_eq_false_iff, Bool.or_eq_false_iff, Bool.not_eq_false', Int.not_lt, Int.not_le, ne_eq, Decidable.not_not, Option.isSome_iff_ne_none, Option.isNone_iff_eq_none] at hc5
  refine Tri.fin ?_
  refine Nrm.next ?_
  refine Tri.seq ?_
  refine Tri.seq (Tri.region ?_)
  refine TOps.move rfl rfl ?_
  refine TOps.len rfl Try.underlying77 rfl ?_
  refine TOps.move rfl rfl ?_
  refine TOps.next ?_
  refine Tri.range (X := Unit) (fun x k => [(9, slV la 0 F.table.length lcap), (11, slV ma 0 G.table.length mcap), (45, slV la 0 F.table.length lcap)]) (fun x k => H4) (fun x k => ∀ i, i < k → F.value (i : Nat) = G.value (i : Nat)) (by omega) rfl rfl rfl (fun _ _ => ⟨rfl, rfl, rfl, rfl⟩) () (fun i h => absurd h (Nat.not_lt_zero _)) ⟨rfl, rfl, rfl, trivial⟩ (by repeat (first | exact Le.refl _ | assumption | apply Le.drop)) (fun k x hlt hp => ?_) (fun x ac wc hp hS hM => ?_)
  · skip
    obtain ⟨lb, rfl, -, hl⟩ := RdS.at hlr (i := k) (by simpa using hlt)
    obtain ⟨mb, rfl, -, hgm⟩ := RdS.at hmr (i := k) (by simp; omega)
    rw [List.getElem_map, F.table_get hlt, Nat.zero_add] at hl
    rw [List.getElem_map, G.table_get (by omega), Nat.zero_add] at hgm
    refine Tri.seq (Tri.region ?_)
    refine TOps.move rfl rfl ?_
    refine TOps.assign rfl rfl ?_
    refine TOps.next ?_
    refine Tri.seq ?_
    refine Tri.drawC rfl [(9, slV (some lb) 0 F.table.length lcap), (11, slV (some mb) 0 G.table.length mcap), (12, .int .i64 k), (45, slV (some lb) 0 F.table.length lcap), (46, .int .i64 F.table.length), (47, .int .i64 k)] [] [_, _, _, _, _, _, _, _, _] (H4) [8] rfl ⟨rfl, rfl, rfl, rfl, rfl, rfl, trivial⟩ trivial (by repeat (first | exact Le.refl _ | assumption | apply Le.drop)) (by
      refine ⟨?_, ?_, ?_, ?_, ?_, ?_, ?_, ?_, ?_, trivial⟩
      · refine ⟨fun x S c he hw hd hc hcu hm _ => ?_, trivial⟩
        refine TOps.move (he _ _ rfl) rfl ?_
        exact TOps.fd x rfl rfl
      · refine ⟨fun x S c he hw hd hc hcu hm _ => ?_, trivial⟩
        refine TOps.move (he _ _ rfl) rfl ?_
        exact TOps.fd x rfl rfl
      · refine ⟨fun x S c he hw hd hc hcu hm _ => ?_, trivial⟩
        obtain ⟨h0, h1, -⟩ := hd
        refine TOps.indexAddr (off' := k) h0 h1 Try.underlying77 ti4 (by omega) (by omega) (by simp) rfl ?_
        exact TOps.fd x rfl rfl
      · refine ⟨fun x S c he hw hd hc hcu hm _ => ?_, trivial⟩
        obtain ⟨h2, -⟩ := hd
        refine TOps.load1 h2 ti4 hl rfl ?_
        exact TOps.fd x rfl rfl
      · refine ⟨fun x S c he hw hd hc hcu hm _ => ?_, trivial⟩
        refine TOps.move (he _ _ rfl) rfl ?_
        exact TOps.fd x rfl rfl
      · refine ⟨fun x S c he hw hd hc hcu hm _ => ?_, trivial⟩
        refine TOps.move (he _ _ rfl) rfl ?_
        exact TOps.fd x rfl rfl
      · refine ⟨fun x S c he hw hd hc hcu hm _ => ?_, trivial⟩
        obtain ⟨h4, h5, -⟩ := hd
        refine TOps.indexAddr (off' := k) h4 h5 Try.underlying77 ti4 (by omega) (by omega) (by simp) rfl ?_
        exact TOps.fd x rfl rfl
      · refine ⟨fun x S c he hw hd hc hcu hm _ => ?_, trivial⟩
        obtain ⟨h6, -⟩ := hd
        refine TOps.load1 h6 ti4 hgm rfl ?_
        exact TOps.fd x rfl rfl
      · refine ⟨fun x S c he hw hd hc hcu hm _ => ?_, trivial⟩
        obtain ⟨h3, h7, -⟩ := hd
        refine TOps.neqB h3 h7 Try.underlying4 rfl ?_
        exact TOps.fd x rfl rfl
      ) ?_
    refine Nrm.next ?_
    refine Tri.cond rfl (fun hc6 => ?_) (fun hc6 => ?_)
    · try simp only [decide_eq_true_eq, decide_eq_false_iff_not, Bool.and_eq_true, Bool.or_eq_true, Bool.not_eq_true', Bool.and_eq_false_iff, Bool.or_eq_false_iff, Bool.not_eq_false', Int.not_lt, Int.not_le, ne_eq, Decidable.not_not, Option.isSome_iff_ne_none, Option.isNone_iff_eq_none] at hc6
      refine Tri.seq (Tri.region ?_)
      refine TOps.move rfl rfl ?_
      refine TOps.assign rfl rfl ?_
      refine TOps.assign rfl rfl ?_
      refine TOps.assign rfl rfl ?_
      refine TOps.next ?_
      refine Tri.ret3 (H' := H) Try.results8 (fun _ _ h => h) (.tmp rfl) (.tmp rfl) (.tmp rfl) l5 ⟨k, fun _ => .inr ⟨k, rfl, by omega, by simpa using hc6, hp⟩, by rw [heq, show decide ((k : Int) < 0) = false from decide_eq_false (by omega)]; rfl, rfl⟩
    try simp only [decide_eq_true_eq, decide_eq_false_iff_not, Bool.and_eq_true, Bool.or_eq_true, Bool.not_eq_true', Bool.and_eq_false_iff, Bool.or_eq_false_iff, Bool.not_eq_false', Int.not_lt, Int.not_le, ne_eq, Decidable.not_not, Option.isSome_iff_ne_none, Option.isNone_iff_eq_none] at hc6
    refine Tri.fin ?_
    refine Nrm.body () (by intro i hi; rcases Nat.lt_succ_iff_lt_or_eq.1 hi with h | rfl; exact hp i h; simpa using hc6) ⟨rfl, rfl, rfl, rfl, rfl, trivial⟩ (by repeat (first | exact Le.refl _ | assumption | apply Le.drop))
  refine Nrm.of hS hM ?_
  refine Nrm.next ?_
  refine Tri.seq (Tri.region ?_)
  refine TOps.assign rfl rfl ?_
  refine TOps.assign rfl rfl ?_
  refine TOps.assign rfl rfl ?_
  refine TOps.next ?_
  refine Tri.ret3 (H' := H) Try.results8 (fun _ _ h => h) (.tmp rfl) (.tmp rfl) (.tmp rfl) l5 ⟨-1, fun _ => .inl ⟨rfl, fun s hs => hp s (by omega)⟩, by rw [heq]; rfl, rfl⟩
end Go.Proofs
