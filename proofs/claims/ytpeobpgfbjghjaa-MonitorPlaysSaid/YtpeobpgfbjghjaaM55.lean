import Derived.Test.YtpeobpgfbjghjaaE55
namespace Go.Proofs
open Go.GL
set_option linter.unusedVariables false
set_option linter.unusedSimpArgs false
theorem rtop55_g {H : List Ent} {F : Fm} {nv lv : Value} {f : Nat} (hF : RF H (.agg (List.toArray [.int .i64 F.vars, nv, .int .i64 F.top])) F) (hg : F.Good) (hf : f < 2 ^ F.vars.toNat) : Gives Try.prog 45 [.agg (List.toArray [.int .i64 F.vars, nv, .int .i64 F.top, .int .i64 f, lv])] H (R1 (.bool (F.value (f : Nat))) H) := by
  refine Gives.enter Try.func45 rfl (by exact Try.ntmps45) rfl ?_
  refine Tri.seq (Tri.region ?_)
  refine TOps.boxN rfl ti53 rfl rfl (fun b1 => ?_)
  refine TOps.hide (fun H1 l1 s1 r1 => ?_)
  replace hF := hF.le l1
  refine TOps.assign rfl rfl ?_
  refine TOps.next ?_
  refine Tri.seq (Tri.region ?_)
  refine TOps.field0 rfl Try.underlying53 rfl rfl ti24 rfl rfl rfl ?_
  refine TOps.loadN rfl ti24 (show Rd H1 b1 0 [.int .i64 F.vars, nv, .int .i64 F.top] from r1.pre 3) rfl rfl ?_
  first | refine TOps.fieldB 3 rfl Try.underlying53 rfl rfl ti3 rfl rfl rfl ?_ | refine TOps.fieldN 3 rfl Try.underlying53 rfl rfl ti3 rfl rfl rfl ?_
  refine TOps.load1 rfl ti3 (by first | exact Rd.lit (by repeat (first | exact List.Mem.head _ | apply List.Mem.tail)) rfl | (repeat (first | assumption | exact Rd.fld (by assumption) 3 rfl | apply Rd.up))) rfl ?_
  refine TOps.call (vs := [_, _]) Try.call52 ⟨rfl, rfl, trivial⟩ (rvalue_g hF hg.ok hg (f : Int)) rfl ?_
  rintro _ _ ⟨rfl, rfl⟩
  refine TOps.assign rfl rfl ?_
  refine TOps.next ?_
  refine Tri.ret1 (H' := H) Try.results45 (fun _ _ h => h) (.tmp rfl) l1 ⟨rfl, rfl⟩
theorem ralone_g {H : List Ent} {F : Fm} {nv lv : Value} {f : Nat} (hF : RF H (.agg (List.toArray [.int .i64 F.vars, nv, .int .i64 F.top])) F) (hg : F.Good) (hf : f < 2 ^ F.vars.toNat) (q : Bool) (set : Nat) (hset : ∀ k, k < F.vars.toNat → set.testBit k = (f.testBit k == q)) : Gives Try.prog 46 [.agg (List.toArray [.int .i64 F.vars, nv, .int .i64 F.top, .int .i64 f, lv]), .bool q] H (R1 (.int .i64 (F.dec f set : Nat)) H) := by
  have g0 := hg.v0; have g1 := hg.v1
  obtain ⟨v, hv⟩ := Int.eq_ofNat_of_zero_le g0
  have hvn : F.vars.toNat = v := by omega
  have h24 := pow24 (show v ≤ 24 by omega)
  have hdec : F.dec f set = F.decTo f set v := by unfold Fm.dec; rw [hvn]
  have hff := hf
  rw [hvn] at hff hset
  rw [hdec]
  have hsp : ∀ x : Bool, decide ((if x then (1 : Int) else 0) = 1) = x := fun x => by cases x <;> rfl
  refine Gives.enter Try.func46 rfl (by exact Try.ntmps46) rfl ?_
  refine Tri.seq (Tri.region ?_)
  refine TOps.boxN rfl ti53 rfl rfl (fun b2 => ?_)
  refine TOps.hide (fun H1 l1 s1 r1 => ?_)
  replace hF := hF.le l1
  have r1' := r1
  rw [hv] at r1'
  refine TOps.assign rfl rfl ?_
  refine TOps.next ?_
  refine Tri.seq (Tri.region ?_)
  refine TOps.assign rfl rfl ?_
  refine TOps.next ?_
  refine Tri.seq ?_
  refine Tri.seq (Tri.region ?_)
  refine TOps.field0 rfl Try.underlying53 rfl rfl ti24 rfl rfl rfl ?_
  refine TOps.field0 rfl Try.underlying24 rfl rfl ti3 rfl rfl rfl ?_
  refine TOps.load1 rfl ti3 (r1'.fld 0 rfl) rfl ?_
  refine TOps.move rfl rfl ?_
  refine TOps.next ?_
  refine Tri.range (X := Unit) (fun x k => [(1, .bool q), (2, .pointer (some ⟨b2, 0, none⟩)), (5, .int .i64 (F.decTo f set k : Nat))]) (fun x k => H1) (fun x k => True) (by omega) rfl rfl rfl (fun _ _ => ⟨rfl, rfl, rfl, rfl⟩) () trivial ⟨rfl, rfl, rfl, trivial⟩ (by repeat (first | exact Le.refl _ | assumption | apply Le.drop)) (fun k x hlt hp => ?_) (fun x ac wc hp hS hM => ?_)
  · skip
    have hdl := F.decTo_lt f set k
    have h2k : 2 ^ k < 2 ^ v := Nat.pow_lt_pow_right (by decide) (by omega)
    have hds : F.decTo f set (k + 1) = (bif set.testBit k && (F.value ((f ^^^ 2 ^ k : Nat) : Int) != F.value (f : Nat)) then F.decTo f set k ||| 2 ^ k else F.decTo f set k) := rfl
    have hbit := bit_step f k (by omega)
    have hsk := hset k (by omega)
    clear r1'
    refine Tri.seq (Tri.region ?_)
    refine TOps.move rfl rfl ?_
    refine TOps.assign rfl rfl ?_
    refine TOps.next ?_
    refine Tri.seq ?_
    cases hsb : (f.testBit k == q)
    · skip
      refine Tri.drawC rfl [(1, .bool q), (2, .pointer (some ⟨b2, 0, none⟩)), (5, .int .i64 (F.decTo f set k : Nat)), (9, .int .i64 v), (10, .int .i64 k), (6, .int .i64 k)] [] [_, _, _, _, _, _, _, _, _, _, _, _, _, _, _, _, _, _, _, _, _] (H1) [20] rfl ⟨rfl, rfl, rfl, rfl, rfl, rfl, trivial⟩ trivial (by repeat (first | exact Le.refl _ | assumption | apply Le.drop)) (by
        refine ⟨?_, ?_, ?_, ?_, ?_, ?_, ?_, ?_, ?_, ?_, ?_, ?_, ?_, ?_, ?_, ?_, ?_, ?_, ?_, ?_, ?_, trivial⟩
        · refine ⟨fun x S c he hw hd hc hcu hm _ => ?_, trivial⟩
          first | refine TOps.fieldB 3 (he _ _ rfl) Try.underlying53 rfl rfl ti3 rfl rfl rfl ?_ | refine TOps.fieldN 3 (he _ _ rfl) Try.underlying53 rfl rfl ti3 rfl rfl rfl ?_
          exact TOps.fin (Nrm.draw x (fun _ _ _ => rfl) rfl (by first | exact Le.refl _ | assumption | exact (by repeat (first | exact Le.refl _ | assumption | apply Le.drop))))
        · refine ⟨fun x S c he hw hd hc hcu hm _ => ?_, trivial⟩
          obtain ⟨h0, -⟩ := hd
          refine TOps.load1 h0 ti3 (r1.fld 3 rfl) rfl ?_
          exact TOps.fin (Nrm.draw x (fun _ _ _ => rfl) rfl (by first | exact Le.refl _ | assumption | exact (by repeat (first | exact Le.refl _ | assumption | apply Le.drop))))
        · refine ⟨fun x S c he hw hd hc hcu hm _ => ?_, trivial⟩
          refine TOps.move (he _ _ rfl) rfl ?_
          exact TOps.fin (Nrm.draw x (fun _ _ _ => rfl) rfl (by first | exact Le.refl _ | assumption | exact (by repeat (first | exact Le.refl _ | assumption | apply Le.drop))))
        · refine ⟨fun x S c he hw hd hc hcu hm _ => ?_, trivial⟩
          obtain ⟨h1, h2, -⟩ := hd
          refine TOps.shr h1 h2 (by omega) rfl rfl ?_
          exact TOps.fin (Nrm.draw x (fun _ _ _ => rfl) rfl (by first | exact Le.refl _ | assumption | exact (by repeat (first | exact Le.refl _ | assumption | apply Le.drop))))
        · refine ⟨fun x S c he hw hd hc hcu hm _ => ?_, trivial⟩
          obtain ⟨h3, -⟩ := hd
          refine TOps.and (r := if f.testBit k then 1 else 0) h3 rfl (by rw [Int.toNat_natCast]; exact hbit) rfl ?_
          exact TOps.fin (Nrm.draw x (fun _ _ _ => rfl) rfl (by first | exact Le.refl _ | assumption | exact (by repeat (first | exact Le.refl _ | assumption | apply Le.drop))))
        · refine ⟨fun x S c he hw hd hc hcu hm _ => ?_, trivial⟩
          obtain ⟨h4, -⟩ := hd
          refine TOps.eqlIr (r := f.testBit k) h4 rfl (hsp _) rfl ?_
          exact TOps.fin (Nrm.draw x (fun _ _ _ => rfl) rfl (by first | exact Le.refl _ | assumption | exact (by repeat (first | exact Le.refl _ | assumption | apply Le.drop))))
        · refine ⟨fun x S c he hw hd hc hcu hm _ => ?_, trivial⟩
          refine TOps.move (he _ _ rfl) rfl ?_
          exact TOps.fin (Nrm.draw x (fun _ _ _ => rfl) rfl (by first | exact Le.refl _ | assumption | exact (by repeat (first | exact Le.refl _ | assumption | apply Le.drop))))
        · refine ⟨fun x S c he hw hd hc hcu hm _ => ?_, trivial⟩
          obtain ⟨h5, h6, -⟩ := hd
          refine TOps.eqlBr (r := false) h5 h6 hsb Try.underlying4 rfl ?_
          exact TOps.fin (Nrm.draw x (fun _ _ _ => rfl) rfl (by first | exact Le.refl _ | assumption | exact (by repeat (first | exact Le.refl _ | assumption | apply Le.drop))))
        · refine ⟨fun x S c he hw hd hc hcu hm _ => ?_, trivial⟩
          obtain ⟨h7, -⟩ := hd
          refine TOps.move h7 rfl ?_
          exact TOps.fin (Nrm.draw x (fun _ _ _ => rfl) rfl (by first | exact Le.refl _ | assumption | exact (by repeat (first | exact Le.refl _ | assumption | apply Le.drop))))
        · refine ⟨fun x S c he hw hd hc hcu hm hgd => ?_, ⟨_, rfl⟩, .inl ⟨rfl, fun x => .inr ⟨.inl rfl, rfl⟩⟩⟩
          exact absurd hgd (by first | (intro h; cases h; done) | simp_all)
        · refine ⟨fun x S c he hw hd hc hcu hm hgd => ?_, ⟨_, rfl⟩, .inl ⟨rfl, fun x => .inr ⟨.inl rfl, rfl⟩⟩⟩
          exact absurd hgd (by first | (intro h; cases h; done) | simp_all)
        · refine ⟨fun x S c he hw hd hc hcu hm hgd => ?_, ⟨_, rfl⟩, .inl ⟨rfl, fun x => .inr ⟨.inl rfl, rfl⟩⟩⟩
          exact absurd hgd (by first | (intro h; cases h; done) | simp_all)
        · refine ⟨fun x S c he hw hd hc hcu hm hgd => ?_, ⟨_, rfl⟩, .inl ⟨rfl, fun x => .inr ⟨.inl rfl, rfl⟩⟩⟩
          exact absurd hgd (by first | (intro h; cases h; done) | simp_all)
        · refine ⟨fun x S c he hw hd hc hcu hm hgd => ?_, ⟨_, rfl⟩, .inl ⟨rfl, fun x => .inr ⟨.inl rfl, rfl⟩⟩⟩
          exact absurd hgd (by first | (intro h; cases h; done) | simp_all)
        · refine ⟨fun x S c he hw hd hc hcu hm hgd => ?_, ⟨_, rfl⟩, .inl ⟨rfl, fun x => .inr ⟨.inl rfl, rfl⟩⟩⟩
          exact absurd hgd (by first | (intro h; cases h; done) | simp_all)
        · refine ⟨fun x S c he hw hd hc hcu hm hgd => ?_, ⟨_, rfl⟩, .inl ⟨rfl, fun x => .inr ⟨.inl rfl, rfl⟩⟩⟩
          exact absurd hgd (by first | (intro h; cases h; done) | simp_all)
        · refine ⟨fun x S c he hw hd hc hcu hm hgd => ?_, ⟨_, rfl⟩, .inl ⟨rfl, fun x => .inr ⟨.inl rfl, rfl⟩⟩⟩
          exact absurd hgd (by first | (intro h; cases h; done) | simp_all)
        · refine ⟨fun x S c he hw hd hc hcu hm hgd => ?_, ⟨_, rfl⟩, .inl ⟨rfl, fun x => .inr ⟨.inl rfl, rfl⟩⟩⟩
          exact absurd hgd (by first | (intro h; cases h; done) | simp_all)
        · refine ⟨fun x S c he hw hd hc hcu hm hgd => ?_, ⟨_, rfl⟩, .inl ⟨rfl, fun x => .inr ⟨.inl rfl, rfl⟩⟩⟩
          exact absurd hgd (by first | (intro h; cases h; done) | simp_all)
        · refine ⟨fun x S c he hw hd hc hcu hm hgd => ?_, ⟨_, rfl⟩, .inl ⟨rfl, fun x => .inr ⟨.inl rfl, rfl⟩⟩⟩
          exact absurd hgd (by first | (intro h; cases h; done) | simp_all)
        · refine ⟨fun x S c he hw hd hc hcu hm _ => ?_, trivial⟩
          obtain ⟨h8, h19, -⟩ := hd
          refine TOps.pickr (r := .bool (set.testBit k && (F.value ((f ^^^ 2 ^ k : Nat) : Int) != F.value (f : Nat)))) h8 h19 rfl (by rw [hsk, hsb]; rfl) rfl ?_
          exact TOps.fin (Nrm.draw x (fun _ _ _ => rfl) rfl (by first | exact Le.refl _ | assumption | exact (by repeat (first | exact Le.refl _ | assumption | apply Le.drop))))
        ) ?_
      refine Nrm.next ?_
      refine Tri.cond rfl (fun hc1 => ?_) (fun hc1 => ?_)
      · skip
        rw [hc1, cond_true] at hds
        refine Tri.region ?_
        refine TOps.move rfl rfl ?_
        refine TOps.move rfl rfl ?_
        refine TOps.shl (r := ((2 ^ k : Nat) : Int)) rfl rfl (by omega) (by rw [Int.toNat_natCast]; exact ishl_one (by omega)) rfl ?_
        refine TOps.or (r := ((F.decTo f set k ||| 2 ^ k : Nat) : Int)) rfl rfl (ior_nat (by omega) (by omega)) rfl ?_
        refine TOps.assign rfl rfl ?_
        refine TOps.fin ?_
        refine Nrm.body () trivial ⟨rfl, rfl, rfl, rfl, (by rw [hds]; rfl), trivial⟩ (by repeat (first | exact Le.refl _ | assumption | apply Le.drop))
      skip
      rw [hc1, cond_false] at hds
      refine Tri.fin ?_
      refine Nrm.body () trivial ⟨rfl, rfl, rfl, rfl, (by rw [hds]; rfl), trivial⟩ (by repeat (first | exact Le.refl _ | assumption | apply Le.drop))
    · skip
      refine Tri.drawC rfl [(1, .bool q), (2, .pointer (some ⟨b2, 0, none⟩)), (5, .int .i64 (F.decTo f set k : Nat)), (9, .int .i64 v), (10, .int .i64 k), (6, .int .i64 k)] [] [_, _, _, _, _, _, _, _, _, _, _, _, _, _, _, _, _, _, _, _, _] (H1) [20] rfl ⟨rfl, rfl, rfl, rfl, rfl, rfl, trivial⟩ trivial (by repeat (first | exact Le.refl _ | assumption | apply Le.drop)) (by
        refine ⟨?_, ?_, ?_, ?_, ?_, ?_, ?_, ?_, ?_, ?_, ?_, ?_, ?_, ?_, ?_, ?_, ?_, ?_, ?_, ?_, ?_, trivial⟩
        · refine ⟨fun x S c he hw hd hc hcu hm _ => ?_, trivial⟩
          first | refine TOps.fieldB 3 (he _ _ rfl) Try.underlying53 rfl rfl ti3 rfl rfl rfl ?_ | refine TOps.fieldN 3 (he _ _ rfl) Try.underlying53 rfl rfl ti3 rfl rfl rfl ?_
          exact TOps.fin (Nrm.draw x (fun _ _ _ => rfl) rfl (by first | exact Le.refl _ | assumption | exact (by repeat (first | exact Le.refl _ | assumption | apply Le.drop))))
        · refine ⟨fun x S c he hw hd hc hcu hm _ => ?_, trivial⟩
          obtain ⟨h0, -⟩ := hd
          refine TOps.load1 h0 ti3 (r1.fld 3 rfl) rfl ?_
          exact TOps.fin (Nrm.draw x (fun _ _ _ => rfl) rfl (by first | exact Le.refl _ | assumption | exact (by repeat (first | exact Le.refl _ | assumption | apply Le.drop))))
        · refine ⟨fun x S c he hw hd hc hcu hm _ => ?_, trivial⟩
          refine TOps.move (he _ _ rfl) rfl ?_
          exact TOps.fin (Nrm.draw x (fun _ _ _ => rfl) rfl (by first | exact Le.refl _ | assumption | exact (by repeat (first | exact Le.refl _ | assumption | apply Le.drop))))
        · refine ⟨fun x S c he hw hd hc hcu hm _ => ?_, trivial⟩
          obtain ⟨h1, h2, -⟩ := hd
          refine TOps.shr h1 h2 (by omega) rfl rfl ?_
          exact TOps.fin (Nrm.draw x (fun _ _ _ => rfl) rfl (by first | exact Le.refl _ | assumption | exact (by repeat (first | exact Le.refl _ | assumption | apply Le.drop))))
        · refine ⟨fun x S c he hw hd hc hcu hm _ => ?_, trivial⟩
          obtain ⟨h3, -⟩ := hd
          refine TOps.and (r := if f.testBit k then 1 else 0) h3 rfl (by rw [Int.toNat_natCast]; exact hbit) rfl ?_
          exact TOps.fin (Nrm.draw x (fun _ _ _ => rfl) rfl (by first | exact Le.refl _ | assumption | exact (by repeat (first | exact Le.refl _ | assumption | apply Le.drop))))
        · refine ⟨fun x S c he hw hd hc hcu hm _ => ?_, trivial⟩
          obtain ⟨h4, -⟩ := hd
          refine TOps.eqlIr (r := f.testBit k) h4 rfl (hsp _) rfl ?_
          exact TOps.fin (Nrm.draw x (fun _ _ _ => rfl) rfl (by first | exact Le.refl _ | assumption | exact (by repeat (first | exact Le.refl _ | assumption | apply Le.drop))))
        · refine ⟨fun x S c he hw hd hc hcu hm _ => ?_, trivial⟩
          refine TOps.move (he _ _ rfl) rfl ?_
          exact TOps.fin (Nrm.draw x (fun _ _ _ => rfl) rfl (by first | exact Le.refl _ | assumption | exact (by repeat (first | exact Le.refl _ | assumption | apply Le.drop))))
        · refine ⟨fun x S c he hw hd hc hcu hm _ => ?_, trivial⟩
          obtain ⟨h5, h6, -⟩ := hd
          refine TOps.eqlBr (r := true) h5 h6 hsb Try.underlying4 rfl ?_
          exact TOps.fin (Nrm.draw x (fun _ _ _ => rfl) rfl (by first | exact Le.refl _ | assumption | exact (by repeat (first | exact Le.refl _ | assumption | apply Le.drop))))
        · refine ⟨fun x S c he hw hd hc hcu hm _ => ?_, trivial⟩
          obtain ⟨h7, -⟩ := hd
          refine TOps.move h7 rfl ?_
          exact TOps.fin (Nrm.draw x (fun _ _ _ => rfl) rfl (by first | exact Le.refl _ | assumption | exact (by repeat (first | exact Le.refl _ | assumption | apply Le.drop))))
        · refine ⟨fun x S c he hw hd hc hcu hm hgd => ?_, ⟨_, rfl⟩, .inl ⟨rfl, fun x => .inl rfl⟩⟩
          obtain ⟨h8, -⟩ := hd
          refine TOps.field0 (he _ _ rfl) Try.underlying53 rfl rfl ti24 rfl rfl rfl ?_
          exact TOps.fin (Nrm.draw x (fun _ _ _ => rfl) rfl (by first | exact Le.refl _ | assumption | exact (by repeat (first | exact Le.refl _ | assumption | apply Le.drop))))
        · refine ⟨fun x S c he hw hd hc hcu hm hgd => ?_, ⟨_, rfl⟩, .inl ⟨rfl, fun x => .inl rfl⟩⟩
          obtain ⟨h9, h8, -⟩ := hd
          refine TOps.loadN h9 ti24 (show Rd H1 b2 0 [.int .i64 F.vars, nv, .int .i64 F.top] from r1.pre 3) rfl rfl ?_
          exact TOps.fin (Nrm.draw x (fun _ _ _ => rfl) rfl (by first | exact Le.refl _ | assumption | exact (by repeat (first | exact Le.refl _ | assumption | apply Le.drop))))
        · refine ⟨fun x S c he hw hd hc hcu hm hgd => ?_, ⟨_, rfl⟩, .inl ⟨rfl, fun x => .inl rfl⟩⟩
          obtain ⟨h8, -⟩ := hd
          first | refine TOps.fieldB 3 (he _ _ rfl) Try.underlying53 rfl rfl ti3 rfl rfl rfl ?_ | refine TOps.fieldN 3 (he _ _ rfl) Try.underlying53 rfl rfl ti3 rfl rfl rfl ?_
          exact TOps.fin (Nrm.draw x (fun _ _ _ => rfl) rfl (by first | exact Le.refl _ | assumption | exact (by repeat (first | exact Le.refl _ | assumption | apply Le.drop))))
        · refine ⟨fun x S c he hw hd hc hcu hm hgd => ?_, ⟨_, rfl⟩, .inl ⟨rfl, fun x => .inl rfl⟩⟩
          obtain ⟨h11, h8, -⟩ := hd
          refine TOps.load1 h11 ti3 (r1.fld 3 rfl) rfl ?_
          exact TOps.fin (Nrm.draw x (fun _ _ _ => rfl) rfl (by first | exact Le.refl _ | assumption | exact (by repeat (first | exact Le.refl _ | assumption | apply Le.drop))))
        · refine ⟨fun x S c he hw hd hc hcu hm hgd => ?_, ⟨_, rfl⟩, .inl ⟨rfl, fun x => .inl rfl⟩⟩
          obtain ⟨h8, -⟩ := hd
          refine TOps.move (he _ _ rfl) rfl ?_
          exact TOps.fin (Nrm.draw x (fun _ _ _ => rfl) rfl (by first | exact Le.refl _ | assumption | exact (by repeat (first | exact Le.refl _ | assumption | apply Le.drop))))
        · refine ⟨fun x S c he hw hd hc hcu hm hgd => ?_, ⟨_, rfl⟩, .inl ⟨rfl, fun x => .inl rfl⟩⟩
          obtain ⟨h13, h8, -⟩ := hd
          refine TOps.shl (r := ((2 ^ k : Nat) : Int)) rfl h13 (by omega) (by rw [Int.toNat_natCast]; exact ishl_one (by omega)) rfl ?_
          exact TOps.fin (Nrm.draw x (fun _ _ _ => rfl) rfl (by first | exact Le.refl _ | assumption | exact (by repeat (first | exact Le.refl _ | assumption | apply Le.drop))))
        · refine ⟨fun x S c he hw hd hc hcu hm hgd => ?_, ⟨_, rfl⟩, .inl ⟨rfl, fun x => .inl rfl⟩⟩
          obtain ⟨h12, h14, h8, -⟩ := hd
          refine TOps.xor (r := ((f ^^^ 2 ^ k : Nat) : Int)) h12 h14 (ixor_nat (by omega) (by omega)) rfl ?_
          exact TOps.fin (Nrm.draw x (fun _ _ _ => rfl) rfl (by first | exact Le.refl _ | assumption | exact (by repeat (first | exact Le.refl _ | assumption | apply Le.drop))))
        · refine ⟨fun x S c he hw hd hc hcu hm hgd => ?_, ⟨_, rfl⟩, .inl ⟨rfl, fun x => .inl rfl⟩⟩
          obtain ⟨h10, h15, h8, _, -⟩ := hd
          refine TOps.call (vs := [_, _]) Try.call52 ⟨h10, h15, trivial⟩ (rvalue_g hF hg.ok hg ((f ^^^ 2 ^ k : Nat) : Int)) rfl ?_
          rintro _ _ ⟨rfl, rfl⟩
          exact TOps.fin (Nrm.draw x (fun _ _ _ => rfl) rfl (by first | exact Le.refl _ | assumption | exact (by repeat (first | exact Le.refl _ | assumption | apply Le.drop))))
        · refine ⟨fun x S c he hw hd hc hcu hm hgd => ?_, ⟨_, rfl⟩, .inl ⟨rfl, fun x => .inl rfl⟩⟩
          obtain ⟨h8, -⟩ := hd
          refine TOps.loadN (vs := [.int .i64 F.vars, nv, .int .i64 F.top, .int .i64 f, lv]) (by first | exact he _ _ rfl | assumption) ti53 r1 rfl rfl ?_
          exact TOps.fin (Nrm.draw x (fun _ _ _ => rfl) rfl (by first | exact Le.refl _ | assumption | exact (by repeat (first | exact Le.refl _ | assumption | apply Le.drop))))
        · refine ⟨fun x S c he hw hd hc hcu hm hgd => ?_, ⟨_, rfl⟩, .inl ⟨rfl, fun x => .inl rfl⟩⟩
          obtain ⟨h17, h16, h8, -⟩ := hd
          refine TOps.call (vs := [_]) Try.call45 ⟨h17, trivial⟩ (rtop55_g hF hg hf) rfl ?_
          rintro _ _ ⟨rfl, rfl⟩
          exact TOps.fin (Nrm.draw x (fun _ _ _ => rfl) rfl (by first | exact Le.refl _ | assumption | exact (by repeat (first | exact Le.refl _ | assumption | apply Le.drop))))
        · refine ⟨fun x S c he hw hd hc hcu hm hgd => ?_, ⟨_, rfl⟩, .inl ⟨rfl, fun x => .inl rfl⟩⟩
          obtain ⟨h16, h18, h8, -⟩ := hd
          refine TOps.neqB h16 h18 Try.underlying4 rfl ?_
          exact TOps.fin (Nrm.draw x (fun _ _ _ => rfl) rfl (by first | exact Le.refl _ | assumption | exact (by repeat (first | exact Le.refl _ | assumption | apply Le.drop))))
        · refine ⟨fun x S c he hw hd hc hcu hm _ => ?_, trivial⟩
          obtain ⟨h8, h19, -⟩ := hd
          refine TOps.pickr (r := .bool (set.testBit k && (F.value ((f ^^^ 2 ^ k : Nat) : Int) != F.value (f : Nat)))) h8 h19 rfl (by rw [hsk, hsb]; rfl) rfl ?_
          exact TOps.fin (Nrm.draw x (fun _ _ _ => rfl) rfl (by first | exact Le.refl _ | assumption | exact (by repeat (first | exact Le.refl _ | assumption | apply Le.drop))))
        ) ?_
      refine Nrm.next ?_
      refine Tri.cond rfl (fun hc1 => ?_) (fun hc1 => ?_)
      · skip
        rw [hc1, cond_true] at hds
        refine Tri.region ?_
        refine TOps.move rfl rfl ?_
        refine TOps.move rfl rfl ?_
        refine TOps.shl (r := ((2 ^ k : Nat) : Int)) rfl rfl (by omega) (by rw [Int.toNat_natCast]; exact ishl_one (by omega)) rfl ?_
        refine TOps.or (r := ((F.decTo f set k ||| 2 ^ k : Nat) : Int)) rfl rfl (ior_nat (by omega) (by omega)) rfl ?_
        refine TOps.assign rfl rfl ?_
        refine TOps.fin ?_
        refine Nrm.body () trivial ⟨rfl, rfl, rfl, rfl, (by rw [hds]; rfl), trivial⟩ (by repeat (first | exact Le.refl _ | assumption | apply Le.drop))
      skip
      rw [hc1, cond_false] at hds
      refine Tri.fin ?_
      refine Nrm.body () trivial ⟨rfl, rfl, rfl, rfl, (by rw [hds]; rfl), trivial⟩ (by repeat (first | exact Le.refl _ | assumption | apply Le.drop))
  refine Nrm.of hS hM ?_
  refine Nrm.next ?_
  refine Tri.seq (Tri.region ?_)
  refine TOps.move rfl rfl ?_
  refine TOps.assign rfl rfl ?_
  refine TOps.next ?_
  refine Tri.ret1 (H' := H) Try.results46 (fun _ _ h => h) (.tmp rfl) l1 ⟨rfl, rfl⟩
theorem rsize55_g {H : List Ent} (s : Nat) (hs : s < 2 ^ 24) : Gives Try.prog 53 [.int .i64 s] H (R1 (.int .i64 (pp 24 s : Nat)) H) := by
  have h24 : (2 : Nat) ^ 24 = 16777216 := by decide
  refine Gives.enter Try.func53 rfl (by exact Try.ntmps53) rfl ?_
  refine Tri.seq (Tri.region ?_)
  refine TOps.assign rfl rfl ?_
  refine TOps.next ?_
  refine Tri.seq (Tri.region ?_)
  refine TOps.assign rfl rfl ?_
  refine TOps.next ?_
  refine Tri.seq ?_
  refine Tri.block ?_
  refine Tri.loop (X := Nat × Nat × Nat) (fun x => [(0, .int .i64 x.1), (3, .int .i64 x.2.1)]) (fun x => H) (fun x => x.2.1 + pp x.2.2 x.1 = pp 24 s ∧ x.1 < 2 ^ x.2.2 ∧ x.2.2 ≤ 24 ∧ x.1 < 2 ^ 24) (fun x => x.1) (s, 0, 24) ⟨by simp, hs, Nat.le_refl _, hs⟩ ⟨rfl, rfl, trivial⟩ (by repeat (first | exact Le.refl _ | assumption | apply Le.drop)) (fun x hp => ?_)
  obtain ⟨c, m, fu⟩ := x
  obtain ⟨p1, p2, p3, p4⟩ := hp
  dsimp only at p1 p2 p3 p4 ⊢
  have hp24 := pp_le 24 s
  refine Tri.seq ?_
  refine Tri.seq (Tri.region ?_)
  refine TOps.move rfl rfl ?_
  refine TOps.gtr rfl rfl rfl ?_
  refine TOps.next ?_
  refine Tri.cond rfl (fun hc1 => ?_) (fun hc1 => ?_)
  · try simp only [decide_eq_true_eq, decide_eq_false_iff_not, Bool.and_eq_true, Bool.or_eq_true, Bool.not_eq_true', Bool.and_eq_false_iff, Bool.or_eq_false_iff, Bool.not_eq_false', Int.not_lt, Int.not_le, ne_eq, Decidable.not_not, Option.isSome_iff_ne_none, Option.isNone_iff_eq_none] at hc1
    obtain ⟨fu, rfl⟩ : ∃ g, fu = g + 1 := by
      cases fu with
      | zero => simp at p2; omega
      | succ g => exact ⟨g, rfl⟩
    have p1' : m + (c % 2 + pp fu (c / 2)) = pp 24 s := p1
    rw [Nat.pow_succ] at p2
    refine Tri.fin ?_
    refine Nrm.next ?_
    refine Tri.seq ?_
    refine Tri.block ?_
    refine Tri.region ?_
    refine TOps.move rfl rfl ?_
    refine TOps.move rfl rfl ?_
    refine TOps.rem (r := ((c % 2 : Nat) : Int)) rfl rfl (by decide) (by rw [Int.natCast_emod]; exact Int.tmod_eq_emod_of_nonneg (by omega)) rfl ?_
    refine TOps.add (r := ((m + c % 2 : Nat) : Int)) rfl rfl (by rw [wrapI (by omega) (by omega)]; omega) rfl ?_
    refine TOps.assign rfl rfl ?_
    refine TOps.fin ?_
    refine Nrm.unB ?_
    refine Nrm.next ?_
    refine Tri.region ?_
    refine TOps.move rfl rfl ?_
    refine TOps.quo (r := ((c / 2 : Nat) : Int)) rfl rfl (by decide) (by rw [show Int.tdiv (c : Int) 2 = ((c / 2 : Nat) : Int) from (Int.ofNat_tdiv c 2).symm]; exact wrapI (by omega) (by omega)) rfl ?_
    refine TOps.assign rfl rfl ?_
    refine TOps.fin ?_
    refine Nrm.loop (c / 2, m + c % 2, fu) ⟨by dsimp only; omega, by dsimp only; omega, by dsimp only; omega, by dsimp only; omega⟩ (by dsimp only; omega) ⟨rfl, rfl, trivial⟩ (by repeat (first | exact Le.refl _ | assumption | apply Le.drop))
  try simp only [decide_eq_true_eq, decide_eq_false_iff_not, Bool.and_eq_true, Bool.or_eq_true, Bool.not_eq_true', Bool.and_eq_false_iff, Bool.or_eq_false_iff, Bool.not_eq_false', Int.not_lt, Int.not_le, ne_eq, Decidable.not_not, Option.isSome_iff_ne_none, Option.isNone_iff_eq_none] at hc1
  have hc0 : c = 0 := by omega
  have hpz : pp fu c = 0 := by rw [hc0]; exact (pp_zero fu 0 (Nat.two_pow_pos _)).2 rfl
  rw [hpz, Nat.add_zero] at p1
  rw [p1]
  refine Tri.exitW ?_
  refine Nrm.next ?_
  refine Tri.seq (Tri.region ?_)
  refine TOps.move rfl rfl ?_
  refine TOps.assign rfl rfl ?_
  refine TOps.next ?_
  refine Tri.ret1 (H' := H) Try.results53 (fun _ _ h => h) (.tmp rfl) (Le.refl _) ⟨rfl, rfl⟩
theorem rnext55_g {H : List Ent} {F : Fm} {nv lv : Value} {f : Nat} (hF : RF H (.agg (List.toArray [.int .i64 F.vars, nv, .int .i64 F.top])) F) (hg : F.Good) (hf : f < 2 ^ F.vars.toNat) : Gives Try.prog 47 [.agg (List.toArray [.int .i64 F.vars, nv, .int .i64 F.top, .int .i64 f, lv])] H (R1 (.tuple (List.toArray [.int .i64 (pp 24 (F.nearSet f) : Nat), .int .i64 (F.nearSet f : Nat), .int .i64 ((F.nearErr f).getD 0)])) H) := by
  have g0 := hg.v0; have g1 := hg.v1
  obtain ⟨v, hv⟩ := Int.eq_ofNat_of_zero_le g0
  have hvn : F.vars.toNat = v := by omega
  have hff := hf
  rw [hvn] at hff
  have hp0 : pp 24 0 = 0 := (pp_zero 24 0 (by decide)).2 rfl
  refine Gives.enter Try.func47 rfl (by exact Try.ntmps47) rfl ?_
  refine Tri.seq (Tri.region ?_)
  refine TOps.boxN rfl ti53 rfl rfl (fun b1 => ?_)
  refine TOps.hide (fun H1 l1 s1 r1 => ?_)
  replace hF := hF.le l1
  refine TOps.assign rfl rfl ?_
  refine TOps.assign rfl rfl ?_
  refine TOps.assign rfl rfl ?_
  refine TOps.next ?_
  refine Tri.seq ?_
  refine Tri.seq (Tri.region ?_)
  refine TOps.field0 rfl Try.underlying53 rfl rfl ti24 rfl rfl rfl ?_
  refine TOps.field0 rfl Try.underlying24 rfl rfl ti3 rfl rfl rfl ?_
  refine TOps.load1 (v := .int .i64 v) rfl ti3 (by rw [← hv]; exact r1.fld 0 rfl) rfl ?_
  refine TOps.gtr rfl rfl rfl ?_
  refine TOps.next ?_
  refine Tri.cond rfl (fun hc1 => ?_) (fun hc1 => ?_)
  · try simp only [decide_eq_true_eq, decide_eq_false_iff_not, Bool.and_eq_true, Bool.or_eq_true, Bool.not_eq_true', Bool.and_eq_false_iff, Bool.or_eq_false_iff, Bool.not_eq_false', Int.not_lt, Int.not_le, ne_eq, Decidable.not_not, Option.isSome_iff_ne_none, Option.isNone_iff_eq_none] at hc1
    refine Tri.seq (Tri.region ?_)
    refine TOps.assign rfl rfl ?_
    refine TOps.assign rfl rfl ?_
    refine TOps.assign rfl rfl ?_
    refine TOps.next ?_
    refine Tri.ret3 (H' := H) Try.results47 (fun _ _ h => h) (.tmp rfl) (.tmp rfl) (.tmp rfl) l1 ⟨by rw [Fm.nearErr_1 (by omega), Fm.nearSet_1 (by omega), hp0]; rfl, rfl⟩
  try simp only [decide_eq_true_eq, decide_eq_false_iff_not, Bool.and_eq_true, Bool.or_eq_true, Bool.not_eq_true', Bool.and_eq_false_iff, Bool.or_eq_false_iff, Bool.not_eq_false', Int.not_lt, Int.not_le, ne_eq, Decidable.not_not, Option.isSome_iff_ne_none, Option.isNone_iff_eq_none] at hc1
  have h12 : ¬ 12 < F.vars := by omega
  have h4096 := pow12 (v := v) (by omega)
  have hsh : ishl 1 v = ((2 ^ v : Nat) : Int) := ishl_one (by omega)
  have hnr : F.nearTo f (2 ^ v) = F.near f := by unfold Fm.near; rw [hvn]
  obtain ⟨N, hNN⟩ : ∃ N, N = 2 ^ v := ⟨_, rfl⟩
  rw [← hNN] at hsh h4096 hnr
  have hnl := F.nearTo_lt f N
  refine Tri.fin ?_
  refine Nrm.next ?_
  refine Tri.seq (Tri.region ?_)
  refine TOps.assign rfl rfl ?_
  refine TOps.next ?_
  refine Tri.seq ?_
  refine Tri.seq (Tri.region ?_)
  refine TOps.field0 rfl Try.underlying53 rfl rfl ti24 rfl rfl rfl ?_
  refine TOps.field0 rfl Try.underlying24 rfl rfl ti3 rfl rfl rfl ?_
  refine TOps.load1 (v := .int .i64 v) rfl ti3 (by rw [← hv]; exact r1.fld 0 rfl) rfl ?_
  refine TOps.shl (r := (N : Int)) rfl rfl (by omega) hsh rfl ?_
  refine TOps.move rfl rfl ?_
  refine TOps.next ?_
  refine Tri.range (X := Unit) (fun x k => [(1, .pointer (some ⟨b1, 0, none⟩)), (5, .int .i64 (bI (F.nearTo f k)))]) (fun x k => H1) (fun x k => True) (by omega) rfl rfl rfl (fun _ _ => ⟨rfl, rfl, rfl, rfl⟩) () trivial ⟨rfl, rfl, trivial⟩ (by repeat (first | exact Le.refl _ | assumption | apply Le.drop)) (fun k x hlt hp => ?_) (fun x ac wc hp hS hM => ?_)
  · skip
    have hlt' : k < 2 ^ v := by omega
    have hol : f ||| k < 2 ^ v := Nat.or_lt_two_pow hff hlt'
    have hns : F.nearTo f (k + 1) = (bif F.cand f k && ((F.nearTo f k).isNone || decide (pp 24 k < bP (F.nearTo f k))) then some k else F.nearTo f k) := rfl
    have hbd := F.nearTo_lt f k
    generalize F.nearTo f k = B at *
    have hcd : F.cand f k = (decide (k &&& f = 0) && F.value ((f ||| k : Nat) : Int)) := by unfold Fm.cand; rw [Nat.or_comm]
    have hdn : ∀ c : Nat, decide (((c : Nat) : Int) ≠ 0) = !(decide (c = 0)) := fun c => by rw [← decide_not]; exact decide_eq_decide.2 (by omega)
    refine Tri.seq (Tri.region ?_)
    refine TOps.move rfl rfl ?_
    refine TOps.assign rfl rfl ?_
    refine TOps.next ?_
    refine Tri.seq ?_
    refine Tri.seq (Tri.region ?_)
    refine TOps.move rfl rfl ?_
    first | refine TOps.fieldB 3 rfl Try.underlying53 rfl rfl ti3 rfl rfl rfl ?_ | refine TOps.fieldN 3 rfl Try.underlying53 rfl rfl ti3 rfl rfl rfl ?_
    refine TOps.load1 rfl ti3 (by first | exact Rd.lit (by repeat (first | exact List.Mem.head _ | apply List.Mem.tail)) rfl | (repeat (first | assumption | exact Rd.fld (by assumption) 3 rfl | apply Rd.up))) rfl ?_
    refine TOps.and (r := ((k &&& f : Nat) : Int)) rfl rfl (iand_nat (by omega) (by omega)) rfl ?_
    refine TOps.neqIr (r := !(decide (k &&& f = 0))) rfl rfl (hdn _) rfl ?_
    refine TOps.move rfl rfl ?_
    refine' TOps.orB 8 rfl rfl rfl rfl (fun hg7_5 => ?_) ?_; rotate_left
    · have hg7_5' := hg7_5
      try simp only [decide_eq_true_eq, decide_eq_false_iff_not, Bool.and_eq_true, Bool.or_eq_true, Bool.not_eq_true', Bool.and_eq_false_iff, Bool.or_eq_false_iff, Bool.not_eq_false', Int.not_lt, Int.not_le, ne_eq, Decidable.not_not] at hg7_5'
      refine TOps.strip 5 false rfl rfl hg7_5 rfl ?_
      refine TOps.field0 rfl Try.underlying53 rfl rfl ti24 rfl rfl rfl ?_
      refine TOps.loadN rfl ti24 (show Rd H1 b1 0 [.int .i64 F.vars, nv, .int .i64 F.top] from r1.pre 3) rfl rfl ?_
      first | refine TOps.fieldB 3 rfl Try.underlying53 rfl rfl ti3 rfl rfl rfl ?_ | refine TOps.fieldN 3 rfl Try.underlying53 rfl rfl ti3 rfl rfl rfl ?_
      refine TOps.load1 rfl ti3 (by first | exact Rd.lit (by repeat (first | exact List.Mem.head _ | apply List.Mem.tail)) rfl | (repeat (first | assumption | exact Rd.fld (by assumption) 3 rfl | apply Rd.up))) rfl ?_
      refine TOps.move rfl rfl ?_
      refine TOps.or (r := ((f ||| k : Nat) : Int)) rfl rfl (ior_nat (by omega) (by omega)) rfl ?_
      refine TOps.call (vs := [_, _]) Try.call52 ⟨rfl, rfl, trivial⟩ (rvalue_g hF hg.ok hg ((f ||| k : Nat) : Int)) rfl ?_
      rintro _ _ ⟨rfl, rfl⟩
      refine TOps.not rfl rfl ?_
      refine TOps.blk rfl (by repeat (first | exact Ext.refl _ | refine Ext.cons rfl ?_)) (by repeat (first | exact Le.refl _ | apply Le.drop))
    refine TOps.next ?_
    refine Tri.cond rfl (fun hc2 => ?_) (fun hc2 => ?_)
    · skip
      have hcf : F.cand f k = false := by rw [hcd]; cases h1 : decide (k &&& f = 0) <;> cases h2 : F.value ((f ||| k : Nat) : Int) <;> first | rfl | (rw [h1, h2] at hc2; cases hc2)
      rw [hcf, Bool.false_and, cond_false] at hns
      refine Tri.exitTo ?_
      repeat (with_reducible first | refine ExitTo.blk ?_ | refine ExitTo.blkNe rfl ?_ | refine ExitTo.body ?_ | refine ExitTo.brk rfl ?_ | refine ExitTo.bodyNe rfl rfl ?_ | refine ExitTo.seq ?_ | refine ExitTo.loop ?_)
      refine Nrm.body () trivial ⟨rfl, rfl, rfl, (by rw [hns]; rfl), trivial⟩ (by repeat (first | exact Le.refl _ | assumption | apply Le.drop))
    skip
    have hct : F.cand f k = true := by rw [hcd]; cases h1 : decide (k &&& f = 0) <;> cases h2 : F.value ((f ||| k : Nat) : Int) <;> first | rfl | (rw [h1, h2] at hc2; cases hc2)
    rw [hct, Bool.true_and] at hns
    refine Tri.fin ?_
    refine Nrm.next ?_
    refine Tri.seq (Tri.region ?_)
    refine TOps.move rfl rfl ?_
    refine TOps.lssr (r := B.isNone) rfl rfl (bI_neg B) rfl ?_
    refine TOps.move rfl rfl ?_
    refine' TOps.orB 5 rfl rfl rfl rfl (fun hg8_2 => ?_) ?_; rotate_left
    · have hg8_2' := hg8_2
      try simp only [decide_eq_true_eq, decide_eq_false_iff_not, Bool.and_eq_true, Bool.or_eq_true, Bool.not_eq_true', Bool.and_eq_false_iff, Bool.or_eq_false_iff, Bool.not_eq_false', Int.not_lt, Int.not_le, ne_eq, Decidable.not_not] at hg8_2'
      obtain ⟨s, hB⟩ : ∃ s, B = some s := by cases B with | none => cases hg8_2 | some s => exact ⟨s, rfl⟩
      have hs := hbd s hB
      have hbI : bI B = (s : Int) := by rw [hB]; rfl
      have hbP : bP B = pp 24 s := by rw [hB]; rfl
      refine TOps.strip 2 false rfl rfl hg8_2 rfl ?_
      refine TOps.move rfl rfl ?_
      refine TOps.call (vs := [_]) Try.call53 ⟨rfl, trivial⟩ (rsize55_g k (by omega)) rfl ?_
      rintro _ _ ⟨rfl, rfl⟩
      refine TOps.move (v := .int .i64 s) (by rw [← hbI]; rfl) rfl ?_
      refine TOps.call (vs := [_]) Try.call53 ⟨rfl, trivial⟩ (rsize55_g s (by omega)) rfl ?_
      rintro _ _ ⟨rfl, rfl⟩
      refine TOps.lssr (r := decide (pp 24 k < bP B)) rfl rfl (by rw [hbP]; exact decide_eq_decide.2 (by omega)) rfl ?_
      refine TOps.blk rfl (by repeat (first | exact Ext.refl _ | refine Ext.cons rfl ?_)) (by repeat (first | exact Le.refl _ | apply Le.drop))
    refine TOps.next ?_
    refine Tri.cond rfl (fun hc3 => ?_) (fun hc3 => ?_)
    · skip
      rw [show (B.isNone || decide (pp 24 k < bP B)) = true from hc3, cond_true] at hns
      refine Tri.region ?_
      refine TOps.move rfl rfl ?_
      refine TOps.assign rfl rfl ?_
      refine TOps.fin ?_
      refine Nrm.body () trivial ⟨rfl, rfl, rfl, (by rw [hns]; rfl), trivial⟩ (by repeat (first | exact Le.refl _ | assumption | apply Le.drop))
    skip
    rw [show (B.isNone || decide (pp 24 k < bP B)) = false from hc3, cond_false] at hns
    refine Tri.fin ?_
    refine Nrm.body () trivial ⟨rfl, rfl, rfl, (by rw [hns]; rfl), trivial⟩ (by repeat (first | exact Le.refl _ | assumption | apply Le.drop))
  rw [hnr] at hS hnl
  refine Nrm.of hS hM ?_
  refine Nrm.next ?_
  refine Tri.seq ?_
  refine Tri.seq (Tri.region ?_)
  refine TOps.move rfl rfl ?_
  refine TOps.lssr (r := (F.near f).isNone) rfl rfl (bI_neg _) rfl ?_
  refine TOps.next ?_
  refine Tri.cond rfl (fun hc4 => ?_) (fun hc4 => ?_)
  · skip
    have hno : F.near f = none := by cases h : F.near f with | none => rfl | some s => rw [h] at hc4; cases hc4
    refine Tri.seq (Tri.region ?_)
    refine TOps.assign rfl rfl ?_
    refine TOps.assign rfl rfl ?_
    refine TOps.assign rfl rfl ?_
    refine TOps.next ?_
    refine Tri.ret3 (H' := H) Try.results47 (fun _ _ h => h) (.tmp rfl) (.tmp rfl) (.tmp rfl) l1 ⟨by rw [Fm.nearErr_2 h12 hno, Fm.nearSet_2 hno, hp0]; rfl, rfl⟩
  skip
  obtain ⟨s, hso⟩ : ∃ s, F.near f = some s := by cases h : F.near f with | none => rw [h] at hc4; cases hc4 | some s => exact ⟨s, rfl⟩
  have hsl := hnl s hso
  rw [hso, show bI (some s) = (s : Int) from rfl]
  refine Tri.fin ?_
  refine Nrm.next ?_
  refine Tri.seq (Tri.region ?_)
  refine TOps.move rfl rfl ?_
  refine TOps.call (vs := [_]) Try.call53 ⟨rfl, trivial⟩ (rsize55_g s (by omega)) rfl ?_
  rintro _ _ ⟨rfl, rfl⟩
  refine TOps.move rfl rfl ?_
  refine TOps.assign rfl rfl ?_
  refine TOps.assign rfl rfl ?_
  refine TOps.assign rfl rfl ?_
  refine TOps.next ?_
  refine Tri.ret3 (H' := H) Try.results47 (fun _ _ h => h) (.tmp rfl) (.tmp rfl) (.tmp rfl) l1 ⟨by rw [Fm.nearErr_3 h12 hso, Fm.nearSet_3 h12 hso]; rfl, rfl⟩
end Go.Proofs
