import Derived.Test.YtffghipagnjggaaGL83
namespace Go.GL
set_option linter.unusedVariables false
set_option linter.unusedSimpArgs false
section
variable {v k : Int} {args : List Int} {n i : Nat} {m : Made} {ms : MS}
theorem leastM_early (hi : args.length - (n + 1) = i) (h : findM k (i : Int) m ≠ none ∨ ms.full = true) : leastM v args (n + 1) k m ms = ((findM k (i : Int) m).getD 0, m, ms) := by
  unfold leastM
  rw [hi]
  cases hf : findM k (i : Int) m with
  | some x => rfl
  | none =>
    rcases h with h | h
    · exact absurd hf h
    · rw [h]; rfl
theorem leastM_or (hi : args.length - (n + 1) = i) (hf : findM k (i : Int) m = none) (hu : ms.full = false) (hk : k = 1) :
    leastM v args (n + 1) k m ms = ((gateM v 3 (args.drop i) ms).1, m ++ [((k, (i : Int)), (gateM v 3 (args.drop i) ms).1)], (gateM v 3 (args.drop i) ms).2) := by
  unfold leastM
  rw [hi, hf, hu]
  dsimp only
  rw [if_neg (by decide), if_pos hk]
theorem leastM_and (hi : args.length - (n + 1) = i) (hf : findM k (i : Int) m = none) (hu : ms.full = false) (hk : k ≠ 1) (hn : k = ((n + 1 : Nat) : Int)) :
    leastM v args (n + 1) k m ms = ((gateM v 2 (args.drop i) ms).1, m ++ [((k, (i : Int)), (gateM v 2 (args.drop i) ms).1)], (gateM v 2 (args.drop i) ms).2) := by
  unfold leastM
  rw [hi, hf, hu]
  dsimp only
  rw [if_neg (by decide), if_neg hk, if_pos hn]
theorem leastM_two (hi : args.length - (n + 1) = i) (hf : findM k (i : Int) m = none) (hu : ms.full = false) (hk : k ≠ 1) (hn : k ≠ ((n + 1 : Nat) : Int)) {r1 : Int × Made × MS} (h1 : leastM v args n (k - 1) m ms = r1) {r2 : Int × MS} (h2 : addM v ⟨2, 0, [args.getD i 0, r1.1]⟩ r1.2.2 = r2)
    {r3 : Int × Made × MS} (h3 : leastM v args n k r1.2.1 r2.2 = r3) {r4 : Int × MS} (h4 : addM v ⟨3, 0, [r2.1, r3.1]⟩ r3.2.2 = r4) :
    leastM v args (n + 1) k m ms = (r4.1, r3.2.1 ++ [((k, (i : Int)), r4.1)], r4.2) := by
  unfold leastM
  rw [hi, hf, hu]
  dsimp only
  rw [if_neg (by decide), if_neg hk, if_neg hn, h1, h2, h3, h4]
end
theorem gateM_two {v kind a b : Int} {ms : MS} : gateM v kind [a, b] ms = addM v ⟨kind, 0, [a, b]⟩ ms := if_neg (by simp)
abbrev snocM (m : Made) (k i x : Int) : Made := m ++ [((k, i), x)]
def LeastMid (v : Int) (args : List Int) (n : Nat) (k : Int) (i : Nat) (m : Made) (ms : MS) (y : BS × Int × Made × MS) : Prop :=
  y.1.ok y.2.2.2.ns ∧ findM k (i : Int) y.2.2.1 = none ∧ MadeOk y.2.2.1 ∧ leastM v args (n + 1) k m ms = (y.2.1, y.2.2.1 ++ [((k, (i : Int)), y.2.1)], y.2.2.2)
def LeastR (T TN : TypeId) (b : Nat) (v : Int) (mb : Nat) (e : Ent) (r : Int × Made × MS) (HB : List Ent) : Value → List Ent → Prop := fun u H' =>
  ∃ s' : BS, u = .int .i64 r.1 ∧ s'.ok r.2.2.ns ∧ mkE T TN b v r.2.2 s' (e :: madeEnt mb r.2.1 :: HB) = H'
theorem mkE_permB {T TN : TypeId} {b : Nat} {v : Int} {m : MS} {s : BS} {HB HC : List Ent} (h : HB.Perm HC) : Le (mkE T TN b v m s HB) (mkE T TN b v m s HC) :=
  Le.perm (List.Perm.cons _ (List.Perm.cons _ (List.Perm.append_left _ h)))
theorem mem_mkE {T TN : TypeId} {b : Nat} {v : Int} {m : MS} {s : BS} {HB : List Ent} {e : Ent} (h : e ∈ HB) : e ∈ mkE T TN b v m s HB :=
  List.Mem.tail _ (List.Mem.tail _ (List.mem_append_right _ h))
theorem Small.i64 {a : Int} (h : Small a) : I64 a := by unfold Small at h; unfold I64; omega
theorem TOps.buildArr {P : Program} {n : Nat} {S : List (Nat × Value)} {H : List Ent} {A : Array Oper} {Q : Exit → Act → World → Prop} {d T U p e rest} {parts : List (Nat × Operand)} {vs zs zs' xs : List Value} {sz y m sz' y' : Nat} {E : TypeId} {g' : Bool} (hT : P.underlying T = some (.array m E)) (ht : TI P T true zs sz y) (hE : TI P E g' zs' sz' y')
    (hp : PartsAre S parts (numb 0 vs)) (hl : Nat.beq zs.length (vs.length * sz') = true) (hcells : (vs.all fun v => Nat.beq v.cells.toList.length sz') = true) (hxs : vs.flatMap (fun v => v.cells.toList) = xs) (hn : Nat.blt d n = true)
    (h : TOps P n ((d, .agg xs.toArray) :: S) H rest A Q) : TOps P n S H (⟨some d, .build T parts.toArray, U, p, e, none⟩ :: rest) A Q :=
  TOps.pure rfl rfl hn (fun ac w hS _ => by
    obtain ⟨i, z, h1, h2, h3, h4, h5⟩ := ht.i
    have hfill := fill_seq sz' vs 0 [] zs (fun v hv => by simpa using List.all_eq_true.1 hcells v hv) (by simp) (Nat.eq_of_beq_eq_true hl)
    simp only [List.nil_append, hxs] at hfill
    have he := hp.eval hS
    have hq : (Array.map (fun x : Nat × Operand => (x.1, ac.eval x.2)) parts.toArray).toList = numb 0 vs := by simpa using he
    simp only [execOp, Instr.build, Sem.run_bind, zeroValue, typeInfo, run_program, Result.andThen_ok, h1, h2, Sem.run_pure, run_underlying hT, h3, hE.size]
    rw [hq, hfill]
    rfl) h
end Go.GL
