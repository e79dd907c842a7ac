import Derived.Test.YtbpjjepiblomaaaGL53
namespace Go.GL
set_option linter.unusedVariables false
set_option linter.unusedSimpArgs false
def chT (c1 c2 : Bool) (a vars : Nat) (d : Nd) (to : List Nat) (no : List Nd) : List Nat × List Nd :=
  match c1, c2 with
  | true, true => (((to.set a a).set a (vars + no.length)).set a (vars - 1), no ++ [trN (to.set a a) d])
  | true, false => ((to.set a a).set a (vars + no.length), no ++ [trN (to.set a a) d])
  | false, true => ((to.set a a).set a (vars - 1), no)
  | false, false => (to.set a a, no)
theorem chS_step {keep : List Bool} {v vars : Nat} {sp : Int} {nodes : List Nd} {a : Nat} {to : List Nat} {no : List Nd} {d : Nd} (h : chS keep v vars sp nodes a = (to, no)) {c1 c2 : Bool}
    (h1 : (decide (v ≤ a) && keep.getD (a - v) false) = c1) (h2 : decide ((a : Int) = sp) = c2) (hd : c1 = true → nodes.getD (a - v) ⟨0, 0, []⟩ = d) : chS keep v vars sp nodes (a + 1) = chT c1 c2 a vars d to no := by
  rw [chS, h]
  dsimp only
  rw [h1, h2]
  cases c1 with
  | true => rw [hd rfl]; cases c2 <;> rfl
  | false => cases c2 <;> rfl
theorem take_fillB {l : List Bool} {k n : Nat} {x : Bool} (hn : l.length = n) (hk : k < n) (hx : l.getD k false = x) : (l.take k ++ List.replicate (n - k) false).set k x = l.take (k + 1) ++ List.replicate (n - (k + 1)) false := by
  have hl : (l.take k).length = k := by rw [List.length_take]; omega
  have hk' : k < l.length := by omega
  rw [List.set_append_right _ _ (by omega), hl, Nat.sub_self, show n - k = (n - (k + 1)) + 1 by omega, List.replicate_succ, List.take_succ_eq_append_getElem hk']
  rw [List.getD_eq_getElem?_getD, List.getElem?_eq_getElem hk'] at hx
  simp at hx
  simp [hx]
theorem bools_set' (l : List Bool) (k : Nat) (b : Bool) : bools (l.set k b) = (bools l).set k (.bool b) := List.map_set
theorem Le.midB {N H : List Ent} {a b : Ent} : Le (N ++ (a :: b :: H)) (a :: b :: (N ++ H)) := Le.perm (List.perm_middle.trans (List.Perm.cons _ List.perm_middle))
theorem Le.midC {N H : List Ent} {a b c : Ent} : Le (N ++ (a :: b :: c :: H)) (a :: b :: c :: (N ++ H)) := Le.perm (List.perm_middle.trans (List.Perm.cons _ (List.perm_middle.trans (List.Perm.cons _ List.perm_middle))))
def NewN (G : Fm) (H : List Ent) : Value → List Ent → Prop := fun u H' => ∃ a cap N, u = .agg (List.toArray [.int .i64 G.vars, slV a 0 G.nodes.length cap, .int .i64 G.top]) ∧ RNodes N a 0 G.nodes ∧ N ++ H = H'
theorem Fm.keepIn_length (F : Fm) (t : Nat) : (F.keepIn t).length = F.nodes.length := by simp [Fm.keepIn]
theorem Fm.keepOut_length (F : Fm) (t : Nat) : (F.keepOut t).length = F.nodes.length := by simp [Fm.keepOut]
theorem Fm.cutErr_good {F : Fm} {arg : Int} (h : F.cutErr arg = none) : F.Good := by
  unfold Fm.cutErr at h
  cases hi : F.isErr arg with
  | some e => rw [hi] at h; cases h
  | none => exact (Fm.good_iff F).1 (Fm.isErr_none hi).1
theorem Fm.cut_small (F : Fm) (arg : Int) : ((F.outF arg).nodes.length ≤ 9223372036854775807 ∧ ∀ d ∈ (F.outF arg).nodes, d.args.length ≤ 9223372036854775807) ∧ ((F.inF arg).nodes.length ≤ 9223372036854775807 ∧ ∀ d ∈ (F.inF arg).nodes, d.args.length ≤ 9223372036854775807) := by
  unfold Fm.outF Fm.inF
  cases hc : F.cutErr arg with
  | some e => exact ⟨⟨by simp [Fm.zero], fun d hd => by simp [Fm.zero] at hd⟩, ⟨by simp [Fm.zero], fun d hd => by simp [Fm.zero] at hd⟩⟩
  | none =>
    have hg := Fm.cutErr_good hc
    have g2 := hg.n1
    have hl := cutS_len (P := F.part arg.toNat) (B := F.below) (v := F.vars.toNat) (nodes := F.nodes) F.nodes.length
    have ha := cutS_args (P := F.part arg.toNat) (B := F.below) (v := F.vars.toNat) (nodes := F.nodes) (fun i hi => (hg.fits i hi).len) F.nodes.length (Nat.le_refl _)
    simp only [Option.isNone_none, cond_true, Fm.outer, Fm.inner, Fm.cutK]
    exact ⟨⟨by omega, fun d hd => by have := ha.2 d hd; omega⟩, ⟨by omega, fun d hd => by have := ha.1 d hd; omega⟩⟩
end Go.GL
