import Derived.Test.YtlgjmebebhpolaaGL17
namespace Go.GL
set_option linter.unusedVariables false
theorem Fm.nodeVals_getD (F : Fm) (z : Int) (i : Nat) : (F.nodeVals z).getD i false = F.val z (F.vars.toNat + i) := by
  unfold Fm.nodeVals Fm.val
  rw [List.getD_eq_getElem?_getD, List.getElem?_drop, List.getD_eq_getElem?_getD]
theorem cntOf_take_succ {f : Nat → Bool} {l : List Int} {k : Nat} (hk : k < l.length) :
    cntOf f (l.take (k + 1)) = cntOf f (l.take k) + (if f l[k].toNat then 1 else 0) := by
  unfold cntOf
  rw [List.take_succ_eq_append_getElem hk, List.countP_append]
  simp [List.countP_cons, List.countP_nil]
theorem iand_one {c : Nat} (h : c < 9223372036854775808) : iand (c : Int) 1 = ((c % 2 : Nat) : Int) := by
  rw [show (1 : Int) = ((1 : Nat) : Int) from rfl, iand_nat h (by decide), Nat.and_one_is_mod]
def wantOf (d : Nd) (yes no : Nat) : Bool :=
  if d.kind = 0 then decide (d.k = 1) else if d.kind = 1 then decide ((no : Int) = 1) else if d.kind = 2 then decide ((no : Int) = 0)
  else if d.kind = 3 then decide (0 < (yes : Int)) else if d.kind = 4 then decide (d.k ≤ yes) else decide (iand (yes : Int) 1 = 1)
theorem wantOf_eq {d : Nd} {m : Int} {yes no : Nat} (hf : d.Fits m) (h : yes + no = d.args.length) : wantOf d yes no = nodeVal d yes := by
  have hl := hf.len
  have har := hf.ar
  have h0 := hf.k0; have h5 := hf.k1
  unfold wantOf nodeVal
  split
  · rfl
  · split
    · rename_i _ h1
      unfold argsB at har
      rw [if_neg (by omega), if_pos h1] at har
      simp at har
      simp
      omega
    · split
      · simp; omega
      · split
        · rfl
        · split
          · rfl
          · rw [if_pos (by omega), iand_one (by omega)]
            have : ((yes : Int).tmod 2) = ((yes % 2 : Nat) : Int) := by norm_cast
            rw [this]
theorem argVal {F : Fm} (hg : F.Good) (z : Int) {a : Int} (h0 : 0 ≤ a) :
    (decide (a < F.vars) && decide (iand (ishr z a.toNat) 1 = 1) || decide (F.vars ≤ a) && (F.nodeVals z).getD (a - F.vars).toNat false) = F.val z a.toNat := by
  have g0 := hg.v0
  by_cases h : a < F.vars
  · rw [F.val_event z (by omega), decide_eq_true h, decide_eq_false (show ¬ F.vars ≤ a by omega)]
    simp [bitB]
  · rw [F.nodeVals_getD, decide_eq_false h, decide_eq_true (show F.vars ≤ a by omega), show F.vars.toNat + (a - F.vars).toNat = a.toNat by omega]
    simp
end Go.GL
