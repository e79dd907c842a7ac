import Derived.Test.YtlgjmebebhpolaaGL18
namespace Go.GL
set_option linter.unusedVariables false
section
variable {P : Program} {n : Nat} {S : List (Nat × Value)} {H : List Ent} {A : Array Oper} {Q : Exit → Act → World → Prop}
def ExitTo (n : Nat) (S : List (Nat × Value)) (H : List Ent) (id : Nat) (Q : Exit → Act → World → Prop) : Prop := ∀ a w, Sl n S a → Mem H w → Q (.exit id) a w
theorem Tri.exitTo {id : Nat} (h : ExitTo n S H id Q) : Tri P n S H (.exit id) Q := Tri.exit h
theorem ExitTo.seq {id : Nat} {K : Act → World → Prop} (h : ExitTo n S H id Q) : ExitTo n S H id (Exit.then K Q) := h
theorem ExitTo.blk {id : Nat} (h : Nrm n S H Q) : ExitTo n S H id (Exit.inBlock id Q) := fun a w h1 h2 => by
  simp only [Exit.inBlock, if_true]; exact h a w h1 h2
theorem ExitTo.blkNe {id id' : Nat} (hne : Nat.beq id id' = false) (h : ExitTo n S H id Q) : ExitTo n S H id (Exit.inBlock id' Q) := fun a w h1 h2 => by
  have : id ≠ id' := fun e => by subst e; simp at hne
  simp only [Exit.inBlock, if_neg this]; exact h a w h1 h2
theorem ExitTo.loop {X : Type} {id : Nat} {Sx : X → List (Nat × Value)} {Hx : X → List Ent} {p : X → Prop} {μ : X → Nat} {x : X} (h : ExitTo n S H id Q) : ExitTo n S H id (LoopQ n Sx Hx p μ x Q) := h
section
variable {X : Type} {id id2 ti tn m k : Nat} {Sx : X → Nat → List (Nat × Value)} {Hx : X → Nat → List Ent} {p : X → Nat → Prop}
theorem ExitTo.body (h : Nrm n S H (BodyQ n id id2 ti tn m k Sx Hx p Q)) : ExitTo n S H id2 (BodyQ n id id2 ti tn m k Sx Hx p Q) := fun a w h1 h2 => by
  simp only [BodyQ, if_true]; exact h a w h1 h2
theorem ExitTo.brk (hne : Nat.beq id id2 = false) (h : Nrm n S H Q) : ExitTo n S H id (BodyQ n id id2 ti tn m k Sx Hx p Q) := fun a w h1 h2 => by
  have : id ≠ id2 := fun e => by subst e; simp at hne
  simp only [BodyQ, if_neg this, if_true]; exact h a w h1 h2
theorem ExitTo.bodyNe {j : Nat} (hne : Nat.beq j id2 = false) (hne2 : Nat.beq j id = false) (h : ExitTo n S H j Q) : ExitTo n S H j (BodyQ n id id2 ti tn m k Sx Hx p Q) := fun a w h1 h2 => by
  have h3 : j ≠ id2 := fun e => by subst e; simp at hne
  have h4 : j ≠ id := fun e => by subst e; simp at hne2
  simp only [BodyQ, if_neg h3, if_neg h4]; exact h a w h1 h2
end
end
end Go.GL
