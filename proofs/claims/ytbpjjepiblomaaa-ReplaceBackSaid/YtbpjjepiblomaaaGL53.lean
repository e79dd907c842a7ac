import Derived.Test.YtbpjjepiblomaaaGL52
namespace Go.GL
set_option linter.unusedVariables false
set_option linter.unusedSimpArgs false
theorem Fm.putF_small {O I : Fm} (hO : O.ok) (hI : I.ok) : (O.putF I).nodes.length ≤ 9223372036854775807 ∧ ∀ d ∈ (O.putF I).nodes, d.args.length ≤ 9223372036854775807 := by
  unfold Fm.putF
  cases hp : (O.putErr I).isNone with
  | false => exact ⟨by simp [Fm.zero], fun d hd => by simp [Fm.zero] at hd⟩
  | true =>
    have hp' : O.putErr I = none := by simpa using hp
    unfold Fm.putErr at hp'
    cases h1 : O.err with
    | some e => rw [h1] at hp'; cases hp'
    | none =>
      cases h2 : I.err with
      | some e => rw [h1, h2] at hp'; cases hp'
      | none =>
        have g1 := ((Fm.good_iff O).1 h1).n1
        have g2 := ((Fm.good_iff I).1 h2).n1
        simp only [cond_true, Fm.put]
        refine ⟨by simp; omega, fun d hd => ?_⟩
        rw [List.mem_append, List.mem_map] at hd
        rcases hd with hd | ⟨x, hx, rfl⟩
        · exact (hI.2.2.1 d hd).2.2.2
        · simpa [trN, trA_length] using (hO.2.2.1 x hx).2.2.2
def RFs (H : List Ent) (a : Option Nat) (off : Nat) (Fs : List Fm) (sp : Option Nat := none) : Prop :=
  Fs = [] ∨ ∃ b, a = some b ∧ sp = none ∧ ∀ (i : Nat) (hi : i < Fs.length), ∃ na no nc ns, Rd H b (off + i * 3) [.int .i64 Fs[i].vars, slV na no Fs[i].nodes.length nc ns, .int .i64 Fs[i].top] ∧ RNodes H na no Fs[i].nodes ns
theorem RFs.le {H H' : List Ent} {a : Option Nat} {off : Nat} {Fs : List Fm} {sp : Option Nat} (h : RFs H a off Fs sp) (hl : Le H' H) : RFs H' a off Fs sp := by
  rcases h with h | ⟨b, h1, h2, h3⟩
  · exact .inl h
  · exact .inr ⟨b, h1, h2, fun i hi => by obtain ⟨na, no, nc, ns, h4, h5⟩ := h3 i hi; exact ⟨na, no, nc, ns, h4.le hl, h5.le hl⟩⟩
theorem RFs.at {H : List Ent} {a : Option Nat} {off : Nat} {Fs : List Fm} {sp : Option Nat} (h : RFs H a off Fs sp) {i : Nat} (hi : i < Fs.length) :
    ∃ b na no nc ns, a = some b ∧ sp = none ∧ Rd H b (off + i * 3) [.int .i64 Fs[i].vars, slV na no Fs[i].nodes.length nc ns, .int .i64 Fs[i].top] ∧ RNodes H na no Fs[i].nodes ns := by
  rcases h with h | ⟨b, h1, h2, h3⟩
  · subst h; simp at hi
  · obtain ⟨na, no, nc, ns, h4, h5⟩ := h3 i hi
    exact ⟨b, na, no, nc, ns, h1, h2, h4, h5⟩
def heavyFs (Fs : List Fm) : Bool := Fs.any Fm.heavy || decide (30 < Fs.length)
theorem RFs.two {H : List Ent} {b no nc mo mc : Nat} {ns ms : Option Nat} {na' ma' : Option Nat} {F G : Fm} {cap E : Nat}
    (hm : row (some b) E 3 cap [.int .i64 F.vars, slV na' no F.nodes.length nc ns, .int .i64 F.top, .int .i64 G.vars, slV ma' mo G.nodes.length mc ms, .int .i64 G.top] ∈ H) (hF : RNodes H na' no F.nodes ns) (hG : RNodes H ma' mo G.nodes ms) : RFs H (some b) 0 [F, G] := by
  refine .inr ⟨b, rfl, rfl, fun i hi => ?_⟩
  have hr := Rd.all hm
  rcases i with _ | _ | i
  · refine ⟨na', no, nc, ns, ?_, hF⟩
    intro w hw j v hj
    refine hr w hw j v ?_
    rcases j with _ | _ | _ | j <;> first | exact hj | (simp at hj)
  · refine ⟨ma', mo, mc, ms, ?_, hG⟩
    intro w hw j v hj
    have := hr w hw (3 + j) v (by rcases j with _ | _ | _ | j <;> first | exact hj | (simp at hj))
    simpa [Nat.add_assoc] using this
  · simp at hi; omega
end Go.GL
