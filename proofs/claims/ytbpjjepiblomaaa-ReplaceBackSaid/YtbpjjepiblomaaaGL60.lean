import Derived.Test.YtbpjjepiblomaaaGL59
namespace Go.GL
set_option linter.unusedVariables false
set_option linter.unusedSimpArgs false
theorem backF_good {Fs : List Fm} : ∀ (i : Nat) (F : Fm), F.Good → (backF Fs i F).1.Good ∨ (backF Fs i F).1 = Fm.zero
  | 0, F, h => .inl h
  | i + 1, F, h => by
    rw [backF]
    cases hp : F.putErr (Fs.getD i Fm.zero) with
    | some e => exact .inr rfl
    | none => exact backF_good i _ (put_good hp)
theorem backR_good (Fs : List Fm) : (backR Fs).1.Good ∨ (backR Fs).1 = Fm.zero := by
  unfold backR
  split
  · exact .inr rfl
  · cases he : (Fs.getD (Fs.length - 1) Fm.zero).err with
    | some e => exact .inr rfl
    | none => exact backF_good _ _ ((Fm.good_iff _).1 he)
theorem small_of {G : Fm} (h : G.Good ∨ G = Fm.zero) : G.nodes.length ≤ 9223372036854775807 ∧ ∀ d ∈ G.nodes, d.args.length ≤ 9223372036854775807 := by
  rcases h with h | rfl
  · exact ⟨h.ok.2.2.2, fun d hd => (h.ok.2.2.1 d hd).2.2.2⟩
  · exact ⟨by simp [Fm.zero], fun d hd => by simp [Fm.zero] at hd⟩
theorem levF_good : ∀ (n : Nat) (F : Fm) (acc : List Fm), F.Good → (∀ x ∈ acc, x.Good) → ∀ x ∈ (levF n F acc).1, x.Good
  | 0, F, acc, h, ha, x, hx => by
    rw [levF] at hx
    rcases List.mem_append.1 hx with hx | hx
    · exact ha x hx
    · rw [List.mem_singleton] at hx; subst hx; exact h
  | n + 1, F, acc, h, ha, x, hx => by
    rw [levF] at hx
    cases hp : F.proper with
    | nil =>
      rw [hp] at hx
      rcases List.mem_append.1 hx with hx | hx
      · exact ha x hx
      · rw [List.mem_singleton] at hx; subst hx; exact h
    | cons p r =>
      rw [hp] at hx
      dsimp only at hx
      have hpc := proper_cut h (p := p) (by rw [hp]; exact List.mem_cons_self)
      rcases hpc with ⟨_, hc⟩ | ⟨_, hc, h1, h2, _⟩
      · rw [hc] at hx; simp at hx
      · rw [hc] at hx
        refine levF_good n _ _ h1 (fun y hy => ?_) x hx
        rcases List.mem_append.1 hy with hy | hy
        · exact ha y hy
        · rw [List.mem_singleton] at hy; subst hy; exact h2
theorem levF_len : ∀ (n : Nat) (F : Fm) (acc : List Fm), (levF n F acc).1.length ≤ acc.length + n + 1
  | 0, F, acc => by rw [levF]; simp
  | n + 1, F, acc => by
    rw [levF]
    split
    · simp
    · split
      · simp
      · have := levF_len n (F.outF (‹Nat› : Int)) (acc ++ [F.inF (‹Nat› : Int)])
        simp only [List.length_append, List.length_singleton] at this
        omega
def levR (F : Fm) : List Fm × Option Int := match F.err with | some e => ([], some e) | none => levF (25 - F.vars.toNat) F []
theorem heavyFs_len {Fs : List Fm} (h : heavyFs Fs = false) : Fs.length ≤ 30 := by
  unfold heavyFs at h
  simp at h
  exact h.2
end Go.GL
