import Derived.Test.YtffghipagnjggaaGL87
namespace Go.GL
set_option linter.unusedVariables false
set_option linter.unusedSimpArgs false
theorem nodup_lt : ∀ (N : Nat) (l : List Nat), l.Nodup → (∀ x ∈ l, x < N) → l.length ≤ N
  | 0, l, _, h => by
    cases l with
    | nil => simp
    | cons a r => have := h a (by simp); omega
  | N + 1, l, hn, h => by
    by_cases hm : N ∈ l
    · have h1 := nodup_lt N (l.erase N) (hn.erase N) (fun x hx => by
        have h2 := (hn.mem_erase_iff).1 hx
        have := h x h2.2
        have := h2.1
        omega)
      rw [List.length_erase_of_mem hm] at h1
      omega
    · have := nodup_lt N l hn (fun x hx => by
        have := h x hx
        have : x ≠ N := fun e => hm (e ▸ hx)
        omega)
      omega
def MadeB (m : Made) : Prop := ∀ q ∈ m, 0 ≤ q.1.1 ∧ q.1.1 ≤ 31 ∧ 0 ≤ q.1.2 ∧ q.1.2 ≤ 31
theorem MadeB.snoc {m : Made} (h : MadeB m) {k i x : Int} (hk : 0 ≤ k ∧ k ≤ 31) (hi : 0 ≤ i ∧ i ≤ 31) : MadeB (m ++ [((k, i), x)]) := by
  intro q hq
  rcases List.mem_append.1 hq with hq | hq
  · exact h q hq
  · obtain rfl := List.mem_singleton.1 hq
    exact ⟨hk.1, hk.2, hi.1, hi.2⟩
theorem MadeB.len {m : Made} (h : MadeB m) (hu : MadeU m) : m.length ≤ 1024 := by
  have := nodup_lt 1024 (m.map fun q => q.1.1.toNat * 32 + q.1.2.toNat) ?_ ?_
  · simpa using this
  · unfold List.Nodup
    rw [List.pairwise_map]
    refine List.Pairwise.imp_of_mem ?_ hu
    intro p q hp hq hne e
    have h1 := h p hp
    have h2 := h q hq
    refine hne (Prod.ext ?_ ?_) <;> omega
  · intro x hx
    obtain ⟨q, hq, rfl⟩ := List.mem_map.1 hx
    have := h q hq
    omega
theorem leastM_b {v : Int} {args : List Int} (hl : args.length ≤ 16) : ∀ (n : Nat), n ≤ args.length → ∀ (k : Int) (m : Made) (s : MS), 1 ≤ k → k ≤ n → MadeB m → MadeB (leastM v args n k m s).2.1
  | 0, hn, k, m, s, hk, hk2, hm => hm
  | n + 1, hn, k, m, s, hk, hk2, hm => by
    have hkB : 0 ≤ k ∧ k ≤ 31 := by omega
    have hiB : (0 : Int) ≤ ((args.length - (n + 1) : Nat) : Int) ∧ ((args.length - (n + 1) : Nat) : Int) ≤ 31 := by omega
    cases hf : findM k ((args.length - (n + 1) : Nat) : Int) m with
    | some x => rw [leastM_early rfl (.inl (by rw [hf]; simp))]; exact hm
    | none =>
      cases hu : s.full with
      | true => rw [leastM_early rfl (.inr hu)]; exact hm
      | false =>
        by_cases h1 : k = 1
        · rw [leastM_or rfl hf hu h1]; exact hm.snoc hkB hiB
        · by_cases h2 : k = ((n + 1 : Nat) : Int)
          · rw [leastM_and rfl hf hu h1 h2]; exact hm.snoc hkB hiB
          · rw [leastM_two rfl hf hu h1 h2 rfl rfl rfl rfl]
            exact (leastM_b hl n (by omega) k _ _ (by omega) (by omega) (leastM_b hl n (by omega) (k - 1) m s (by omega) (by omega) hm)).snoc hkB hiB
def plC (q : (Int × Int) × Int) : List Value := [.int .i64 q.1.1, .int .i64 q.1.2, .int .i64 q.2]
def places (m : Made) : List Value := m.flatMap plC
theorem places_length (m : Made) : (places m).length = m.length * 3 := by
  induction m with
  | nil => rfl
  | cons q r ih => unfold places at ih ⊢; rw [List.flatMap_cons, List.length_append, ih]; simp [plC]; omega
theorem places_snoc (m : Made) (q : (Int × Int) × Int) : places (m ++ [q]) = places m ++ plC q := by simp [places]
theorem places_get : ∀ (m : Made) (i : Nat) (q : (Int × Int) × Int), m[i]? = some q → ∀ j v, (plC q)[j]? = some v → (places m)[i * 3 + j]? = some v
  | [], i, q, h, j, v, _ => by simp at h
  | p :: r, 0, q, h, j, v, hj => by
    simp at h
    subst h
    have hjl : j < (plC p).length := (List.getElem?_eq_some_iff.1 hj).1
    show (plC p ++ places r)[0 * 3 + j]? = some v
    rw [Nat.zero_mul, Nat.zero_add, List.getElem?_append_left hjl]
    exact hj
  | p :: r, i + 1, q, h, j, v, hj => by
    have ih := places_get r i q (by simpa using h) j v hj
    show (plC p ++ places r)[(i + 1) * 3 + j]? = some v
    rw [List.getElem?_append_right (by simp [plC]; omega), show (i + 1) * 3 + j - (plC p).length = i * 3 + j by simp [plC]; omega]
    exact ih
theorem findM_at {k i : Int} : ∀ (m : Made) (j : Nat) (hj : j < m.length), (∀ q ∈ m.take j, ¬ (q.1.1 = k ∧ q.1.2 = i)) → m[j].1.1 = k ∧ m[j].1.2 = i → findM k i m = some m[j].2
  | q :: r, 0, _, _, h => by have h' : q.1.1 = k ∧ q.1.2 = i := h; unfold findM; rw [if_pos h']; rfl
  | q :: r, j + 1, hj, h0, h => by
    unfold findM
    rw [if_neg (h0 q (by simp))]
    exact findM_at r j (by simpa using hj) (fun p hp => h0 p (by simp [hp])) h
def RVoteR (T TN PT PS : TypeId) (b : Nat) (v : Int) (pb : Nat) (r : Int × Made × MS) (HB : List Ent) : Value → List Ent → Prop := fun u H' =>
  ∃ (s' : BS) (qa : Option Nat) (qc : Nat), u = .int .i64 r.1 ∧ s'.ok r.2.2.ns ∧ (r.2.1 ≠ [] → ∃ b, qa = some b) ∧ mkE T TN b v r.2.2 s' (row (some pb) PS 1 1 [slV qa 0 r.2.1.length qc] :: row qa PT 3 qc (places r.2.1) :: HB) = H'
def RMid (v : Int) (args : List Int) (n : Nat) (k : Int) (i : Nat) (m : Made) (ms : MS) (y : (BS × Option Nat × Nat) × Int × Made × MS) : Prop :=
  y.1.1.ok y.2.2.2.ns ∧ (y.2.2.1 ≠ [] → ∃ b, y.1.2.1 = some b) ∧ MadeB y.2.2.1 ∧ MadeU y.2.2.1 ∧ leastM v args (n + 1) k m ms = (y.2.1, y.2.2.1 ++ [((k, (i : Int)), y.2.1)], y.2.2.2)
theorem take_none {k i : Int} {m : Made} (h : ∀ q ∈ m, ¬ (q.1.1 = k ∧ q.1.2 = i)) : findM k i m = none := findM_none m h
theorem take_hit {k i : Int} {m : Made} {j : Nat} (hj : j < m.length) (h : ∀ q ∈ m.take j, ¬ (q.1.1 = k ∧ q.1.2 = i)) (h1 : ¬ (m[j].1.1 = k ∧ m[j].1.2 = i)) : ∀ q ∈ m.take (j + 1), ¬ (q.1.1 = k ∧ q.1.2 = i) :=
  ball_take_succ hj h h1
end Go.GL
