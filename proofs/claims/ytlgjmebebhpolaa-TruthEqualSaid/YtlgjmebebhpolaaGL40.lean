import Derived.Test.YtlgjmebebhpolaaGL39
namespace Go.GL
theorem DifAt.uniq {F G : Fm} {z z' : Int} (h : DifAt F G z) (h' : DifAt F G z') : z = z' := by
  rcases h with ⟨h1, h2⟩ | ⟨s, h1, h2, h3, h4⟩ <;> rcases h' with ⟨g1, g2⟩ | ⟨t, g1, g2, g3, g4⟩
  · rw [h1, g1]
  · exact absurd (h2 t g2) g3
  · exact absurd (g2 s h2) h3
  · rcases Nat.lt_trichotomy s t with h | h | h
    · exact absurd (g4 s h) h3
    · rw [h1, g1, h]
    · exact absurd (h4 t h) g3
end Go.GL
