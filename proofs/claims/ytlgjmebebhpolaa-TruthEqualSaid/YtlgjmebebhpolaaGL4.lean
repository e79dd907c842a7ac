import Derived.Test.YtlgjmebebhpolaaGL3
namespace Go.GL
set_option linter.unusedVariables false
set_option linter.unusedSimpArgs false
section
variable {P : Program} {n : Nat} {S : List (Nat × Value)} {H : List Ent} {A : Array Oper} {Q : Exit → Act → World → Prop}
theorem addr_add (b off i : Nat) : (⟨b, off, none⟩ : Addr).add i = ⟨b, off + i, none⟩ := by
  by_cases h0 : i = 0 <;> simp [Addr.add, h0]
theorem run_append_empty (w : World) (t ty E : TypeId) {zs : List Value} {g : Bool} {sz y : Nat} (hs : P.underlying t = some (.slice E)) (ht : TI P E g zs sz y) (a : Option Nat) (m cap c2 : Nat) (hm : m ≤ cap) :
    (Builtin.append_ #[t, t] ty #[slV a 0 m cap, .slice none 0 c2]).run P w = .ok (slV a 0 m cap) w := by
  cases a with
  | none => simp [Builtin.append_, run_underlying hs, ht.size, Builtin.lenOf, Builtin.firstCells, slV, hm]
  | some b => simp [Builtin.append_, run_underlying hs, ht.size, Builtin.lenOf, Builtin.firstCells, slV, hm, storeCells]
structure Appended (P : Program) (w : World) (t ty E sz cap : Nat) (a : Option Nat) (m m2 : Nat) (xs ys : List Value) (yv : Value) (a' : Option Nat) (cap' : Nat) (w' : World) : Prop where
  run : (Builtin.append_ #[t, t] ty #[slV a 0 m cap, yv]).run P w = .ok (slV a' 0 (m + m2) cap') w'
  ok : (row a' E sz cap' (xs ++ ys)).ok w'
  turn : Turn (fun k => a = some k) w w'
  new : ∀ k, a' = some k → a = some k ∨ w.heap.size ≤ k
  lt : ∀ k, a' = some k → k < w'.heap.size
  isSome : ys ≠ [] → ∃ b, a' = some b
theorem run_append (w : World) (t ty : Nat) {E : Nat} {zs : List Value} {g : Bool} {sz y : Nat} (hs : P.underlying t = some (.slice E)) (ht : TI P E g zs sz y) (hsz : 0 < sz)
    {a : Option Nat} {m cap m2 : Nat} {xs ys : List Value} (hok : (row a E sz cap xs).ok w) (hlt : ∀ k, a = some k → k < w.heap.size) (hxl : xs.length = m * sz) (hyl : ys.length = m2 * sz)
    (h1 : ∀ u ∈ ys, u.oneCell' = true) (hb : (m + m2) * y ≤ 140737488355328) (h63 : m + m2 ≤ 9223372036854775807)
    {a2 sp2 : Option Nat} {off2 c2 : Nat} (hr : ys = [] ∨ ∃ b, a2 = some b ∧ sp2 = none ∧ ∀ j v, ys[j]? = some v → w.cell? ⟨b, off2 + j, none⟩ = some v) :
    ∃ a' cap' w', Appended P w t ty E sz cap a m m2 xs ys (slV a2 off2 m2 c2 sp2) a' cap' w' := by
  have h63m : m + m2 ≤ maxLen := by simp only [maxLen]; omega
  have hmc : m ≤ cap := by
    cases a with
    | none =>
      obtain ⟨rfl, rfl⟩ := hok
      have : m = 0 := by
        rcases Nat.eq_zero_or_pos m with h | h
        · exact h
        · have := Nat.mul_pos h hsz; simp at hxl; omega
      omega
    | some b =>
      obtain ⟨sp, _, h3, _⟩ := hok
      have : m * sz ≤ cap * sz := by omega
      exact Nat.le_of_mul_le_mul_right this hsz
  have hstill : ∀ c2', m2 = 0 → ∃ a' cap' w', Appended P w t ty E sz cap a m m2 xs ys (.slice none 0 c2') a' cap' w' := by
    intro c2' h0
    subst h0
    have hy0 : ys = [] := List.eq_nil_of_length_eq_zero (by simpa using hyl)
    subst hy0
    exact ⟨a, cap, w, run_append_empty w t ty E hs ht a m cap c2' hmc, by simpa using hok, ⟨rfl, rfl, rfl, Nat.le_refl _, fun _ _ _ => rfl⟩, fun k hk => .inl hk, hlt, fun h => absurd rfl h⟩
  cases a2 with
  | none =>
    have hy0 : ys = [] := by
      rcases hr with h | ⟨b, h, _, _⟩
      · exact h
      · cases h
    have h0 : m2 = 0 := by
      rcases Nat.eq_zero_or_pos m2 with h | h
      · exact h
      · have := Nat.mul_pos h hsz; subst hy0; simp at hyl; omega
    have := hstill c2 h0
    rw [h0] at *
    exact this
  | some b2 =>
    have hnews : ∀ j u, ys[j]? = some u → w.cell? ((⟨b2, off2, sp2⟩ : Addr).add j) = some u := by
      intro j u hj
      rcases hr with h | ⟨b, h, hsp, h2⟩
      · subst h; simp at hj
      · cases h; subst hsp; rw [addr_add]; exact h2 j u hj
    obtain ⟨i, z, i1, i2, i3, i4, i5⟩ := ht.i
    have hyl' : ys.length = m2 * i.size := by rw [i4]; exact hyl
    have hxl' : xs.length = m * i.size := by rw [i4]; exact hxl
    have hzs : z.cells.size = sz := by simp [i3, ht.zs]
    have grown : ∀ old, old < m + m2 → (row (some w.heap.size) E sz (grownCap w (m + m2) old E) (xs ++ ys)).ok
        (w.drew.alloc (.cells (xs.toArray ++ ys.toArray ++ Builtin.zeroCells z.cells (grownCap w (m + m2) old E - (m + m2))) E)) := by
      intro old ho
      have hge := grownCap_ge w (m + m2) old E
      have hcm := grownCap_le_maxLen w (m + m2) old E h63m
      refine ⟨(Builtin.zeroCells z.cells (grownCap w (m + m2) old E - (m + m2))).toList, ?_, ?_, by simpa [maxLen] using hcm⟩
      · have := heap_alloc_new w.drew (.cells (xs.toArray ++ ys.toArray ++ Builtin.zeroCells z.cells (grownCap w (m + m2) old E - (m + m2))) E)
        simp only [World.size_drew] at this
        rw [this]
        congr 2
        apply Array.toList_inj.1
        simp
      · simp only [List.length_append, Array.length_toList, size_zeroCells, hzs, hxl, hyl, ← Nat.add_mul]
        congr 1
        omega
    have tn : ∀ o, Turn (fun k => a = some k) w (w.drew.alloc o) := fun o =>
      ⟨rfl, rfl, rfl, by simp, fun k hk _ => Go.RowKit.Below.heap_alloc w.drew o k (by simpa using hk)⟩
    cases a with
    | none =>
      obtain ⟨rfl, rfl⟩ := hok
      have hm0 : m = 0 := by omega
      subst hm0
      rcases Nat.eq_zero_or_pos m2 with h0 | hp
      · subst h0
        have hy0 : ys = [] := List.eq_nil_of_length_eq_zero (by simpa using hyl)
        subst hy0
        refine ⟨none, 0, w, ?_, ⟨rfl, rfl⟩, ⟨rfl, rfl, rfl, Nat.le_refl _, fun _ _ _ => rfl⟩, (fun k hk => by cases hk), (fun k hk => by cases hk), fun h => absurd rfl h⟩
        simp [Builtin.append_, run_underlying hs, sizeOf, typeInfo, i1, Builtin.lenOf, Builtin.firstCells, slV, loadCells, loadCellsFrom]
      · have hrn := run_append_nil (P := P) w t ty E i z hs i1 i2 ⟨b2, off2, sp2⟩ m2 c2 ys hyl' hnews hp (by omega) (by rw [i5]; simp at hb; omega)
        have hg := grown 0 (by omega)
        simp only [Nat.zero_add, List.nil_append] at hg hrn ⊢
        refine ⟨some w.heap.size, _, _, ?_, hg, tn _, (fun k hk => .inr (by cases hk; exact Nat.le_refl _)), (fun k hk => by cases hk; simp), fun _ => ⟨_, rfl⟩⟩
        simpa [slV] using hrn
    | some b =>
      obtain ⟨sp, g1, g2, g3⟩ := hok
      have hbl := hlt b rfl
      rcases Nat.lt_or_ge cap (m + m2) with hg | hroom
      · have holds : ∀ j v, xs[j]? = some v → w.cell? ((⟨b, 0, none⟩ : Addr).add j) = some v := by
          intro j v hj
          rw [addr_add, cell?_row g1, Nat.zero_add, List.getElem?_append_left (List.getElem?_eq_some_iff.1 hj).1]
          exact hj
        have hrg := run_append_grow (P := P) w t ty E i z hs i1 i2 ⟨b, 0, none⟩ m cap xs hxl' holds ⟨b2, off2, sp2⟩ m2 c2 ys hyl' hnews hg (by omega) (by rw [i5]; exact growslice_fits hg hb)
        refine ⟨some w.heap.size, _, _, ?_, grown cap hg, tn _, (fun k hk => .inr (by cases hk; exact Nat.le_refl _)), (fun k hk => by cases hk; simp), fun _ => ⟨_, rfl⟩⟩
        simpa [slV] using hrg
      · have hfit : m * i.size + ys.length ≤ (xs ++ sp).toArray.size := by
          rw [hyl', i4, ← Nat.add_mul]
          simp only [List.size_toArray, List.length_append, g2]
          exact Nat.mul_le_mul_right _ hroom
        have hrr := run_append_room (P := P) w t ty E i hs i1 b m cap (xs ++ sp).toArray g1 ⟨b2, off2, sp2⟩ m2 c2 ys hyl' hnews h1 hroom hfit
        refine ⟨some b, cap, w.setRow b ((xs ++ sp).toArray.toList.take (m * i.size) ++ ys ++ (xs ++ sp).toArray.toList.drop (m * i.size + ys.length)).toArray, (by simpa [slV] using hrr), ⟨(sp.drop ys.length), ?_, ?_, g3⟩, ⟨rfl, rfl, rfl, by simp, fun k _ hk => setRow_other w b k _ (fun e => hk (by simp [e]))⟩, (fun k hk => .inl hk), (fun k hk => ?_), fun _ => ⟨_, rfl⟩⟩
        · rw [setRow_heap w b _ _ E _ g1, ← hxl']
          simp only [List.take_left, List.append_assoc]
          congr 4
          rw [List.drop_append, List.drop_of_length_le (by omega)]
          simp
        · simp only [List.length_append, List.length_drop]
          simp only [List.size_toArray, List.length_append] at hfit
          omega
        · cases hk
          simpa using hbl
theorem TOps.append {d x yo t U p e rest} {a a2 sp2 : Option Nat} {m cap off2 m2 c2 E : Nat} {zs xs ys : List Value} {g : Bool} {sz y : Nat} {H' : Option Nat → Nat → List Ent}
    (hx : opv S x = some (slV a 0 m cap)) (hy : opv S yo = some (slV a2 off2 m2 c2 sp2)) (hs : P.underlying t = some (.slice E)) (ht : TI P E g zs sz y) (hsz : Nat.blt 0 sz = true) (hu : ∀ a' cap', Upd H (row a E sz cap xs) (row a' E sz cap' (xs ++ ys)) (H' a' cap'))
    (hr : RdS H a2 off2 ys sp2) (hyl : ys.length = m2 * sz) (hxl : xs.length = m * sz) (h1 : ∀ u ∈ ys, u.oneCell' = true) (hb : (m + m2) * y ≤ 140737488355328) (h63 : m + m2 ≤ 9223372036854775807)
    (hn : Nat.blt d n = true)
    (h : ∀ a' cap', (ys ≠ [] → ∃ b, a' = some b) → TOps P n ((d, slV a' 0 (m + m2) cap') :: S) (H' a' cap') rest A Q) :
    TOps P n S H (⟨some d, .call ⟨.builtin .append, #[x, yo], #[t, t]⟩, U, p, e, none⟩ :: rest) A Q := by
  refine TOps.worldEx (R := fun u K => ∃ a' cap', (ys ≠ [] → ∃ b, a' = some b) ∧ u = slV a' 0 (m + m2) cap' ∧ K = H' a' cap') rfl rfl hn (fun ac w hS hM => ?_) (fun u K hR => ?_)
  · have hsz' : 0 < sz := by simpa [Nat.blt_eq] using hsz
    obtain ⟨a', cap', w', hA⟩ := run_append (P := P) w t U hs ht hsz' (hM.ok _ (hu none 0).mem) (hM.lt _ (hu none 0).mem) hxl hyl h1 hb h63 (a2 := a2) (off2 := off2) (c2 := c2)
      (hr.imp id fun ⟨b, h1, h3, h2⟩ => ⟨b, h1, h3, fun j v hj => h2 w hM j v hj⟩)
    refine ⟨_, _, w', ⟨a', cap', hA.isSome, rfl, rfl⟩, ?_, (hu a' cap').sound hM hA.turn hA.ok hA.new hA.lt⟩
    simp only [execOp, resolve, invoke, builtin, List.map_toArray, List.map_cons, List.map_nil, hS.eval hx, hS.eval hy, Sem.run_bind, Sem.run_pure, Result.andThen_ok, hA.run]
  · obtain ⟨a', cap', h0, rfl, rfl⟩ := hR
    exact h a' cap' h0
theorem TOps.appendLit {d x yo t U p e rest} {a : Option Nat} {b2 m cap m2 c2 cc E : Nat} {zs xs ys : List Value} {g : Bool} {sz y : Nat} {H' : Option Nat → Nat → List Ent}
    (hx : opv S x = some (slV a 0 m cap)) (hy : opv S yo = some (slV (some b2) 0 m2 c2)) (hs : P.underlying t = some (.slice E)) (ht : TI P E g zs sz y) (hsz : Nat.blt 0 sz = true) (hu : ∀ a' cap', Upd H (row a E sz cap xs) (row a' E sz cap' (xs ++ ys)) (H' a' cap'))
    (hyl : ys.length = m2 * sz) (hxl : xs.length = m * sz) (h1 : ys.all (fun u => u.oneCell') = true) (hb : (m + m2) * y ≤ 140737488355328) (h63 : m + m2 ≤ 9223372036854775807) (hne : ys ≠ [])
    (hn : Nat.blt d n = true)
    (h : ∀ b' cap', TOps P n ((d, slV (some b') 0 (m + m2) cap') :: S) (H' (some b') cap') rest A Q) :
    TOps P n S (row (some b2) E sz cc ys :: H) (⟨some d, .call ⟨.builtin .append, #[x, yo], #[t, t]⟩, U, p, e, none⟩ :: rest) A Q := by
  refine TOps.append (H' := fun a' cap' => row (some b2) E sz cc ys :: H' a' cap') hx hy hs ht hsz (fun a' cap' => .there (hu a' cap')) (RdS.ofRowS (E := E) (sz := sz) (cap := cc) (by simp)) hyl hxl (by simpa using h1) hb h63 hn ?_
  intro a' cap' hsome
  obtain ⟨b', rfl⟩ := hsome hne
  exact TOps.le (Le.drop (Le.refl _)) (h b' cap')
end
end Go.GL
