import Derived.Test.YtbpjjepiblomaaaGL61
namespace Go.GL
set_option linter.unusedVariables false
set_option linter.unusedSimpArgs false
theorem cutS_sum {P B : List Bool} {v : Nat} {nodes : List Nd} (k : Nat) : (cutS P B v nodes k).2.1.length + (cutS P B v nodes k).2.2.length ≤ k := by
  induction k with
  | zero => simp [cutS]
  | succ k ih =>
    unfold cutS
    cases P.getD (v + k) false <;> cases B.getD (v + k) false <;> simp [cutIn, cutOut] <;> omega
theorem cut_put {F : Fm} (hg : F.Good) (h24 : F.vars < 24) {q : Nat} (hq : q < F.nodes.length) (hm : F.isMod (F.vars.toNat + q) = true) : (F.outer (F.vars.toNat + q)).putErr (F.inner (F.vars.toNat + q)) = none := by
  have g2 := hg.n1
  have ho := (Fm.good_iff _).2 (outer_good hg h24 hq hm)
  have hi := (Fm.good_iff _).2 (inner_good hg hq)
  have hs := cutS_sum (P := F.part (F.vars.toNat + q)) (B := F.below) (v := F.vars.toNat) (nodes := F.nodes) F.nodes.length
  have hov : (F.outer (F.vars.toNat + q)).vars = F.vars + 1 := rfl
  have hiv : (F.inner (F.vars.toNat + q)).vars = F.vars := rfl
  have hol : (F.outer (F.vars.toNat + q)).nodes.length = (cutS (F.part (F.vars.toNat + q)) F.below F.vars.toNat F.nodes F.nodes.length).2.2.length := rfl
  have hil : (F.inner (F.vars.toNat + q)).nodes.length = (cutS (F.part (F.vars.toNat + q)) F.below F.vars.toNat F.nodes F.nodes.length).2.1.length := rfl
  unfold Fm.putErr
  rw [ho, hi]
  dsimp only
  rw [if_neg (by rw [hov, hiv]; simp), if_neg (by omega)]
theorem cut_put_value {F : Fm} (hg : F.Good) (h24 : F.vars < 24) {q : Nat} (hq : q < F.nodes.length) (hm : F.isMod (F.vars.toNat + q) = true) {X : Nat} (hX : X < 2 ^ F.vars.toNat) :
    ((F.outer (F.vars.toNat + q)).put (F.inner (F.vars.toNat + q))).value (X : Int) = F.value (X : Int) := by
  have g0 := hg.v0
  have hp := cut_put hg h24 hq hm
  have hfb := full_bits (v := F.vars.toNat) (by omega) hX (F.val (X : Int) (F.vars.toNat + q))
  have hiv : (F.inner (F.vars.toNat + q)).vars.toNat = F.vars.toNat := rfl
  rw [put_value hp (y := ((bif F.val (X : Int) (F.vars.toNat + q) then X ||| 2 ^ F.vars.toNat else X : Nat) : Int)) (by rw [hiv]; exact hfb.2.1) (by rw [hiv, hfb.2.2, inner_value hg hq])]
  exact outer_value hg h24 hq hm hfb.2.1 hfb.2.2
end Go.GL
namespace Go.GL
set_option linter.unusedVariables false
set_option linter.unusedSimpArgs false
theorem put_len (O I : Fm) : (O.put I).nodes.length = I.nodes.length + O.nodes.length := by simp [Fm.put]
def BackTo (F : Fm) (acc L : List Fm) : Prop := ∃ M F', L = acc ++ M ∧ M ≠ [] ∧ backF L (L.length - 1) (L.getD (L.length - 1) Fm.zero) = backF L acc.length F' ∧ F'.Good ∧ F'.vars = F.vars ∧ F'.nodes.length ≤ F.nodes.length ∧ ∀ X, X < 2 ^ F.vars.toNat → F'.value ((X : Nat) : Int) = F.value (X : Int)
theorem backTo_base {F : Fm} (hg : F.Good) {acc : List Fm} : BackTo F acc (acc ++ [F]) := by
  refine ⟨[F], F, rfl, by simp, ?_, hg, rfl, Nat.le_refl _, fun _ _ => rfl⟩
  have h1 : (acc ++ [F]).length - 1 = acc.length := by simp
  rw [h1]
  have h2 : (acc ++ [F]).getD acc.length Fm.zero = F := by simp
  rw [h2]
theorem backTo_step {F : Fm} (hg : F.Good) (h24 : F.vars < 24) {q : Nat} (hq : q < F.nodes.length) (hm : F.isMod (F.vars.toNat + q) = true) {acc L : List Fm} (h : BackTo (F.outer (F.vars.toNat + q)) (acc ++ [F.inner (F.vars.toNat + q)]) L) : BackTo F acc L := by
  obtain ⟨M, G, hL, hM, hb, hgG, hv, hn, hval⟩ := h
  have g0 := hg.v0
  have hp := cut_put hg h24 hq hm
  obtain ⟨hgO, hgI, hov, hsum⟩ := putErr_none hp
  have hov' : (F.outer (F.vars.toNat + q)).vars = F.vars + 1 := rfl
  have hiv' : (F.inner (F.vars.toNat + q)).vars = F.vars := rfl
  have hs := cutS_sum (P := F.part (F.vars.toNat + q)) (B := F.below) (v := F.vars.toNat) (nodes := F.nodes) F.nodes.length
  have hol : (F.outer (F.vars.toNat + q)).nodes.length = (cutS (F.part (F.vars.toNat + q)) F.below F.vars.toNat F.nodes F.nodes.length).2.2.length := rfl
  have hil : (F.inner (F.vars.toNat + q)).nodes.length = (cutS (F.part (F.vars.toNat + q)) F.below F.vars.toNat F.nodes F.nodes.length).2.1.length := rfl
  have hpe : G.putErr (F.inner (F.vars.toNat + q)) = none := by
    unfold Fm.putErr
    rw [(Fm.good_iff _).2 hgG, (Fm.good_iff _).2 hgI]
    dsimp only
    rw [if_neg (by rw [hv, hov', hiv']; simp), if_neg (by omega)]
  have hget : L.getD acc.length Fm.zero = F.inner (F.vars.toNat + q) := by rw [hL]; simp
  refine ⟨F.inner (F.vars.toNat + q) :: M, G.put (F.inner (F.vars.toNat + q)), by rw [hL]; simp, by simp, ?_, put_good hpe, rfl, by rw [put_len]; have := hg.n1; omega, fun X hX => ?_⟩
  · rw [hb, show (acc ++ [F.inner (F.vars.toNat + q)]).length = acc.length + 1 by simp, backF, hget, hpe]
  · have hfb := full_bits (v := F.vars.toNat) (by have := hg.v1; omega) hX (F.val (X : Int) (F.vars.toNat + q))
    have hivn : (F.inner (F.vars.toNat + q)).vars.toNat = F.vars.toNat := rfl
    rw [put_value hpe (y := ((bif F.val (X : Int) (F.vars.toNat + q) then X ||| 2 ^ F.vars.toNat else X : Nat) : Int)) (by rw [hivn]; exact hfb.2.1) (by rw [hivn, hfb.2.2, inner_value hg hq])]
    rw [hval _ (by rw [hov', show (F.vars + 1).toNat = F.vars.toNat + 1 by omega]; exact hfb.1)]
    exact outer_value hg h24 hq hm hfb.2.1 hfb.2.2
end Go.GL
namespace Go.GL
set_option linter.unusedVariables false
set_option linter.unusedSimpArgs false
theorem levF_back : ∀ (n : Nat) (F : Fm) (acc L : List Fm), F.Good → levF n F acc = (L, none) → BackTo F acc L
  | 0, F, acc, L, hg, h => by
    rw [levF] at h
    obtain rfl : acc ++ [F] = L := congrArg Prod.fst h
    exact backTo_base hg
  | n + 1, F, acc, L, hg, h => by
    rw [levF] at h
    cases hp : F.proper with
    | nil =>
      rw [hp] at h
      obtain rfl : acc ++ [F] = L := congrArg Prod.fst h
      exact backTo_base hg
    | cons p r =>
      rw [hp] at h
      dsimp only at h
      have hmem : p ∈ F.proper := by rw [hp]; exact List.mem_cons_self
      obtain ⟨q, hq, rfl, hb, hm, hne⟩ := proper_mem hg hmem
      rcases proper_cut hg hmem with ⟨_, hc⟩ | ⟨h24, hc, h1, h2, _⟩
      · rw [hc] at h; simp at h
      · rw [hc] at h
        have hout : F.outF ((F.vars.toNat + q : Nat) : Int) = F.outer (F.vars.toNat + q) := by unfold Fm.outF; rw [hc, Int.toNat_natCast]; rfl
        have hin : F.inF ((F.vars.toNat + q : Nat) : Int) = F.inner (F.vars.toNat + q) := by unfold Fm.inF; rw [hc, Int.toNat_natCast]; rfl
        rw [hout] at h h1
        rw [hin] at h
        exact backTo_step hg h24 hq hm (levF_back n _ _ _ h1 h)
theorem backR_lev {F : Fm} (hg : F.Good) {L : List Fm} (h : levF (25 - F.vars.toNat) F [] = (L, none)) :
    (backR L).2 = none ∧ (backR L).1.Good ∧ (backR L).1.vars = F.vars ∧ ∀ X, X < 2 ^ F.vars.toNat → (backR L).1.value ((X : Nat) : Int) = F.value (X : Int) := by
  obtain ⟨M, F', hL, hM, hb, h1, h2, h3, h4⟩ := levF_back _ _ _ _ hg h
  have hgd := levF_good (25 - F.vars.toNat) F [] hg (fun x hx => by simp at hx)
  rw [h] at hgd
  have hlen : L.length ≠ 0 := by
    rw [hL]; simpa using hM
  have hlast : (L.getD (L.length - 1) Fm.zero).err = none := by
    rw [getD_at (by omega)]
    exact (Fm.good_iff _).2 (hgd _ (List.getElem_mem _))
  have he : backR L = (F', none) := by
    unfold backR
    rw [if_neg hlen, hlast]
    dsimp only
    rw [hb]
    rfl
  rw [he]
  exact ⟨rfl, h1, h2, h4⟩
end Go.GL
namespace Go.GL
set_option linter.unusedVariables false
set_option linter.unusedSimpArgs false
theorem levF_err : ∀ (n : Nat) (F : Fm) (acc : List Fm), F.Good → (levF n F acc).2 = none ∨ (levF n F acc).2 = some 4
  | 0, F, acc, hg => .inl (by rw [levF])
  | n + 1, F, acc, hg => by
    rw [levF]
    cases hp : F.proper with
    | nil => exact .inl rfl
    | cons p r =>
      dsimp only
      have hmem : p ∈ F.proper := by rw [hp]; exact List.mem_cons_self
      rcases proper_cut hg hmem with ⟨_, hc⟩ | ⟨h24, hc, h1, h2, _⟩
      · rw [hc]; exact .inr rfl
      · rw [hc]; exact levF_err n _ _ h1
end Go.GL
namespace Go.GL
set_option linter.unusedVariables false
set_option linter.unusedSimpArgs false
section
variable {F : Fm}
theorem Fm.isMod_some {i : Nat} (hm : F.isMod (F.vars.toNat + i) = true) : ∃ j, (F.under (F.vars.toNat + i)).getD j false = true := by
  unfold Fm.isMod at hm
  simp only [Bool.and_eq_true] at hm
  obtain ⟨x, hx, h1⟩ := List.any_eq_true.1 hm.1.1
  obtain ⟨j, hj, he⟩ := List.getElem_of_mem hx
  refine ⟨j, ?_⟩
  rw [List.getD_eq_getElem?_getD, List.getElem?_eq_getElem hj, he]
  simpa using h1
theorem Fm.isMod_mk {i : Nat} (h1 : ∃ j, (F.under (F.vars.toNat + i)).getD j false = true) (h2 : (F.under (F.vars.toNat + i)).getD F.top.toNat false = false)
    (h3 : ∀ q (hq : q < F.nodes.length), F.below.getD (F.vars.toNat + q) false = true → q ≠ i → (F.under (F.vars.toNat + i)).getD (F.vars.toNat + q) false = false → ∀ a ∈ F.nodes[q].args, (F.under (F.vars.toNat + i)).getD a.toNat false = false) : F.isMod (F.vars.toNat + i) = true := by
  unfold Fm.isMod
  simp only [Bool.and_eq_true]
  refine ⟨⟨?_, by rw [h2]; rfl⟩, ?_⟩
  · obtain ⟨j, hj⟩ := h1
    rw [List.any_eq_true]
    rw [List.getD_eq_getElem?_getD] at hj
    cases h : (F.under (F.vars.toNat + i))[j]? with
    | none => rw [h] at hj; simp at hj
    | some b => rw [h] at hj; simp at hj; subst hj; exact ⟨true, List.mem_of_getElem? h, rfl⟩
  · rw [List.all_eq_true]
    intro q hq
    have hq := List.mem_range.1 hq
    unfold Fm.modAt
    rw [show F.nodes.getD q ⟨0, 0, []⟩ = F.nodes[q] from by simp [hq]]
    cases hb : F.below.getD (F.vars.toNat + q) false with
    | false => simp
    | true =>
      by_cases e : q = i
      · subst e; simp
      · cases hu : (F.under (F.vars.toNat + i)).getD (F.vars.toNat + q) false with
        | true => simp
        | false =>
          have := h3 q hq hb e hu
          simp only [Bool.not_true, Bool.false_or, Bool.or_eq_true]
          refine .inr (List.all_eq_true.2 fun a ha => ?_)
          rw [this a ha]; rfl
theorem Fm.ro_inj (hg : F.Good) {j k : Nat} (hj : F.below.getD j false = true) (hk : F.below.getD k false = true) (h : F.ro j = F.ro k) : j = k := by
  have lj := Fm.below_lt hj; have lk := Fm.below_lt hk
  rcases Nat.lt_or_ge j F.vars.toNat with h1 | h1 <;> rcases Nat.lt_or_ge k F.vars.toNat with h2 | h2
  · rwa [F.ro_event h1, F.ro_event h2] at h
  · obtain ⟨q, rfl⟩ : ∃ q, k = F.vars.toNat + q := ⟨k - F.vars.toNat, by omega⟩
    rw [F.ro_event h1, F.ro_node (by omega) hk] at h; omega
  · obtain ⟨q, rfl⟩ : ∃ q, j = F.vars.toNat + q := ⟨j - F.vars.toNat, by omega⟩
    rw [F.ro_event h2, F.ro_node (by omega) hj] at h; omega
  · obtain ⟨q, rfl⟩ : ∃ q, k = F.vars.toNat + q := ⟨k - F.vars.toNat, by omega⟩
    obtain ⟨p, rfl⟩ : ∃ p, j = F.vars.toNat + p := ⟨j - F.vars.toNat, by omega⟩
    rw [F.ro_node (by omega) hj, F.ro_node (by omega) hk] at h
    rcases Nat.lt_trichotomy p q with e | e | e
    · have := F.ix_lt e (by omega) hj; omega
    · rw [e]
    · have := F.ix_lt e (by omega) hk; omega
theorem Fm.trim_get (hg : F.Good) {k : Nat} (hk : k < F.nodes.length) (h : F.below.getD (F.vars.toNat + k) false = true) : ∃ hk' : F.ix k < F.trim.nodes.length, F.trim.nodes[F.ix k] = F.ren F.nodes[k] :=
  List.getElem?_eq_some_iff.1 (Fm.trim_at hg hk h)
theorem Fm.mem_ren {d : Nd} {a : Int} (ha : a ∈ d.args) : ((F.ro a.toNat : Nat) : Int) ∈ (F.ren d).args := List.mem_map.2 ⟨a, ha, rfl⟩
theorem Fm.trim_under (hg : F.Good) {i : Nat} (hi : i < F.nodes.length) (hb : F.below.getD (F.vars.toNat + i) false = true) : ∀ j, (F.under (F.vars.toNat + i)).getD j false = true → (F.trim.under (F.vars.toNat + F.ix i)).getD (F.ro j) false = true := by
  have hg' := Fm.trim_good hg
  obtain ⟨hi', hni⟩ := Fm.trim_get hg hi hb
  refine Fm.under_ind hg hi (fun j => (F.trim.under (F.vars.toNat + F.ix i)).getD (F.ro j) false = true) (fun a ha => ?_) (fun k hk hu hp a ha => ?_)
  · have := Fm.under_args hg' hi' ((F.ro a.toNat : Nat) : Int) (by rw [hni]; exact Fm.mem_ren ha)
    rwa [Int.toNat_natCast] at this
  · have hbk := Fm.need_under hg hi hb _ hu
    obtain ⟨hk', hnk⟩ := Fm.trim_get hg hk hbk
    rw [F.ro_node hk hbk] at hp
    have := Fm.under_closed hg' hi' hk' hp ((F.ro a.toNat : Nat) : Int) (by rw [hnk]; exact Fm.mem_ren ha)
    rwa [Int.toNat_natCast] at this
theorem Fm.trim_under_inv (hg : F.Good) {i : Nat} (hi : i < F.nodes.length) (hb : F.below.getD (F.vars.toNat + i) false = true) : ∀ j, (F.trim.under (F.vars.toNat + F.ix i)).getD j false = true → ∃ k, F.below.getD k false = true ∧ (F.under (F.vars.toNat + i)).getD k false = true ∧ F.ro k = j := by
  have hg' := Fm.trim_good hg
  obtain ⟨hi', hni⟩ := Fm.trim_get hg hi hb
  refine Fm.under_ind hg' hi' (fun j => ∃ k, F.below.getD k false = true ∧ (F.under (F.vars.toNat + i)).getD k false = true ∧ F.ro k = j) (fun a ha => ?_) (fun k' hk' hu hp a ha => ?_)
  · rw [hni] at ha
    obtain ⟨b, hb', rfl⟩ := List.mem_map.1 ha
    exact ⟨b.toNat, Fm.below_closed hg hi hb b hb', Fm.under_args hg hi b hb', by rw [Int.toNat_natCast]⟩
  · obtain ⟨j, h1, h2, h3⟩ := hp
    rw [F.trim_vars] at h3
    have lj := Fm.below_lt h1
    rcases Nat.lt_or_ge j F.vars.toNat with hv | hv
    · rw [F.ro_event hv] at h3; omega
    · obtain ⟨k, rfl⟩ : ∃ k, j = F.vars.toNat + k := ⟨j - F.vars.toNat, by omega⟩
      have hk : k < F.nodes.length := by omega
      rw [F.ro_node hk h1] at h3
      obtain ⟨_, hnk⟩ := Fm.trim_get hg hk h1
      have e : F.ix k = k' := by omega
      subst e
      rw [hnk] at ha
      obtain ⟨b, hb', rfl⟩ := List.mem_map.1 ha
      exact ⟨b.toNat, Fm.below_closed hg hk h1 b hb', Fm.under_closed hg hi hk h2 b hb', by rw [Int.toNat_natCast]⟩
theorem Fm.trim_isMod (hg : F.Good) {i : Nat} (hi : i < F.nodes.length) (hb : F.below.getD (F.vars.toNat + i) false = true) (hm : F.trim.isMod (F.vars.toNat + F.ix i) = true) : F.isMod (F.vars.toNat + i) = true := by
  have hg' := Fm.trim_good hg
  obtain ⟨hi', hni⟩ := Fm.trim_get hg hi hb
  have hA := Fm.trim_under hg hi hb
  have hB := Fm.trim_under_inv hg hi hb
  refine Fm.isMod_mk ?_ ?_ fun q hq bq hne hu a ha => ?_
  · obtain ⟨j, hj⟩ := Fm.isMod_some (F := F.trim) hm
    obtain ⟨k, _, h2, _⟩ := hB j hj
    exact ⟨k, h2⟩
  · cases h : (F.under (F.vars.toNat + i)).getD F.top.toNat false with
    | false => rfl
    | true =>
      have h1 := hA _ h
      have h2 := Fm.isMod_top hm
      rw [F.trim_top, Int.toNat_natCast, h1] at h2
      cases h2
  · cases h : (F.under (F.vars.toNat + i)).getD a.toNat false with
    | false => rfl
    | true =>
      have h1 := hA _ h
      obtain ⟨hq', hnq⟩ := Fm.trim_get hg hq bq
      have hbm := Fm.trim_marked hg hq'
      have hne' : F.ix q ≠ F.ix i := fun e => by
        have := Fm.ro_inj hg bq hb (by rw [F.ro_node hq bq, F.ro_node hi hb, e])
        omega
      have hu' : (F.trim.under (F.trim.vars.toNat + F.ix i)).getD (F.trim.vars.toNat + F.ix q) false = false := by
        cases h3 : (F.trim.under (F.trim.vars.toNat + F.ix i)).getD (F.trim.vars.toNat + F.ix q) false with
        | false => rfl
        | true =>
          obtain ⟨k, k1, k2, k3⟩ := hB _ h3
          have k4 : F.ro k = F.ro (F.vars.toNat + q) := by rw [k3, F.ro_node hq bq]; rfl
          rw [Fm.ro_inj hg k1 bq k4, hu] at k2
          cases k2
      have h4 := Fm.isMod_all hg' (i := F.ix i) hm (F.ix q) hq' hbm hne' hu' ((F.ro a.toNat : Nat) : Int) (by rw [hnq]; exact Fm.mem_ren ha)
      rw [Int.toNat_natCast, show F.trim.vars.toNat = F.vars.toNat from rfl, h1] at h4
      cases h4
theorem Fm.trim_evs (hg : F.Good) {i : Nat} (hi : i < F.nodes.length) (hb : F.below.getD (F.vars.toNat + i) false = true) : F.trim.evs (F.vars.toNat + F.ix i) = F.evs (F.vars.toNat + i) := by
  have hA := Fm.trim_under hg hi hb
  have hB := Fm.trim_under_inv hg hi hb
  unfold Fm.evs
  rw [show F.trim.vars.toNat = F.vars.toNat from rfl, if_neg (by omega), if_neg (by omega)]
  refine setOf_congr _ fun e he => ?_
  rw [Bool.eq_iff_iff]
  constructor
  · intro h
    obtain ⟨k, k1, k2, k3⟩ := hB e h
    have lk := Fm.below_lt k1
    rcases Nat.lt_or_ge k F.vars.toNat with hv | hv
    · rw [F.ro_event hv] at k3; rw [← k3]; exact k2
    · obtain ⟨q, rfl⟩ : ∃ q, k = F.vars.toNat + q := ⟨k - F.vars.toNat, by omega⟩
      rw [F.ro_node (by omega) k1] at k3; omega
  · intro h
    have := hA e h
    rwa [F.ro_event he] at this
theorem Fm.at_isMod (hg : F.Good) {p i : Nat} (hp : p < F.nodes.length) (bp : F.below.getD (F.vars.toNat + p) false = true) (mp : F.isMod (F.vars.toNat + p) = true) (hi : i < F.nodes.length)
    (hui : (F.under (F.vars.toNat + p)).getD (F.vars.toNat + i) false = true) (hm : (F.at (F.vars.toNat + p)).isMod (F.vars.toNat + i) = true) : F.isMod (F.vars.toNat + i) = true := by
  have htr := Fm.under_trans hg hp hi hui
  have hpt := fun j => Fm.part_getD hg (t := F.vars.toNat + p) (by omega) j
  refine Fm.isMod_mk (Fm.isMod_some (F := F.at (F.vars.toNat + p)) hm) ?_ fun q hq bq hne hu a ha => ?_
  · cases h : (F.under (F.vars.toNat + i)).getD F.top.toNat false with
    | false => rfl
    | true => have h1 := htr _ h; rw [Fm.isMod_top mp] at h1; cases h1
  · cases hpq : (F.part (F.vars.toNat + p)).getD (F.vars.toNat + q) false with
    | true => exact Fm.isMod_all (Fm.at_good hg (t := F.vars.toNat + p) (by omega)) (i := i) hm q hq hpq hne hu a ha
    | false =>
      rw [hpt] at hpq
      simp only [Bool.or_eq_false_iff, decide_eq_false_iff_not] at hpq
      have h1 := Fm.isMod_all hg mp q hq bq (by omega) hpq.2 a ha
      cases h : (F.under (F.vars.toNat + i)).getD a.toNat false with
      | false => rfl
      | true => rw [htr _ h] at h1; cases h1
theorem proper_at {F : Fm} {m : Nat} : m ∈ F.proper ↔ ∃ i, i < F.nodes.length ∧ m = F.vars.toNat + i ∧ F.below.getD (F.vars.toNat + i) false = true ∧ F.isMod (F.vars.toNat + i) = true ∧ (m : Int) ≠ F.top ∧ 2 ≤ pp 24 (F.evs m) := by
  unfold Fm.proper
  rw [List.mem_filter, Fm.mem_find]
  unfold Fm.proper1
  simp only [Bool.and_eq_true, decide_eq_true_eq]
  constructor
  · rintro ⟨⟨i, h1, h2, h3, rfl⟩, h4, h5⟩; exact ⟨i, h1, rfl, h2, h3, h4, h5⟩
  · rintro ⟨i, h1, rfl, h2, h3, h4, h5⟩; exact ⟨⟨i, h1, h2, h3, rfl⟩, h4, h5⟩
theorem proper_inner (hg : F.Good) {q : Nat} {r : List Nat} (hp : F.proper = (F.vars.toNat + q) :: r) : (F.inner (F.vars.toNat + q)).proper = [] := by
  have g0 := hg.v0
  have hmem : F.vars.toNat + q ∈ F.proper := by rw [hp]; exact List.mem_cons_self
  obtain ⟨q', hq, hqe, bq, mq, hne, _⟩ := proper_at.1 hmem
  obtain rfl : q = q' := by omega
  have hlt : F.vars.toNat + q < F.vars.toNat + F.nodes.length := by omega
  have hga := Fm.at_good hg hlt
  rw [inner_trim hg]
  by_cases hnil : (F.at (F.vars.toNat + q)).trim.proper = []
  · exact hnil
  obtain ⟨m, r', hr'⟩ := List.exists_cons_of_ne_nil hnil
  exfalso
  have hm : m ∈ (F.at (F.vars.toNat + q)).trim.proper := by rw [hr']; exact List.mem_cons_self
  obtain ⟨i', hi', rfl, bi', mi', ne', ev'⟩ := proper_at.1 hm
  obtain ⟨k, hk, bk, hik, hnk⟩ := Fm.trim_fits hga hi'
  subst hik
  have mk' := Fm.trim_isMod hga hk bk mi'
  have ek := Fm.trim_evs hga hk bk
  have hrk := (F.at (F.vars.toNat + q)).ro_node hk bk
  have hkq : k ≠ q := by
    rintro rfl
    exact ne' (by rw [Fm.trim_top]; exact congrArg (fun z : Nat => (z : Int)) hrk.symm)
  have hpt : (F.part (F.vars.toNat + q)).getD (F.vars.toNat + k) false = true := bk
  rw [Fm.part_getD hg hlt, decide_eq_false (by omega), Bool.false_or] at hpt
  have hkl := Fm.under_lt hg hpt
  have hkn : k < F.nodes.length := hk
  have hbF := Fm.need_under hg hq bq _ hpt
  have hmF := Fm.at_isMod hg hq bq mq hkn hpt mk'
  have htop : ((F.vars.toNat + k : Nat) : Int) ≠ F.top := by
    intro e
    have h1 := Fm.isMod_top mq
    rw [← e, Int.toNat_natCast, hpt] at h1
    cases h1
  have hin : F.vars.toNat + k ∈ F.proper := proper_at.2 ⟨k, hkn, rfl, hbF, hmF, htop, by
    rw [show F.evs (F.vars.toNat + k) = (F.at (F.vars.toNat + q)).evs ((F.at (F.vars.toNat + q)).vars.toNat + k) from rfl, ← ek]; exact ev'⟩
  have hs : F.proper.Pairwise (· < ·) := by unfold Fm.proper; exact F.find_sorted.filter _
  rw [hp] at hs hin
  rcases List.mem_cons.1 hin with h | h
  · omega
  · have := (List.pairwise_cons.1 hs).1 _ h
    omega
end
theorem levF_simple : ∀ (n : Nat) (F : Fm) (acc L : List Fm), F.Good → 25 ≤ n + F.vars.toNat → levF n F acc = (L, none) → ∃ M, L = acc ++ M ∧ M ≠ [] ∧ ∀ i (hi : i < M.length), M[i].proper = [] ∧ M[i].vars = F.vars + i
  | 0, F, acc, L, hg, hn, h => by
    have := hg.v1; have := hg.v0
    omega
  | n + 1, F, acc, L, hg, hn, h => by
    have g1 := hg.v1; have g0 := hg.v0
    rw [levF] at h
    cases hp : F.proper with
    | nil =>
      rw [hp] at h
      obtain rfl : acc ++ [F] = L := congrArg Prod.fst h
      refine ⟨[F], rfl, by simp, fun i hi => ?_⟩
      obtain rfl : i = 0 := by simpa using hi
      exact ⟨hp, by simp⟩
    | cons p r =>
      rw [hp] at h
      dsimp only at h
      have hmem : p ∈ F.proper := by rw [hp]; exact List.mem_cons_self
      obtain ⟨q, hq, rfl, hb, hm, hne⟩ := proper_mem hg hmem
      rcases proper_cut hg hmem with ⟨_, hc⟩ | ⟨h24, hc, h1, h2, h3, h4⟩
      · rw [hc] at h; simp at h
      · rw [hc] at h
        have hin : F.inF ((F.vars.toNat + q : Nat) : Int) = F.inner (F.vars.toNat + q) := by unfold Fm.inF; rw [hc, Int.toNat_natCast]; rfl
        obtain ⟨M, hL, hM, hall⟩ := levF_simple n _ _ L h1 (by omega) h
        refine ⟨F.inF ((F.vars.toNat + q : Nat) : Int) :: M, by rw [hL]; simp, by simp, fun i hi => ?_⟩
        match i with
        | 0 =>
          refine ⟨?_, by rw [List.getElem_cons_zero, h4]; simp⟩
          rw [List.getElem_cons_zero, hin]
          exact proper_inner hg hp
        | j + 1 =>
          have hj : j < M.length := by simpa using hi
          obtain ⟨k1, k2⟩ := hall j hj
          rw [List.getElem_cons_succ]
          exact ⟨k1, by rw [k2, h3]; omega⟩
end Go.GL
