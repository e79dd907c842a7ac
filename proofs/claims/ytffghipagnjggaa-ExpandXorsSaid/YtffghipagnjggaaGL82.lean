import Derived.Test.YtffghipagnjggaaGL81
namespace Go.GL
set_option linter.unusedVariables false
set_option linter.unusedSimpArgs false
structure MS where
  ns : List Nd
  full : Bool
def MS.Ok (s : MS) : Prop := s.ns.length ≤ 128
def addM (v : Int) (d : Nd) (s : MS) : Int × MS := if 128 ≤ s.ns.length then (0, ⟨s.ns, true⟩) else (v + s.ns.length, ⟨s.ns ++ [d], s.full⟩)
def gateM (v kind : Int) (l : List Int) (s : MS) : Int × MS := if l.length = 1 then (l.headD 0, s) else addM v ⟨kind, 0, l⟩ s
abbrev Made := List ((Int × Int) × Int)
def findM (k i : Int) : Made → Option Int
  | [] => none
  | q :: r => if q.1.1 = k ∧ q.1.2 = i then some q.2 else findM k i r
def leastM (v : Int) (args : List Int) : Nat → Int → Made → MS → Int × Made × MS
  | 0, _, m, s => (0, m, s)
  | n + 1, k, m, s =>
    match findM k ((args.length - (n + 1) : Nat) : Int) m with
    | some x => (x, m, s)
    | none => if s.full = true then (0, m, s) else
      if k = 1 then
        let r := gateM v 3 (args.drop (args.length - (n + 1))) s
        (r.1, m ++ [((k, ((args.length - (n + 1) : Nat) : Int)), r.1)], r.2)
      else if k = ((n + 1 : Nat) : Int) then
        let r := gateM v 2 (args.drop (args.length - (n + 1))) s
        (r.1, m ++ [((k, ((args.length - (n + 1) : Nat) : Int)), r.1)], r.2)
      else
        let r1 := leastM v args n (k - 1) m s
        let r2 := addM v ⟨2, 0, [args.getD (args.length - (n + 1)) 0, r1.1]⟩ r1.2.2
        let r3 := leastM v args n k r1.2.1 r2.2
        let r4 := addM v ⟨3, 0, [r2.1, r3.1]⟩ r3.2.2
        (r4.1, r3.2.1 ++ [((k, ((args.length - (n + 1) : Nat) : Int)), r4.1)], r4.2)
def xor1 (v y : Int) (r : Int × MS) : Int × MS :=
  let r1 := addM v ⟨1, 0, [y]⟩ r.2
  let r2 := addM v ⟨2, 0, [r.1, r1.1]⟩ r1.2
  let r3 := addM v ⟨1, 0, [r.1]⟩ r2.2
  let r4 := addM v ⟨2, 0, [r3.1, y]⟩ r3.2
  addM v ⟨3, 0, [r2.1, r4.1]⟩ r4.2
def chainX (f : Int → Int × MS → Int × MS) : List Int → Int × MS → Int × MS
  | [], r => r
  | y :: l, r => chainX f l (f y r)
theorem chainX_snoc (f : Int → Int × MS → Int × MS) (y : Int) : ∀ (l : List Int) (r : Int × MS), chainX f (l ++ [y]) r = f y (chainX f l r)
  | [], r => rfl
  | a :: l, r => by rw [List.cons_append, chainX, chainX]; exact chainX_snoc f y l _
def xorM (v : Int) (l : List Int) (s : MS) : Int × MS := chainX (xor1 v) l.tail (l.headD 0, s)
def binM (v kind : Int) (l : List Int) (s : MS) : Int × MS := chainX (fun y r => addM v ⟨kind, 0, [r.1, y]⟩ r.2) l.tail (l.headD 0, s)
def specB (what : Nat) (kind : Int) : Bool := match what with | 0 => decide (kind = 4) | 1 => decide (kind = 5) | _ => decide (kind = 2) || decide (kind = 3)
def specM (what : Nat) (v : Int) (d : Nd) (s : MS) : Int × MS := match what with
  | 0 => let r := leastM v d.args d.args.length d.k [] s; (r.1, r.2.2)
  | 1 => xorM v d.args s
  | _ => binM v d.kind d.args s
def nodeM (what : Nat) (v : Int) (d : Nd) (s : MS) : Int × MS := if specB what d.kind = true then specM what v d s else addM v d s
def trD (P : List Int) (d : Nd) : Nd := ⟨d.kind, d.k, trI P d.args⟩
def mapS (what : Nat) (v : Nat) (nodes : List Nd) : Nat → List Int × MS
  | 0 => (evI v, ⟨[], false⟩)
  | k + 1 =>
    let s := mapS what v nodes k
    let r := nodeM what v (trD s.1 (nodes.getD k ⟨0, 0, []⟩)) s.2
    (s.1 ++ [r.1], r.2)
def Fm.expS (F : Fm) (what : Nat) : List Int × MS := mapS what F.vars.toNat F.nodes F.nodes.length
def resF (v : Int) (s : MS) (top : Int) : Fm := if s.full = true then Fm.zero else ⟨v, s.ns, top⟩
def resE (s : MS) : Option Int := if s.full = true then some 4 else none
def Fm.expF (F : Fm) (what : Nat) : Fm := match F.err with | some _ => Fm.zero | none => resF F.vars (F.expS what).2 ((F.expS what).1.getD F.top.toNat 0)
def Fm.expE (F : Fm) (what : Nat) : Option Int := match F.err with | some e => some e | none => resE (F.expS what).2
def Fm.plainF (F : Fm) : Fm := match F.expE 0 with | some _ => Fm.zero | none => (F.expF 0).expF 1
def Fm.plainE (F : Fm) : Option Int := match F.expE 0 with | some e => some e | none => (F.expF 0).expE 1
def stepL (f : Int → MS → Int × MS) : List Int → List Int × MS → List Int × MS
  | [], r => r
  | a :: l, r => stepL f l (r.1 ++ [(f a r.2).1], (f a r.2).2)
theorem stepL_snoc (f : Int → MS → Int × MS) (y : Int) : ∀ (l : List Int) (r : List Int × MS), stepL f (l ++ [y]) r = ((stepL f l r).1 ++ [(f y (stepL f l r).2).1], (f y (stepL f l r).2).2)
  | [], r => rfl
  | a :: l, r => by rw [List.cons_append, stepL, stepL]; exact stepL_snoc f y l _
def treeM (v : Nat) (nodes : List Nd) : Nat → Int → MS → Int × MS
  | 0, a, s => (a, s)
  | n + 1, a, s => if a < v ∨ s.full = true then (a, s) else
    let d := nodes.getD (a - v).toNat ⟨0, 0, []⟩
    let r := stepL (treeM v nodes n) d.args ([], s)
    addM v ⟨d.kind, d.k, r.1⟩ r.2
def Fm.treeR (F : Fm) : Int × MS := treeM F.vars.toNat F.nodes F.nodes.length F.top ⟨[], false⟩
def Fm.treeF (F : Fm) : Fm := match F.err with | some _ => Fm.zero | none => resF F.vars F.treeR.2 F.treeR.1
def Fm.treeE (F : Fm) : Option Int := match F.err with | some e => some e | none => resE F.treeR.2
def Small (a : Int) : Prop := 0 ≤ a ∧ a ≤ 1000000
structure MS.Gr (r s : MS) : Prop where
  ok : r.Ok → s.Ok
  full : r.full = true → s.full = true
  pre : ∃ l, s.ns = r.ns ++ l
theorem MS.Gr.refl (s : MS) : MS.Gr s s := ⟨id, id, [], by simp⟩
theorem MS.Gr.trans {a b c : MS} (h : MS.Gr a b) (k : MS.Gr b c) : MS.Gr a c := by
  obtain ⟨l, hl⟩ := h.pre
  obtain ⟨m, hm⟩ := k.pre
  exact ⟨fun o => k.ok (h.ok o), fun o => k.full (h.full o), l ++ m, by rw [hm, hl, List.append_assoc]⟩
theorem addM_gr (v : Int) (d : Nd) (s : MS) : MS.Gr s (addM v d s).2 := by
  unfold addM
  split
  · exact ⟨id, fun _ => rfl, [], by simp⟩
  · exact ⟨fun o => by unfold MS.Ok at *; simp; omega, id, [d], rfl⟩
theorem addM_small {v : Int} (hv : 0 ≤ v ∧ v ≤ 24) (d : Nd) {s : MS} (hs : s.Ok) : Small (addM v d s).1 := by
  unfold MS.Ok at hs
  unfold addM Small
  split
  · exact ⟨Int.le_refl 0, by omega⟩
  · dsimp only; omega
theorem gateM_gr (v kind : Int) (l : List Int) (s : MS) : MS.Gr s (gateM v kind l s).2 := by
  unfold gateM
  split
  · exact MS.Gr.refl s
  · exact addM_gr _ _ _
theorem gateM_small {v : Int} (hv : 0 ≤ v ∧ v ≤ 24) (kind : Int) {l : List Int} (hl : ∀ a ∈ l, Small a) {s : MS} (hs : s.Ok) : Small (gateM v kind l s).1 := by
  unfold gateM
  split
  · match l with
    | [] => exact ⟨Int.le_refl 0, by show (0 : Int) ≤ 1000000; decide⟩
    | a :: _ => exact hl a (by simp)
  · exact addM_small hv _ hs
def MadeOk (m : Made) : Prop := ∀ q ∈ m, Small q.1.1 ∧ Small q.1.2 ∧ Small q.2
theorem findM_ok {m : Made} (h : MadeOk m) {k i x : Int} (hf : findM k i m = some x) : Small x := by
  induction m with
  | nil => cases hf
  | cons q r ih =>
    unfold findM at hf
    split at hf
    · cases hf
      exact (h q (by simp)).2.2
    · exact ih (fun q hq => h q (by simp [hq])) hf
theorem MadeOk.snoc {m : Made} (h : MadeOk m) {k i x : Int} (hk : Small k) (hi : Small i) (hx : Small x) : MadeOk (m ++ [((k, i), x)]) := by
  intro q hq
  rcases List.mem_append.1 hq with hq | hq
  · exact h q hq
  · obtain rfl := List.mem_singleton.1 hq
    exact ⟨hk, hi, hx⟩
structure MadeGr (i : Int) (m m' : Made) : Prop where
  pre : ∃ l, m' = m ++ l ∧ ∀ q ∈ l, i ≤ q.1.2
theorem MadeGr.refl {i : Int} (m : Made) : MadeGr i m m := ⟨[], by simp, by simp⟩
theorem MadeGr.trans {i : Int} {a b c : Made} (h : MadeGr i a b) (k : MadeGr i b c) : MadeGr i a c := by
  obtain ⟨l, rfl, hl⟩ := h.pre
  obtain ⟨m, rfl, hm⟩ := k.pre
  exact ⟨l ++ m, by rw [List.append_assoc], fun q hq => (List.mem_append.1 hq).elim (hl q) (hm q)⟩
theorem MadeGr.mono {i j : Int} {a b : Made} (h : MadeGr i a b) (hj : j ≤ i) : MadeGr j a b := by
  obtain ⟨l, hl, h2⟩ := h.pre
  exact ⟨l, hl, fun q hq => Int.le_trans hj (h2 q hq)⟩
theorem MadeGr.snoc {i k x : Int} (m : Made) : MadeGr i m (m ++ [((k, i), x)]) := ⟨[((k, i), x)], rfl, fun q hq => by obtain rfl := List.mem_singleton.1 hq; exact Int.le_refl _⟩
theorem findM_append {k i : Int} : ∀ (m l : Made), findM k i m = none → findM k i l = none → findM k i (m ++ l) = none
  | [], l, _, h => h
  | q :: r, l, h, h2 => by
    unfold findM at h
    rw [List.cons_append]
    unfold findM
    split at h
    · cases h
    · rename_i hq
      rw [if_neg hq]
      exact findM_append r l h h2
theorem findM_none {k i : Int} : ∀ (m : Made), (∀ q ∈ m, ¬ (q.1.1 = k ∧ q.1.2 = i)) → findM k i m = none
  | [], _ => rfl
  | q :: r, h => by
    unfold findM
    rw [if_neg (h q (by simp))]
    exact findM_none r (fun q hq => h q (by simp [hq]))
theorem findM_none_iff {k i : Int} : ∀ (m : Made), findM k i m = none → ∀ q ∈ m, ¬ (q.1.1 = k ∧ q.1.2 = i)
  | [], _, q, hq => by cases hq
  | p :: r, h, q, hq => by
    unfold findM at h
    split at h
    · cases h
    · rename_i hp
      rcases List.mem_cons.1 hq with rfl | hq
      · exact hp
      · exact findM_none_iff r h q hq
theorem MadeGr.none {k i : Int} {m m' : Made} (h : MadeGr (i + 1) m m') (hf : findM k i m = .none) : findM k i m' = .none := by
  obtain ⟨l, rfl, hl⟩ := h.pre
  refine findM_append m l hf (findM_none l fun q hq h => ?_)
  have := hl q hq
  omega
structure LeastOk (v i : Int) (m : Made) (s : MS) (r : Int × Made × MS) : Prop where
  gr : MS.Gr s r.2.2
  sm : Small r.1
  md : MadeOk r.2.1
  gm : MadeGr i m r.2.1
theorem leastM_ok {v : Int} (hv : 0 ≤ v ∧ v ≤ 24) {args : List Int} (ha : ∀ a ∈ args, Small a) (hl : args.length ≤ 1000) : ∀ (n : Nat), n ≤ args.length → ∀ (k : Int) (m : Made) (s : MS), 1 ≤ k → k ≤ 1000 → MadeOk m → s.Ok → LeastOk v ((args.length - n : Nat) : Int) m s (leastM v args n k m s)
  | 0, hn, k, m, s, hk, hk2, hm, hs => ⟨MS.Gr.refl s, ⟨Int.le_refl 0, by show (0 : Int) ≤ 1000000; decide⟩, hm, MadeGr.refl m⟩
  | n + 1, hn, k, m, s, hk, hk2, hm, hs => by
    have hz : Small 0 := ⟨Int.le_refl 0, by decide⟩
    have hkS : Small k := ⟨by omega, by omega⟩
    have hiS : Small ((args.length - (n + 1) : Nat) : Int) := ⟨by omega, by omega⟩
    unfold leastM
    split
    · rename_i x hx
      exact ⟨MS.Gr.refl s, findM_ok hm hx, hm, MadeGr.refl m⟩
    · split
      · exact ⟨MS.Gr.refl s, hz, hm, MadeGr.refl m⟩
      · split
        · have h1 := gateM_small hv 3 (l := args.drop (args.length - (n + 1))) (fun a h => ha a (List.mem_of_mem_drop h)) hs
          exact ⟨gateM_gr _ _ _ _, h1, hm.snoc hkS hiS h1, MadeGr.snoc m⟩
        · split
          · have h1 := gateM_small hv 2 (l := args.drop (args.length - (n + 1))) (fun a h => ha a (List.mem_of_mem_drop h)) hs
            exact ⟨gateM_gr _ _ _ _, h1, hm.snoc hkS hiS h1, MadeGr.snoc m⟩
          · rename_i hk1 _
            have r1 := leastM_ok hv ha hl n (by omega) (k - 1) m s (by omega) (by omega) hm hs
            have g2 := addM_gr v ⟨2, 0, [args.getD (args.length - (n + 1)) 0, (leastM v args n (k - 1) m s).1]⟩ (leastM v args n (k - 1) m s).2.2
            have r3 := leastM_ok hv ha hl n (by omega) k _ (addM v ⟨2, 0, [args.getD (args.length - (n + 1)) 0, (leastM v args n (k - 1) m s).1]⟩ (leastM v args n (k - 1) m s).2.2).2 hk hk2 r1.md (g2.ok (r1.gr.ok hs))
            have o3 := r3.gr.ok (g2.ok (r1.gr.ok hs))
            have x4 := addM_small hv ⟨3, 0, [(addM v ⟨2, 0, [args.getD (args.length - (n + 1)) 0, (leastM v args n (k - 1) m s).1]⟩ (leastM v args n (k - 1) m s).2.2).1, (leastM v args n k (leastM v args n (k - 1) m s).2.1 (addM v ⟨2, 0, [args.getD (args.length - (n + 1)) 0, (leastM v args n (k - 1) m s).1]⟩ (leastM v args n (k - 1) m s).2.2).2).1]⟩ o3
            refine ⟨(r1.gr.trans g2).trans (r3.gr.trans (addM_gr _ _ _)), x4, r3.md.snoc hkS hiS x4, ?_⟩
            exact ((r1.gm.mono (by omega)).trans (r3.gm.mono (by omega))).trans (MadeGr.snoc _)
def Kept (v : Int) (f : MS → Int × MS) : Prop := ∀ s : MS, s.Ok → MS.Gr s (f s).2 ∧ Small (f s).1
theorem xor1_ok {v : Int} (hv : 0 ≤ v ∧ v ≤ 24) (y : Int) {r : Int × MS} (hs : r.2.Ok) : MS.Gr r.2 (xor1 v y r).2 ∧ Small (xor1 v y r).1 := by
  have g1 := addM_gr v ⟨1, 0, [y]⟩ r.2
  unfold xor1
  dsimp only
  refine ⟨g1.trans ((addM_gr _ _ _).trans ((addM_gr _ _ _).trans ((addM_gr _ _ _).trans (addM_gr _ _ _)))), addM_small hv _ ?_⟩
  exact (g1.trans ((addM_gr _ _ _).trans ((addM_gr _ _ _).trans (addM_gr _ _ _)))).ok hs
theorem chainX_ok {f : Int → Int × MS → Int × MS} (hf : ∀ y r, r.2.Ok → MS.Gr r.2 (f y r).2 ∧ Small (f y r).1) : ∀ (l : List Int) (r : Int × MS), r.2.Ok → Small r.1 → MS.Gr r.2 (chainX f l r).2 ∧ Small (chainX f l r).1
  | [], r, hs, hx => ⟨MS.Gr.refl _, hx⟩
  | y :: l, r, hs, hx => by
    obtain ⟨h1, h2⟩ := hf y r hs
    obtain ⟨h3, h4⟩ := chainX_ok hf l (f y r) (h1.ok hs) h2
    exact ⟨h1.trans h3, h4⟩
theorem head_small {l : List Int} (hl : ∀ a ∈ l, Small a) : Small (l.headD 0) := by
  match l with
  | [] => exact ⟨Int.le_refl 0, by show (0 : Int) ≤ 1000000; decide⟩
  | a :: _ => exact hl a (by simp)
theorem specM_ok {v : Int} (hv : 0 ≤ v ∧ v ≤ 24) (what : Nat) {d : Nd} (ha : ∀ a ∈ d.args, Small a) (hl : d.args.length ≤ 1000) (hk : what = 0 → 1 ≤ d.k ∧ d.k ≤ 1000) {s : MS} (hs : s.Ok) : MS.Gr s (specM what v d s).2 ∧ Small (specM what v d s).1 := by
  unfold specM
  match what with
  | 0 =>
    have h := leastM_ok hv ha hl d.args.length (Nat.le_refl _) d.k [] s (hk rfl).1 (hk rfl).2 (fun q hq => by cases hq) hs
    exact ⟨h.gr, h.sm⟩
  | 1 => exact chainX_ok (fun y r hr => xor1_ok hv y hr) d.args.tail (d.args.headD 0, s) hs (head_small ha)
  | _ + 2 => exact chainX_ok (f := fun y r => addM v ⟨d.kind, 0, [r.1, y]⟩ r.2) (fun y r hr => ⟨addM_gr _ _ _, addM_small hv _ hr⟩) d.args.tail (d.args.headD 0, s) hs (head_small ha)
theorem nodeM_ok {v : Int} (hv : 0 ≤ v ∧ v ≤ 24) (what : Nat) {d : Nd} (ha : ∀ a ∈ d.args, Small a) (hl : d.args.length ≤ 1000) (hk : specB what d.kind = true → what = 0 → 1 ≤ d.k ∧ d.k ≤ 1000) {s : MS} (hs : s.Ok) : MS.Gr s (nodeM what v d s).2 ∧ Small (nodeM what v d s).1 := by
  unfold nodeM
  split
  · rename_i hB
    exact specM_ok hv what ha hl (hk hB) hs
  · exact ⟨addM_gr _ _ _, addM_small hv _ hs⟩
end Go.GL
