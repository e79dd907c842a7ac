import Derived.DeepKeys4
import Derived.MapKept
import Derived.Test.YtffghipagnjggaaGL80
namespace Go.GL
set_option linter.unusedVariables false
set_option linter.unusedSimpArgs false
def mapE (b : Nat) (es : List MapEntry) (c : Nat) : Ent where
  foot := fun k => k = b
  ok := fun w => w.heap[b]? = some (.map es.toArray c)
  st := fun _ _ h hk => (h.block b rfl).trans hk
section
variable {P : Program} {n : Nat} {S : List (Nat × Value)} {H : List Ent} {A : Array Oper} {Q : Exit → Act → World → Prop}
theorem Mem.newMap {w : World} (hM : Mem H w) : Mem (mapE w.heap.size [] 0 :: H) (w.alloc (.map #[] 0)) := by
  refine Mem.cons (hM.same fun e he => ⟨rfl, rfl, rfl, by simp, fun k hk => ?_⟩) ?_ ?_ ?_
  · have := hM.lt e he k hk
    exact Go.RowKit.Below.heap_alloc w _ k this
  · exact heap_alloc_new w _
  · intro k hk
    cases hk
    simp
  · intro e he k hk hk'
    cases hk
    exact absurd (hM.lt e he _ hk') (by simp)
theorem TOps.makeMap {d t U p e rest} (hn : Nat.blt d n = true) (h : ∀ b, TOps P n ((d, .map (some b)) :: S) (mapE b [] 0 :: H) rest A Q) :
    TOps P n S H (⟨some d, .makeMap t none, U, p, e, none⟩ :: rest) A Q := by
  refine TOps.worldEx (R := fun u H' => ∃ b, u = .map (some b) ∧ H' = mapE b [] 0 :: H) rfl rfl hn (fun a w hS hM => ?_) (fun u H' hR => ?_)
  · exact ⟨.map (some w.heap.size), _, w.alloc (.map #[] 0), ⟨w.heap.size, rfl, rfl⟩, by simp [execOp, Instr.makeMap], hM.newMap⟩
  · obtain ⟨b, rfl, rfl⟩ := hR
    exact h b
theorem TOps.lookupNone {d T x y U p e rest} {K E : TypeId} {b c : Nat} {es : List MapEntry} {kv z : Value} {l : Lit} {g : Bool} {yy : Nat} (hx : opv S x = some (.map (some b))) (hy : opv S y = some kv)
    (ht : P.underlying T = some (.map K E)) (KL : WideMaps.KeyLaw P K) (hk : keyOf P K kv = some l) (hm : mapE b es c ∈ H) (hes : ∀ e ∈ es, ∃ l, keyOf P K e.key = some l) (hno : ∀ e ∈ es, e.key ≠ kv)
    (hz : ∀ w : World, (zeroValue E).run P w = .ok z w) (hn : Nat.blt d n = true) (h : TOps P n ((d, .tuple #[z, .bool false]) :: S) H rest A Q) :
    TOps P n S H (⟨some d, .lookup T x y true, U, p, e, none⟩ :: rest) A Q :=
  TOps.pure rfl rfl hn (fun a w hS hM => by
    have hb : w.heap[b]? = some (.map es.toArray c) := hM.ok _ hm
    rcases KL.find w hk es hes with ⟨h1, _⟩ | ⟨j, e0, _, h2, h3⟩
    · simp [execOp, hS.eval hx, hS.eval hy, Instr.lookup, run_underlying ht, MapKept.run_getObj_map hb, KL.check w _ hk, h1, hz w, Result.andThen]
    · exact absurd h3 (hno e0 (List.mem_of_getElem? h2))) h
theorem TOps.lookupSome {d T x y U p e rest} {K E : TypeId} {b c : Nat} {es : List MapEntry} {kv v : Value} {l : Lit} (hx : opv S x = some (.map (some b))) (hy : opv S y = some kv)
    (ht : P.underlying T = some (.map K E)) (KL : WideMaps.KeyLaw P K) (hk : keyOf P K kv = some l) (hm : mapE b es c ∈ H) (hes : ∀ e ∈ es, ∃ l, keyOf P K e.key = some l) (hyes : ∃ e ∈ es, e.key = kv) (hval : ∀ e ∈ es, e.key = kv → e.val = v)
    (hn : Nat.blt d n = true) (h : TOps P n ((d, .tuple #[v, .bool true]) :: S) H rest A Q) :
    TOps P n S H (⟨some d, .lookup T x y true, U, p, e, none⟩ :: rest) A Q :=
  TOps.pure rfl rfl hn (fun a w hS hM => by
    have hb : w.heap[b]? = some (.map es.toArray c) := hM.ok _ hm
    rcases KL.find w hk es hes with ⟨_, h1⟩ | ⟨j, e0, h1, h2, h3⟩
    · obtain ⟨e, he, hke⟩ := hyes
      exact absurd hke (h1 e he)
    · have hv := hval e0 (List.mem_of_getElem? h2) h3
      simp [execOp, hS.eval hx, hS.eval hy, Instr.lookup, run_underlying ht, MapKept.run_getObj_map hb, KL.check w _ hk, h1, hv, Result.andThen]) h
theorem turn_map {b : Nat} {o : Obj} {w : World} : Turn (fun k => k = b) w { w with heap := w.heap.setIfInBounds b o } :=
  ⟨rfl, rfl, rfl, by simp, fun k _ hk => by
    show (w.heap.setIfInBounds b o)[k]? = w.heap[k]?
    rw [Array.getElem?_setIfInBounds_ne (fun e => hk e.symm)]⟩
theorem TOps.mapPut {T x y z U p e rest} {K E : TypeId} {b c : Nat} {es : List MapEntry} {kv v : Value} {l : Lit} {H' : List Ent} (hx : opv S x = some (.map (some b))) (hy : opv S y = some kv) (hv : opv S z = some v)
    (ht : P.underlying T = some (.map K E)) (KL : WideMaps.KeyLaw P K) (hk : keyOf P K kv = some l) (hu : Upd H (mapE b es c) (mapE b (es ++ [⟨kv, v, c⟩]) (c + 1)) H') (hes : ∀ e ∈ es, ∃ l, keyOf P K e.key = some l) (hno : ∀ e ∈ es, e.key ≠ kv)
    (h : TOps P n S H' rest A Q) : TOps P n S H (⟨none, .mapUpdate T x y z, U, p, e, none⟩ :: rest) A Q :=
  TOps.unit rfl rfl (fun a w hS hM => by
    have hb : w.heap[b]? = some (.map es.toArray c) := hM.ok _ hu.mem
    have hpush : es.toArray.push (⟨kv, v, c⟩ : MapEntry) = (es ++ [(⟨kv, v, c⟩ : MapEntry)]).toArray := by simp
    have hset := (MapKept.heap_set (o' := .map (es ++ [(⟨kv, v, c⟩ : MapEntry)]).toArray (c + 1)) hb).1
    refine ⟨{ w with heap := w.heap.setIfInBounds b (.map (es ++ [(⟨kv, v, c⟩ : MapEntry)]).toArray (c + 1)) }, ?_, hu.sound hM turn_map hset (fun k hk => .inl hk) (fun k hk => by simpa using hM.lt _ hu.mem k hk)⟩
    rcases KL.find w hk es hes with ⟨h1, _⟩ | ⟨j, e0, _, h2, h3⟩
    · simp [execOp, hS.eval hx, hS.eval hy, hS.eval hv, Instr.mapUpdate, run_underlying ht, MapKept.run_getObj_map hb, KL.check w _ hk, h1, MapKept.run_setObj_map _ hb, Result.andThen]
    · exact absurd h3 (hno e0 (List.mem_of_getElem? h2))) h
end
end Go.GL
namespace Go.GL
set_option linter.unusedVariables false
set_option linter.unusedSimpArgs false
structure MS where
  ns : List Nd
  full : Bool
def MS.Ok (s : MS) : Prop := s.ns.length ≤ 128
def addM (v : Int) (d : Nd) (s : MS) : Int × MS := if 128 ≤ s.ns.length then (0, ⟨s.ns, true⟩) else (v + s.ns.length, ⟨s.ns ++ [d], s.full⟩)
def gateM (v kind : Int) (l : List Int) (s : MS) : Int × MS := if l.length = 1 then (l.headD 0, s) else addM v ⟨kind, 0, l⟩ s
abbrev Made := List ((Int × Int) × Int)
def findM (k i : Int) : Made → Option Int
  | [] => none
  | q :: r => if q.1.1 = k ∧ q.1.2 = i then some q.2 else findM k i r
def leastM (v : Int) (args : List Int) : Nat → Int → Made → MS → Int × Made × MS
  | 0, _, m, s => (0, m, s)
  | n + 1, k, m, s =>
    match findM k ((args.length - (n + 1) : Nat) : Int) m with
    | some x => (x, m, s)
    | none => if s.full = true then (0, m, s) else
      if k = 1 then
        let r := gateM v 3 (args.drop (args.length - (n + 1))) s
        (r.1, m ++ [((k, ((args.length - (n + 1) : Nat) : Int)), r.1)], r.2)
      else if k = ((n + 1 : Nat) : Int) then
        let r := gateM v 2 (args.drop (args.length - (n + 1))) s
        (r.1, m ++ [((k, ((args.length - (n + 1) : Nat) : Int)), r.1)], r.2)
      else
        let r1 := leastM v args n (k - 1) m s
        let r2 := addM v ⟨2, 0, [args.getD (args.length - (n + 1)) 0, r1.1]⟩ r1.2.2
        let r3 := leastM v args n k r1.2.1 r2.2
        let r4 := addM v ⟨3, 0, [r2.1, r3.1]⟩ r3.2.2
        (r4.1, r3.2.1 ++ [((k, ((args.length - (n + 1) : Nat) : Int)), r4.1)], r4.2)
def xor1 (v y : Int) (r : Int × MS) : Int × MS :=
  let r1 := addM v ⟨1, 0, [y]⟩ r.2
  let r2 := addM v ⟨2, 0, [r.1, r1.1]⟩ r1.2
  let r3 := addM v ⟨1, 0, [r.1]⟩ r2.2
  let r4 := addM v ⟨2, 0, [r3.1, y]⟩ r3.2
  addM v ⟨3, 0, [r2.1, r4.1]⟩ r4.2
def chainX (f : Int → Int × MS → Int × MS) : List Int → Int × MS → Int × MS
  | [], r => r
  | y :: l, r => chainX f l (f y r)
theorem chainX_snoc (f : Int → Int × MS → Int × MS) (y : Int) : ∀ (l : List Int) (r : Int × MS), chainX f (l ++ [y]) r = f y (chainX f l r)
  | [], r => rfl
  | a :: l, r => by rw [List.cons_append, chainX, chainX]; exact chainX_snoc f y l _
def xorM (v : Int) (l : List Int) (s : MS) : Int × MS := chainX (xor1 v) l.tail (l.headD 0, s)
def binM (v kind : Int) (l : List Int) (s : MS) : Int × MS := chainX (fun y r => addM v ⟨kind, 0, [r.1, y]⟩ r.2) l.tail (l.headD 0, s)
def specB (what : Nat) (kind : Int) : Bool := match what with | 0 => decide (kind = 4) | 1 => decide (kind = 5) | _ => decide (kind = 2) || decide (kind = 3)
def specM (what : Nat) (v : Int) (d : Nd) (s : MS) : Int × MS := match what with
  | 0 => let r := leastM v d.args d.args.length d.k [] s; (r.1, r.2.2)
  | 1 => xorM v d.args s
  | _ => binM v d.kind d.args s
def nodeM (what : Nat) (v : Int) (d : Nd) (s : MS) : Int × MS := if specB what d.kind = true then specM what v d s else addM v d s
def trD (P : List Int) (d : Nd) : Nd := ⟨d.kind, d.k, trI P d.args⟩
def mapS (what : Nat) (v : Nat) (nodes : List Nd) : Nat → List Int × MS
  | 0 => (evI v, ⟨[], false⟩)
  | k + 1 =>
    let s := mapS what v nodes k
    let r := nodeM what v (trD s.1 (nodes.getD k ⟨0, 0, []⟩)) s.2
    (s.1 ++ [r.1], r.2)
def Fm.expS (F : Fm) (what : Nat) : List Int × MS := mapS what F.vars.toNat F.nodes F.nodes.length
def resF (v : Int) (s : MS) (top : Int) : Fm := if s.full = true then Fm.zero else ⟨v, s.ns, top⟩
def resE (s : MS) : Option Int := if s.full = true then some 4 else none
def Fm.expF (F : Fm) (what : Nat) : Fm := match F.err with | some _ => Fm.zero | none => resF F.vars (F.expS what).2 ((F.expS what).1.getD F.top.toNat 0)
def Fm.expE (F : Fm) (what : Nat) : Option Int := match F.err with | some e => some e | none => resE (F.expS what).2
def Fm.plainF (F : Fm) : Fm := match F.expE 0 with | some _ => Fm.zero | none => (F.expF 0).expF 1
def Fm.plainE (F : Fm) : Option Int := match F.expE 0 with | some e => some e | none => (F.expF 0).expE 1
def stepL (f : Int → MS → Int × MS) : List Int → List Int × MS → List Int × MS
  | [], r => r
  | a :: l, r => stepL f l (r.1 ++ [(f a r.2).1], (f a r.2).2)
theorem stepL_snoc (f : Int → MS → Int × MS) (y : Int) : ∀ (l : List Int) (r : List Int × MS), stepL f (l ++ [y]) r = ((stepL f l r).1 ++ [(f y (stepL f l r).2).1], (f y (stepL f l r).2).2)
  | [], r => rfl
  | a :: l, r => by rw [List.cons_append, stepL, stepL]; exact stepL_snoc f y l _
def treeM (v : Nat) (nodes : List Nd) : Nat → Int → MS → Int × MS
  | 0, a, s => (a, s)
  | n + 1, a, s => if a < v ∨ s.full = true then (a, s) else
    let d := nodes.getD (a - v).toNat ⟨0, 0, []⟩
    let r := stepL (treeM v nodes n) d.args ([], s)
    addM v ⟨d.kind, d.k, r.1⟩ r.2
def Fm.treeR (F : Fm) : Int × MS := treeM F.vars.toNat F.nodes F.nodes.length F.top ⟨[], false⟩
def Fm.treeF (F : Fm) : Fm := match F.err with | some _ => Fm.zero | none => resF F.vars F.treeR.2 F.treeR.1
def Fm.treeE (F : Fm) : Option Int := match F.err with | some e => some e | none => resE F.treeR.2
def Small (a : Int) : Prop := 0 ≤ a ∧ a ≤ 1000000
structure MS.Gr (r s : MS) : Prop where
  ok : r.Ok → s.Ok
  full : r.full = true → s.full = true
  pre : ∃ l, s.ns = r.ns ++ l
theorem MS.Gr.refl (s : MS) : MS.Gr s s := ⟨id, id, [], by simp⟩
theorem MS.Gr.trans {a b c : MS} (h : MS.Gr a b) (k : MS.Gr b c) : MS.Gr a c := by
  obtain ⟨l, hl⟩ := h.pre
  obtain ⟨m, hm⟩ := k.pre
  exact ⟨fun o => k.ok (h.ok o), fun o => k.full (h.full o), l ++ m, by rw [hm, hl, List.append_assoc]⟩
theorem addM_gr (v : Int) (d : Nd) (s : MS) : MS.Gr s (addM v d s).2 := by
  unfold addM
  split
  · exact ⟨id, fun _ => rfl, [], by simp⟩
  · exact ⟨fun o => by unfold MS.Ok at *; simp; omega, id, [d], rfl⟩
theorem addM_small {v : Int} (hv : 0 ≤ v ∧ v ≤ 24) (d : Nd) {s : MS} (hs : s.Ok) : Small (addM v d s).1 := by
  unfold MS.Ok at hs
  unfold addM Small
  split
  · exact ⟨Int.le_refl 0, by omega⟩
  · dsimp only; omega
theorem gateM_gr (v kind : Int) (l : List Int) (s : MS) : MS.Gr s (gateM v kind l s).2 := by
  unfold gateM
  split
  · exact MS.Gr.refl s
  · exact addM_gr _ _ _
theorem gateM_small {v : Int} (hv : 0 ≤ v ∧ v ≤ 24) (kind : Int) {l : List Int} (hl : ∀ a ∈ l, Small a) {s : MS} (hs : s.Ok) : Small (gateM v kind l s).1 := by
  unfold gateM
  split
  · match l with
    | [] => exact ⟨Int.le_refl 0, by show (0 : Int) ≤ 1000000; decide⟩
    | a :: _ => exact hl a (by simp)
  · exact addM_small hv _ hs
def MadeOk (m : Made) : Prop := ∀ q ∈ m, Small q.1.1 ∧ Small q.1.2 ∧ Small q.2
theorem findM_ok {m : Made} (h : MadeOk m) {k i x : Int} (hf : findM k i m = some x) : Small x := by
  induction m with
  | nil => cases hf
  | cons q r ih =>
    unfold findM at hf
    split at hf
    · cases hf
      exact (h q (by simp)).2.2
    · exact ih (fun q hq => h q (by simp [hq])) hf
theorem MadeOk.snoc {m : Made} (h : MadeOk m) {k i x : Int} (hk : Small k) (hi : Small i) (hx : Small x) : MadeOk (m ++ [((k, i), x)]) := by
  intro q hq
  rcases List.mem_append.1 hq with hq | hq
  · exact h q hq
  · obtain rfl := List.mem_singleton.1 hq
    exact ⟨hk, hi, hx⟩
structure MadeGr (i : Int) (m m' : Made) : Prop where
  pre : ∃ l, m' = m ++ l ∧ ∀ q ∈ l, i ≤ q.1.2
theorem MadeGr.refl {i : Int} (m : Made) : MadeGr i m m := ⟨[], by simp, by simp⟩
theorem MadeGr.trans {i : Int} {a b c : Made} (h : MadeGr i a b) (k : MadeGr i b c) : MadeGr i a c := by
  obtain ⟨l, rfl, hl⟩ := h.pre
  obtain ⟨m, rfl, hm⟩ := k.pre
  exact ⟨l ++ m, by rw [List.append_assoc], fun q hq => (List.mem_append.1 hq).elim (hl q) (hm q)⟩
theorem MadeGr.mono {i j : Int} {a b : Made} (h : MadeGr i a b) (hj : j ≤ i) : MadeGr j a b := by
  obtain ⟨l, hl, h2⟩ := h.pre
  exact ⟨l, hl, fun q hq => Int.le_trans hj (h2 q hq)⟩
theorem MadeGr.snoc {i k x : Int} (m : Made) : MadeGr i m (m ++ [((k, i), x)]) := ⟨[((k, i), x)], rfl, fun q hq => by obtain rfl := List.mem_singleton.1 hq; exact Int.le_refl _⟩
theorem findM_append {k i : Int} : ∀ (m l : Made), findM k i m = none → findM k i l = none → findM k i (m ++ l) = none
  | [], l, _, h => h
  | q :: r, l, h, h2 => by
    unfold findM at h
    rw [List.cons_append]
    unfold findM
    split at h
    · cases h
    · rename_i hq
      rw [if_neg hq]
      exact findM_append r l h h2
theorem findM_none {k i : Int} : ∀ (m : Made), (∀ q ∈ m, ¬ (q.1.1 = k ∧ q.1.2 = i)) → findM k i m = none
  | [], _ => rfl
  | q :: r, h => by
    unfold findM
    rw [if_neg (h q (by simp))]
    exact findM_none r (fun q hq => h q (by simp [hq]))
theorem findM_none_iff {k i : Int} : ∀ (m : Made), findM k i m = none → ∀ q ∈ m, ¬ (q.1.1 = k ∧ q.1.2 = i)
  | [], _, q, hq => by cases hq
  | p :: r, h, q, hq => by
    unfold findM at h
    split at h
    · cases h
    · rename_i hp
      rcases List.mem_cons.1 hq with rfl | hq
      · exact hp
      · exact findM_none_iff r h q hq
theorem MadeGr.none {k i : Int} {m m' : Made} (h : MadeGr (i + 1) m m') (hf : findM k i m = .none) : findM k i m' = .none := by
  obtain ⟨l, rfl, hl⟩ := h.pre
  refine findM_append m l hf (findM_none l fun q hq h => ?_)
  have := hl q hq
  omega
structure LeastOk (v i : Int) (m : Made) (s : MS) (r : Int × Made × MS) : Prop where
  gr : MS.Gr s r.2.2
  sm : Small r.1
  md : MadeOk r.2.1
  gm : MadeGr i m r.2.1
theorem leastM_ok {v : Int} (hv : 0 ≤ v ∧ v ≤ 24) {args : List Int} (ha : ∀ a ∈ args, Small a) (hl : args.length ≤ 1000) : ∀ (n : Nat), n ≤ args.length → ∀ (k : Int) (m : Made) (s : MS), 1 ≤ k → k ≤ 1000 → MadeOk m → s.Ok → LeastOk v ((args.length - n : Nat) : Int) m s (leastM v args n k m s)
  | 0, hn, k, m, s, hk, hk2, hm, hs => ⟨MS.Gr.refl s, ⟨Int.le_refl 0, by show (0 : Int) ≤ 1000000; decide⟩, hm, MadeGr.refl m⟩
  | n + 1, hn, k, m, s, hk, hk2, hm, hs => by
    have hz : Small 0 := ⟨Int.le_refl 0, by decide⟩
    have hkS : Small k := ⟨by omega, by omega⟩
    have hiS : Small ((args.length - (n + 1) : Nat) : Int) := ⟨by omega, by omega⟩
    unfold leastM
    split
    · rename_i x hx
      exact ⟨MS.Gr.refl s, findM_ok hm hx, hm, MadeGr.refl m⟩
    · split
      · exact ⟨MS.Gr.refl s, hz, hm, MadeGr.refl m⟩
      · split
        · have h1 := gateM_small hv 3 (l := args.drop (args.length - (n + 1))) (fun a h => ha a (List.mem_of_mem_drop h)) hs
          exact ⟨gateM_gr _ _ _ _, h1, hm.snoc hkS hiS h1, MadeGr.snoc m⟩
        · split
          · have h1 := gateM_small hv 2 (l := args.drop (args.length - (n + 1))) (fun a h => ha a (List.mem_of_mem_drop h)) hs
            exact ⟨gateM_gr _ _ _ _, h1, hm.snoc hkS hiS h1, MadeGr.snoc m⟩
          · rename_i hk1 _
            have r1 := leastM_ok hv ha hl n (by omega) (k - 1) m s (by omega) (by omega) hm hs
            have g2 := addM_gr v ⟨2, 0, [args.getD (args.length - (n + 1)) 0, (leastM v args n (k - 1) m s).1]⟩ (leastM v args n (k - 1) m s).2.2
            have r3 := leastM_ok hv ha hl n (by omega) k _ (addM v ⟨2, 0, [args.getD (args.length - (n + 1)) 0, (leastM v args n (k - 1) m s).1]⟩ (leastM v args n (k - 1) m s).2.2).2 hk hk2 r1.md (g2.ok (r1.gr.ok hs))
            have o3 := r3.gr.ok (g2.ok (r1.gr.ok hs))
            have x4 := addM_small hv ⟨3, 0, [(addM v ⟨2, 0, [args.getD (args.length - (n + 1)) 0, (leastM v args n (k - 1) m s).1]⟩ (leastM v args n (k - 1) m s).2.2).1, (leastM v args n k (leastM v args n (k - 1) m s).2.1 (addM v ⟨2, 0, [args.getD (args.length - (n + 1)) 0, (leastM v args n (k - 1) m s).1]⟩ (leastM v args n (k - 1) m s).2.2).2).1]⟩ o3
            refine ⟨(r1.gr.trans g2).trans (r3.gr.trans (addM_gr _ _ _)), x4, r3.md.snoc hkS hiS x4, ?_⟩
            exact ((r1.gm.mono (by omega)).trans (r3.gm.mono (by omega))).trans (MadeGr.snoc _)
def Kept (v : Int) (f : MS → Int × MS) : Prop := ∀ s : MS, s.Ok → MS.Gr s (f s).2 ∧ Small (f s).1
theorem xor1_ok {v : Int} (hv : 0 ≤ v ∧ v ≤ 24) (y : Int) {r : Int × MS} (hs : r.2.Ok) : MS.Gr r.2 (xor1 v y r).2 ∧ Small (xor1 v y r).1 := by
  have g1 := addM_gr v ⟨1, 0, [y]⟩ r.2
  unfold xor1
  dsimp only
  refine ⟨g1.trans ((addM_gr _ _ _).trans ((addM_gr _ _ _).trans ((addM_gr _ _ _).trans (addM_gr _ _ _)))), addM_small hv _ ?_⟩
  exact (g1.trans ((addM_gr _ _ _).trans ((addM_gr _ _ _).trans (addM_gr _ _ _)))).ok hs
theorem chainX_ok {f : Int → Int × MS → Int × MS} (hf : ∀ y r, r.2.Ok → MS.Gr r.2 (f y r).2 ∧ Small (f y r).1) : ∀ (l : List Int) (r : Int × MS), r.2.Ok → Small r.1 → MS.Gr r.2 (chainX f l r).2 ∧ Small (chainX f l r).1
  | [], r, hs, hx => ⟨MS.Gr.refl _, hx⟩
  | y :: l, r, hs, hx => by
    obtain ⟨h1, h2⟩ := hf y r hs
    obtain ⟨h3, h4⟩ := chainX_ok hf l (f y r) (h1.ok hs) h2
    exact ⟨h1.trans h3, h4⟩
theorem head_small {l : List Int} (hl : ∀ a ∈ l, Small a) : Small (l.headD 0) := by
  match l with
  | [] => exact ⟨Int.le_refl 0, by show (0 : Int) ≤ 1000000; decide⟩
  | a :: _ => exact hl a (by simp)
theorem specM_ok {v : Int} (hv : 0 ≤ v ∧ v ≤ 24) (what : Nat) {d : Nd} (ha : ∀ a ∈ d.args, Small a) (hl : d.args.length ≤ 1000) (hk : what = 0 → 1 ≤ d.k ∧ d.k ≤ 1000) {s : MS} (hs : s.Ok) : MS.Gr s (specM what v d s).2 ∧ Small (specM what v d s).1 := by
  unfold specM
  match what with
  | 0 =>
    have h := leastM_ok hv ha hl d.args.length (Nat.le_refl _) d.k [] s (hk rfl).1 (hk rfl).2 (fun q hq => by cases hq) hs
    exact ⟨h.gr, h.sm⟩
  | 1 => exact chainX_ok (fun y r hr => xor1_ok hv y hr) d.args.tail (d.args.headD 0, s) hs (head_small ha)
  | _ + 2 => exact chainX_ok (f := fun y r => addM v ⟨d.kind, 0, [r.1, y]⟩ r.2) (fun y r hr => ⟨addM_gr _ _ _, addM_small hv _ hr⟩) d.args.tail (d.args.headD 0, s) hs (head_small ha)
theorem nodeM_ok {v : Int} (hv : 0 ≤ v ∧ v ≤ 24) (what : Nat) {d : Nd} (ha : ∀ a ∈ d.args, Small a) (hl : d.args.length ≤ 1000) (hk : specB what d.kind = true → what = 0 → 1 ≤ d.k ∧ d.k ≤ 1000) {s : MS} (hs : s.Ok) : MS.Gr s (nodeM what v d s).2 ∧ Small (nodeM what v d s).1 := by
  unfold nodeM
  split
  · rename_i hB
    exact specM_ok hv what ha hl (hk hB) hs
  · exact ⟨addM_gr _ _ _, addM_small hv _ hs⟩
end Go.GL
namespace Go.GL
set_option linter.unusedVariables false
set_option linter.unusedSimpArgs false
abbrev pairV (k i : Int) : Value := .agg (List.toArray [.int .i64 k, .int .i64 i])
structure Key2 (P : Program) (K : TypeId) : Prop where
  law : WideMaps.KeyLaw P K
  has : ∀ k i : Int, I64 k → I64 i → ∃ l, keyOf P K (pairV k i) = some l
theorem wf64 {z : Int} (h : I64 z) : (Lit.int .i64 z).wf = true := by
  unfold I64 at h
  simp [Lit.wf]
  exact h
theorem Key2.mk' {P : Program} {K E : TypeId} (hl : laidOutB P = true) (hu : P.underlying K = some (.array 2 E)) (he : P.underlying E = some (.int .i64)) (hk : P.keyType K = true) (hrow : K < P.types.size) (hm : P.types.size + 1 + 1 ≤ 10000) (hc : P.cellsOf K = 2) (hce : P.cellsOf E = 1) : Key2 P K := by
  refine ⟨deep_law_laid hl hm hrow hk (by rw [hu]), fun k i h1 h2 => ?_⟩
  unfold keyOf
  rw [hu]
  have hf : Value.formed P K (pairV k i) = true := by simp [Value.formed, hu, hc]
  simp only [hk, hf, Bool.and_self, if_true]
  have hlit : P.keyLits (P.types.size + 1) K (pairV k i).cells.toList = some [.int .i64 k, .int .i64 i] := by
    obtain ⟨m, hsz⟩ : ∃ m, P.types.size = m + 1 := ⟨P.types.size - 1, by have : 0 < P.types.size := Nat.lt_of_le_of_lt (Nat.zero_le _) hrow; omega⟩
    rw [hsz]
    have w1 := wf64 h1
    have w2 := wf64 h2
    simp [Program.keyLits, hu, he, hc, hce, Value.cells, List.range_succ, w1, w2]
  rw [hlit]
  exact ⟨_, rfl⟩
def madeE : Made → Nat → List MapEntry
  | [], _ => []
  | q :: r, c => ⟨pairV q.1.1 q.1.2, .int .i64 q.2, c⟩ :: madeE r (c + 1)
theorem madeE_snoc (q : (Int × Int) × Int) : ∀ (m : Made) (c : Nat), madeE (m ++ [q]) c = madeE m c ++ [⟨pairV q.1.1 q.1.2, .int .i64 q.2, c + m.length⟩]
  | [], c => rfl
  | p :: r, c => by
    rw [List.cons_append, madeE, madeE_snoc q r (c + 1), madeE]
    simp
    omega
theorem mem_madeE {e : MapEntry} : ∀ {m : Made} {c : Nat}, e ∈ madeE m c → ∃ q ∈ m, e.key = pairV q.1.1 q.1.2 ∧ e.val = .int .i64 q.2
  | [], _, h => by cases h
  | q :: r, c, h => by
    rcases List.mem_cons.1 h with rfl | h
    · exact ⟨q, by simp, rfl, rfl⟩
    · obtain ⟨p, hp, h2⟩ := mem_madeE h
      exact ⟨p, by simp [hp], h2⟩
theorem madeE_mem {q : (Int × Int) × Int} : ∀ {m : Made} (c : Nat), q ∈ m → ∃ e ∈ madeE m c, e.key = pairV q.1.1 q.1.2 ∧ e.val = .int .i64 q.2
  | [], _, h => by cases h
  | p :: r, c, h => by
    rcases List.mem_cons.1 h with rfl | h
    · exact ⟨_, by simp [madeE]; exact .inl rfl, rfl, rfl⟩
    · obtain ⟨e, he, h2⟩ := madeE_mem (c + 1) h
      exact ⟨e, by simp [madeE, he], h2⟩
theorem pairV_inj {a b c d : Int} (h : pairV a b = pairV c d) : a = c ∧ b = d := by
  simp only [pairV, Value.agg.injEq] at h
  have := congrArg Array.toList h
  simp at this
  exact this
def MadeU (m : Made) : Prop := m.Pairwise (fun p q => p.1 ≠ q.1)
theorem MadeU.snoc {m : Made} (h : MadeU m) {k i x : Int} (hf : findM k i m = none) : MadeU (m ++ [((k, i), x)]) := by
  refine List.pairwise_append.2 ⟨h, List.pairwise_singleton _ _, fun p hp q hq => ?_⟩
  obtain rfl := List.mem_singleton.1 hq
  have := findM_none_iff m hf p hp
  intro e
  exact this ⟨congrArg Prod.fst e, congrArg Prod.snd e⟩
theorem findM_mem {k i x : Int} : ∀ {m : Made}, findM k i m = some x → ((k, i), x) ∈ m
  | [], h => by cases h
  | q :: r, h => by
    unfold findM at h
    split at h
    · rename_i hq
      cases h
      obtain ⟨⟨a, b⟩, c⟩ := q
      obtain ⟨rfl, rfl⟩ := hq
      simp
    · simp [findM_mem h]
theorem MadeU.same {m : Made} (h : MadeU m) {p q : (Int × Int) × Int} (hp : p ∈ m) (hq : q ∈ m) (e : p.1 = q.1) : p = q := by
  induction m with
  | nil => cases hp
  | cons a r ih =>
    obtain ⟨h1, h2⟩ := List.pairwise_cons.1 h
    rcases List.mem_cons.1 hp with rfl | hp' <;> rcases List.mem_cons.1 hq with rfl | hq'
    · rfl
    · exact absurd e (h1 _ hq')
    · exact absurd e.symm (h1 _ hp')
    · exact ih h2 hp' hq'
def madeEnt (b : Nat) (m : Made) : Ent := mapE b (madeE m 0) m.length
section
variable {P : Program} {n : Nat} {S : List (Nat × Value)} {H : List Ent} {A : Array Oper} {Q : Exit → Act → World → Prop}
theorem MadeOk.keys {K : TypeId} (K2 : Key2 P K) {m : Made} (hm : MadeOk m) {c : Nat} : ∀ e ∈ madeE m c, ∃ l, keyOf P K e.key = some l := by
  intro e he
  obtain ⟨q, hq, h1, _⟩ := mem_madeE he
  rw [h1]
  have := hm q hq
  unfold Small at this
  exact K2.has _ _ (by unfold I64; omega) (by unfold I64; omega)
theorem TOps.makeMade {d t U p e rest} (hn : Nat.blt d n = true) (h : ∀ b, TOps P n ((d, .map (some b)) :: S) (madeEnt b [] :: H) rest A Q) :
    TOps P n S H (⟨some d, .makeMap t none, U, p, e, none⟩ :: rest) A Q := TOps.makeMap hn h
theorem TOps.lookMade {d T x y U p e rest} {K E : TypeId} {b : Nat} {m : Made} {k i : Int} (K2 : Key2 P K) (hx : opv S x = some (.map (some b))) (hy : opv S y = some (pairV k i))
    (ht : P.underlying T = some (.map K E)) (hz : ∀ w : World, (zeroValue E).run P w = .ok (.int .i64 0) w) (hm : madeEnt b m ∈ H) (ho : MadeOk m) (hu : MadeU m) (hk : I64 k) (hi : I64 i) (hn : Nat.blt d n = true)
    (h : TOps P n ((d, .tuple (List.toArray [.int .i64 ((findM k i m).getD 0), .bool (findM k i m).isSome])) :: S) H rest A Q) :
    TOps P n S H (⟨some d, .lookup T x y true, U, p, e, none⟩ :: rest) A Q := by
  obtain ⟨l, hl⟩ := K2.has k i hk hi
  cases hf : findM k i m with
  | none =>
    rw [hf] at h
    refine TOps.lookupNone (g := true) (yy := 0) hx hy ht K2.law hl hm (ho.keys K2) (fun e he hke => ?_) hz hn h
    obtain ⟨q, hq, h1, _⟩ := mem_madeE he
    rw [h1] at hke
    exact findM_none_iff m hf q hq (pairV_inj hke)
  | some v =>
    rw [hf] at h
    have hmm := findM_mem hf
    refine TOps.lookupSome hx hy ht K2.law hl hm (ho.keys K2) ?_ (fun e he hke => ?_) hn h
    · obtain ⟨e, he, h1, _⟩ := madeE_mem 0 hmm
      exact ⟨e, he, h1⟩
    · obtain ⟨q, hq, h1, h2⟩ := mem_madeE he
      rw [h1] at hke
      obtain ⟨e1, e2⟩ := pairV_inj hke
      have := hu.same hq hmm (Prod.ext e1 e2)
      rw [h2, this]
      rfl
theorem TOps.putMade {T x y z U p e rest} {K E : TypeId} {b : Nat} {m : Made} {k i v : Int} {H' : List Ent} (K2 : Key2 P K) (hx : opv S x = some (.map (some b))) (hy : opv S y = some (pairV k i)) (hv : opv S z = some (.int .i64 v))
    (ht : P.underlying T = some (.map K E)) (hu : Upd H (madeEnt b m) (madeEnt b (m ++ [((k, i), v)])) H') (ho : MadeOk m) (hk : I64 k) (hi : I64 i) (hf : findM k i m = none)
    (h : TOps P n S H' rest A Q) : TOps P n S H (⟨none, .mapUpdate T x y z, U, p, e, none⟩ :: rest) A Q := by
  obtain ⟨l, hl⟩ := K2.has k i hk hi
  refine TOps.mapPut (es := madeE m 0) (c := m.length) hx hy hv ht K2.law hl (H' := H') ?_ (ho.keys K2) (fun e he hke => ?_) h
  · have : mapE b (madeE m 0 ++ [⟨pairV k i, .int .i64 v, m.length⟩]) (m.length + 1) = madeEnt b (m ++ [((k, i), v)]) := by
      unfold madeEnt
      rw [madeE_snoc]
      simp
    rw [this]
    exact hu
  · obtain ⟨q, hq, h1, _⟩ := mem_madeE he
    rw [h1] at hke
    exact findM_none_iff m hf q hq (pairV_inj hke)
end
theorem leastM_u {v : Int} {args : List Int} : ∀ (n : Nat), n ≤ args.length → ∀ (k : Int) (m : Made) (s : MS), MadeU m → (findM k ((args.length - n : Nat) : Int) m = none → True) → MadeU (leastM v args n k m s).2.1 ∧ MadeGr ((args.length - n : Nat) : Int) m (leastM v args n k m s).2.1
  | 0, hn, k, m, s, hu, _ => ⟨hu, MadeGr.refl m⟩
  | n + 1, hn, k, m, s, hu, _ => by
    unfold leastM
    split
    · exact ⟨hu, MadeGr.refl m⟩
    · rename_i hf
      split
      · exact ⟨hu, MadeGr.refl m⟩
      · split
        · exact ⟨hu.snoc hf, MadeGr.snoc m⟩
        · split
          · exact ⟨hu.snoc hf, MadeGr.snoc m⟩
          · obtain ⟨u1, g1⟩ := leastM_u (v := v) (args := args) n (by omega) (k - 1) m s hu (fun _ => trivial)
            obtain ⟨u3, g3⟩ := leastM_u (v := v) (args := args) n (by omega) k (leastM v args n (k - 1) m s).2.1 (addM v ⟨2, 0, [args.getD (args.length - (n + 1)) 0, (leastM v args n (k - 1) m s).1]⟩ (leastM v args n (k - 1) m s).2.2).2 u1 (fun _ => trivial)
            have e1 : (((args.length - (n + 1) : Nat) : Int) + 1) = ((args.length - n : Nat) : Int) := by omega
            have q1 := MadeGr.none (i := ((args.length - (n + 1) : Nat) : Int)) (by rw [e1]; exact g1) hf
            have q3 := MadeGr.none (i := ((args.length - (n + 1) : Nat) : Int)) (by rw [e1]; exact g3) q1
            exact ⟨u3.snoc q3, ((MadeGr.mono (j := ((args.length - (n + 1) : Nat) : Int)) g1 (by omega)).trans (MadeGr.mono g3 (by omega))).trans (MadeGr.snoc _)⟩
def mkE (T TN : TypeId) (b : Nat) (v : Int) (m : MS) (s : BS) (HB : List Ent) : List Ent :=
  row (some b) T 3 1 [.int .i64 v, slV s.oa 0 m.ns.length s.cap, .bool m.full] :: row s.oa TN 3 s.cap (nsCells m.ns s.qs) :: (s.N ++ HB)
section
variable {T TN : TypeId} {b : Nat} {v : Int} {m : MS} {s : BS} {HB : List Ent}
theorem mkE_le : Le (mkE T TN b v m s HB) HB := Le.drop (Le.drop (Le.sub (List.sublist_append_right _ _)))
theorem mkE_sub : HB.Sublist (mkE T TN b v m s HB) := List.Sublist.cons _ (List.Sublist.cons _ (List.sublist_append_right _ _))
theorem mkE_rd : Rd (mkE T TN b v m s HB) b 0 [.int .i64 v, slV s.oa 0 m.ns.length s.cap, .bool m.full] := Rd.all (List.Mem.head _)
theorem mkE_nodes (h : s.ok m.ns) : RNodes (mkE T TN b v m s HB) s.oa 0 m.ns :=
  RNodes.ofA (E := TN) (sz := 3) (cap := s.cap) (List.Mem.tail _ (List.Mem.head _)) (h.a.le (Le.drop (Le.drop (Le.sub (List.sublist_append_left _ _))))) h.o
theorem mkE_new : Le (row (some b) T 3 1 [.int .i64 v, slV none 0 0 0, .bool false] :: HB) (mkE T TN b v ⟨[], false⟩ BS.new HB) :=
  Le.trans (Le.addNil (E := TN) (sz := 3)) Le.swap
theorem mkE_in {e : Ent} : Le (e :: mkE T TN b v m s HB) (mkE T TN b v m s (e :: HB)) :=
  Le.perm ((List.Perm.swap _ _ _).trans (List.Perm.cons _ ((List.Perm.swap _ _ _).trans (List.Perm.cons _ List.perm_middle.symm))))
theorem mkE_out {e : Ent} : Le (mkE T TN b v m s (e :: HB)) (e :: mkE T TN b v m s HB) :=
  Le.perm ((List.Perm.swap _ _ _).trans (List.Perm.cons _ ((List.Perm.swap _ _ _).trans (List.Perm.cons _ List.perm_middle.symm)))).symm
theorem mkE_inA (A : List Ent) : Le (A ++ mkE T TN b v m s HB) (mkE T TN b v m s (A ++ HB)) := by
  induction A with
  | nil => exact Le.refl _
  | cons e A ih =>
    refine Le.trans ?_ (mkE_in (HB := A ++ HB))
    intro w h
    obtain ⟨h1, h2, h3, h4⟩ := h
    refine ⟨h1, h2, fun e' he' => h3 e' ?_, ih w h4⟩
    show e' ∈ A ++ mkE T TN b v m s HB
    unfold mkE at he' ⊢
    simp only [List.mem_cons, List.mem_append] at he' ⊢
    rcases he' with h | h | h | h | h
    · exact .inr (.inl h)
    · exact .inr (.inr (.inl h))
    · exact .inr (.inr (.inr (.inl h)))
    · exact .inl h
    · exact .inr (.inr (.inr (.inr h)))
theorem mkE_mono {HC : List Ent} (h : HC.Sublist HB) : Le (mkE T TN b v m s HB) (mkE T TN b v m s HC) :=
  Le.sub (List.Sublist.cons_cons _ (List.Sublist.cons_cons _ ((List.Sublist.refl _).append h)))
theorem Upd.mkE {H' : List Ent} {e e' : Ent} (u : Upd HB e e' H') : Upd (mkE T TN b v m s HB) e e' (GL.mkE T TN b v m s H') := Upd.there (Upd.there (Upd.app u _))
theorem mkE_perm {A : List Ent} : Le (A ++ mkE T TN b v m s HB) (row (some b) T 3 1 [.int .i64 v, slV s.oa 0 m.ns.length s.cap, .bool m.full] :: row s.oa TN 3 s.cap (nsCells m.ns s.qs) :: ((A ++ s.N) ++ HB)) := by
  refine Le.perm ?_
  unfold mkE
  rw [List.append_assoc]
  exact List.perm_middle.trans (List.Perm.cons _ List.perm_middle)
theorem mk_close {e h r : Ent} {N A HB : List Ent} : Le (e :: h :: r :: (N ++ (A ++ HB))) (h :: r :: ((e :: N) ++ HB)) :=
  Le.trans (Le.sub (List.Sublist.cons_cons _ (List.Sublist.cons_cons _ (List.Sublist.cons_cons _ ((List.Sublist.refl N).append (List.sublist_append_right A HB))))))
    (Le.perm ((List.Perm.swap _ _ _).trans (List.Perm.cons _ (List.Perm.swap _ _ _))))
theorem mk_same {h r : Ent} {N A HB : List Ent} : Le (h :: r :: (N ++ (A ++ HB))) (h :: r :: (N ++ HB)) :=
  Le.sub (List.Sublist.cons_cons _ (List.Sublist.cons_cons _ ((List.Sublist.refl N).append (List.sublist_append_right A HB))))
theorem mk_same2 {h r : Ent} {N A HB : List Ent} : Le (h :: r :: ((A ++ N) ++ HB)) (h :: r :: (N ++ HB)) :=
  Le.sub (List.Sublist.cons_cons _ (List.Sublist.cons_cons _ ((List.sublist_append_right A N).append (List.Sublist.refl HB))))
def MkR (T TN : TypeId) (b : Nat) (v : Int) (r : Int × MS) (HB : List Ent) : Value → List Ent → Prop := fun u H' =>
  ∃ s' : BS, u = .int .i64 r.1 ∧ s'.ok r.2.ns ∧ mkE T TN b v r.2 s' HB = H'
theorem addM_full {v : Int} {d : Nd} {m : MS} (h : 128 ≤ m.ns.length) : addM v d m = (0, ⟨m.ns, true⟩) := if_pos h
theorem addM_room {v : Int} {d : Nd} {m : MS} (h : ¬ 128 ≤ m.ns.length) : addM v d m = (v + m.ns.length, ⟨m.ns ++ [d], m.full⟩) := if_neg h
end
end Go.GL
namespace Go.GL
set_option linter.unusedVariables false
set_option linter.unusedSimpArgs false
section
variable {v k : Int} {args : List Int} {n i : Nat} {m : Made} {ms : MS}
theorem leastM_early (hi : args.length - (n + 1) = i) (h : findM k (i : Int) m ≠ none ∨ ms.full = true) : leastM v args (n + 1) k m ms = ((findM k (i : Int) m).getD 0, m, ms) := by
  unfold leastM
  rw [hi]
  cases hf : findM k (i : Int) m with
  | some x => rfl
  | none =>
    rcases h with h | h
    · exact absurd hf h
    · rw [h]; rfl
theorem leastM_or (hi : args.length - (n + 1) = i) (hf : findM k (i : Int) m = none) (hu : ms.full = false) (hk : k = 1) :
    leastM v args (n + 1) k m ms = ((gateM v 3 (args.drop i) ms).1, m ++ [((k, (i : Int)), (gateM v 3 (args.drop i) ms).1)], (gateM v 3 (args.drop i) ms).2) := by
  unfold leastM
  rw [hi, hf, hu]
  dsimp only
  rw [if_neg (by decide), if_pos hk]
theorem leastM_and (hi : args.length - (n + 1) = i) (hf : findM k (i : Int) m = none) (hu : ms.full = false) (hk : k ≠ 1) (hn : k = ((n + 1 : Nat) : Int)) :
    leastM v args (n + 1) k m ms = ((gateM v 2 (args.drop i) ms).1, m ++ [((k, (i : Int)), (gateM v 2 (args.drop i) ms).1)], (gateM v 2 (args.drop i) ms).2) := by
  unfold leastM
  rw [hi, hf, hu]
  dsimp only
  rw [if_neg (by decide), if_neg hk, if_pos hn]
theorem leastM_two (hi : args.length - (n + 1) = i) (hf : findM k (i : Int) m = none) (hu : ms.full = false) (hk : k ≠ 1) (hn : k ≠ ((n + 1 : Nat) : Int)) {r1 : Int × Made × MS} (h1 : leastM v args n (k - 1) m ms = r1) {r2 : Int × MS} (h2 : addM v ⟨2, 0, [args.getD i 0, r1.1]⟩ r1.2.2 = r2)
    {r3 : Int × Made × MS} (h3 : leastM v args n k r1.2.1 r2.2 = r3) {r4 : Int × MS} (h4 : addM v ⟨3, 0, [r2.1, r3.1]⟩ r3.2.2 = r4) :
    leastM v args (n + 1) k m ms = (r4.1, r3.2.1 ++ [((k, (i : Int)), r4.1)], r4.2) := by
  unfold leastM
  rw [hi, hf, hu]
  dsimp only
  rw [if_neg (by decide), if_neg hk, if_neg hn, h1, h2, h3, h4]
end
theorem gateM_two {v kind a b : Int} {ms : MS} : gateM v kind [a, b] ms = addM v ⟨kind, 0, [a, b]⟩ ms := if_neg (by simp)
abbrev snocM (m : Made) (k i x : Int) : Made := m ++ [((k, i), x)]
def LeastMid (v : Int) (args : List Int) (n : Nat) (k : Int) (i : Nat) (m : Made) (ms : MS) (y : BS × Int × Made × MS) : Prop :=
  y.1.ok y.2.2.2.ns ∧ findM k (i : Int) y.2.2.1 = none ∧ MadeOk y.2.2.1 ∧ leastM v args (n + 1) k m ms = (y.2.1, y.2.2.1 ++ [((k, (i : Int)), y.2.1)], y.2.2.2)
def LeastR (T TN : TypeId) (b : Nat) (v : Int) (mb : Nat) (e : Ent) (r : Int × Made × MS) (HB : List Ent) : Value → List Ent → Prop := fun u H' =>
  ∃ s' : BS, u = .int .i64 r.1 ∧ s'.ok r.2.2.ns ∧ mkE T TN b v r.2.2 s' (e :: madeEnt mb r.2.1 :: HB) = H'
theorem mkE_permB {T TN : TypeId} {b : Nat} {v : Int} {m : MS} {s : BS} {HB HC : List Ent} (h : HB.Perm HC) : Le (mkE T TN b v m s HB) (mkE T TN b v m s HC) :=
  Le.perm (List.Perm.cons _ (List.Perm.cons _ (List.Perm.append_left _ h)))
theorem mem_mkE {T TN : TypeId} {b : Nat} {v : Int} {m : MS} {s : BS} {HB : List Ent} {e : Ent} (h : e ∈ HB) : e ∈ mkE T TN b v m s HB :=
  List.Mem.tail _ (List.Mem.tail _ (List.mem_append_right _ h))
theorem Small.i64 {a : Int} (h : Small a) : I64 a := by unfold Small at h; unfold I64; omega
theorem TOps.buildArr {P : Program} {n : Nat} {S : List (Nat × Value)} {H : List Ent} {A : Array Oper} {Q : Exit → Act → World → Prop} {d T U p e rest} {parts : List (Nat × Operand)} {vs zs zs' xs : List Value} {sz y m sz' y' : Nat} {E : TypeId} {g' : Bool} (hT : P.underlying T = some (.array m E)) (ht : TI P T true zs sz y) (hE : TI P E g' zs' sz' y')
    (hp : PartsAre S parts (numb 0 vs)) (hl : Nat.beq zs.length (vs.length * sz') = true) (hcells : (vs.all fun v => Nat.beq v.cells.toList.length sz') = true) (hxs : vs.flatMap (fun v => v.cells.toList) = xs) (hn : Nat.blt d n = true)
    (h : TOps P n ((d, .agg xs.toArray) :: S) H rest A Q) : TOps P n S H (⟨some d, .build T parts.toArray, U, p, e, none⟩ :: rest) A Q :=
  TOps.pure rfl rfl hn (fun ac w hS _ => by
    obtain ⟨i, z, h1, h2, h3, h4, h5⟩ := ht.i
    have hfill := fill_seq sz' vs 0 [] zs (fun v hv => by simpa using List.all_eq_true.1 hcells v hv) (by simp) (Nat.eq_of_beq_eq_true hl)
    simp only [List.nil_append, hxs] at hfill
    have he := hp.eval hS
    have hq : (Array.map (fun x : Nat × Operand => (x.1, ac.eval x.2)) parts.toArray).toList = numb 0 vs := by simpa using he
    simp only [execOp, Instr.build, Sem.run_bind, zeroValue, typeInfo, run_program, Result.andThen_ok, h1, h2, Sem.run_pure, run_underlying hT, h3, hE.size]
    rw [hq, hfill]
    rfl) h
end Go.GL
namespace Go.GL
set_option linter.unusedVariables false
set_option linter.unusedSimpArgs false
structure SpOk (d : Nd) : Prop where
  k0 : 0 ≤ d.kind ∧ d.kind ≤ 5
  kk : I64 d.k
  len : d.args.length ≤ 16
  ne : 2 ≤ d.kind → d.args ≠ []
  vote : d.kind = 4 → 1 ≤ d.k ∧ d.k ≤ d.args.length
  sm : ∀ a ∈ d.args, Small a
def specV (what : Nat) (v : Int) (d : Nd) (s : MS) : Int × MS := if specB what d.kind = true then specM what v d s else (0, s)
def SpecR (T TN : TypeId) (b : Nat) (v : Int) (what : Nat) (d : Nd) (ms : MS) (HB : List Ent) : Value → List Ent → Prop := fun u H' =>
  ∃ s' : BS, u = .tuple (List.toArray [.int .i64 (specV what v d ms).1, .bool (specB what d.kind)]) ∧ s'.ok (specV what v d ms).2.ns ∧ mkE T TN b v (specV what v d ms).2 s' HB = H'
def SpecGives (P : Program) (T TN : TypeId) (f : FuncId) (what : Nat) : Prop := ∀ (HB : List Ent) (bb : Nat) (v : Int) (ms : MS) (s : BS) (d : Nd) (aa : Option Nat) (ac m : Nat), d.args.length = m → s.ok ms.ns → ms.Ok → 0 ≤ v ∧ v ≤ 24 → SpOk d → RInts HB aa 0 d.args none → m ≤ ac → ac ≤ 9223372036854775807 →
  Gives P f [.pointer (some ⟨bb, 0, none⟩), .agg (List.toArray [.int .i64 d.kind, .int .i64 d.k, slV aa 0 m ac])] (mkE T TN bb v ms s HB) (SpecR T TN bb v what d ms HB)
theorem TOps.rowCapO {P : Program} {n : Nat} {S : List (Nat × Value)} {H : List Ent} {A : Array Oper} {Q : Exit → Act → World → Prop} {l : List Oper} {a : Option Nat} {E sz cap : Nat} {xs : List Value} (hm : row a E sz cap xs ∈ H) (h : xs.length ≤ cap * sz → cap ≤ 9223372036854775807 → TOps P n S H l A Q) : TOps P n S H l A Q := by
  intro ac w hS hM
  have := hM.ok _ hm
  cases a with
  | none =>
    obtain ⟨rfl, rfl⟩ := this
    exact h (by simp) (by omega) ac w hS hM
  | some b =>
    obtain ⟨sp, _, h2, h3⟩ := this
    exact h (by omega) h3 ac w hS hM
def padI (l : List Int) (L : Nat) : List Int := l ++ List.replicate (L - l.length) 0
theorem padI_length {l : List Int} {L : Nat} (h : l.length ≤ L) : (padI l L).length = L := by unfold padI; simp; omega
theorem padI_nil (L : Nat) : ints (padI [] L) = List.replicate L (.int .i64 0) := by unfold padI ints; simp
theorem padI_set {l : List Int} {L : Nat} (h : l.length < L) (a : Int) : (ints (padI l L)).set l.length (.int .i64 a) = ints (padI (l ++ [a]) L) := by
  rw [← ints_set]
  congr 1
  unfold padI
  rw [List.set_append_right _ _ (Nat.le_refl _), Nat.sub_self, List.length_append, List.append_assoc]
  obtain ⟨r, hr⟩ : ∃ r, L - l.length = r + 1 := ⟨L - l.length - 1, by omega⟩
  rw [hr, show L - (l.length + [a].length) = r by simp; omega, List.replicate_succ]
  rfl
theorem padI_get {l : List Int} {L i : Nat} (h : i < l.length) : (padI l L).getD i 0 = l.getD i 0 := by
  unfold padI
  simp [List.getD_eq_getElem?_getD, List.getElem?_append_left h]
section
variable {what v : Nat} {nodes : List Nd}
theorem mapS_len : ∀ k, (mapS what v nodes k).1.length = v + k
  | 0 => by simp [mapS, evI_length]
  | k + 1 => by simp [mapS, mapS_len k]; omega
theorem trD_sm {P : List Int} {d : Nd} (hP : ∀ a ∈ P, Small a) : ∀ a ∈ (trD P d).args, Small a := by
  intro a ha
  obtain ⟨b, hb, rfl⟩ := List.mem_map.1 ha
  rw [List.getD_eq_getElem?_getD]
  rcases Nat.lt_or_ge b.toNat P.length with h | h
  · rw [List.getElem?_eq_getElem h]; exact hP _ (List.getElem_mem _)
  · rw [List.getElem?_eq_none h]; exact ⟨Int.le_refl 0, by show (0 : Int) ≤ 1000000; decide⟩
structure MapOk (r : List Int × MS) : Prop where
  ok : r.2.Ok
  sm : ∀ a ∈ r.1, Small a
theorem evI_small {k : Nat} (hk : k ≤ 1000) : ∀ a ∈ evI k, Small a := by
  intro a ha
  simp only [evI, List.mem_map, List.mem_range] at ha
  obtain ⟨i, hi, rfl⟩ := ha
  exact ⟨by omega, by omega⟩
theorem Fits.sp {m : Int} {d : Nd} (h : d.Fits m) (P : List Int) (hP : ∀ a ∈ P, Small a) : SpOk (trD P d) := by
  have hl := h.len
  have har := h.ar
  refine ⟨⟨h.k0, h.k1⟩, ?_, by simpa [trD, trI] using hl, fun h2 => ?_, fun h4 => ?_, trD_sm hP⟩
  · have kk := h.kk
    show I64 d.k
    unfold I64
    by_cases h0 : d.kind = 0
    · have := kk.1 h0; omega
    · by_cases h4 : d.kind = 4
      · have := kk.2.1 h4; omega
      · have := kk.2.2 h0 h4; omega
  · have h2' : 2 ≤ d.kind := h2
    unfold argsB at har
    rw [if_neg (by omega), if_neg (by omega)] at har
    simp at har
    intro e
    have e' : (trI P d.args) = [] := e
    have := congrArg List.length e'
    rw [trI_length] at this
    simp at this
    rw [this] at har
    simp at har
  · have := h.kk.2.1 h4
    show 1 ≤ d.k ∧ d.k ≤ ((trI P d.args).length : Int)
    rw [trI_length]
    exact this
theorem specV_ok {v : Int} (hv : 0 ≤ v ∧ v ≤ 24) (what : Nat) {d : Nd} (hd : SpOk d) {s : MS} (hs : s.Ok) : MS.Gr s (specV what v d s).2 ∧ Small (specV what v d s).1 := by
  unfold specV
  split
  · rename_i hB
    refine specM_ok hv what hd.sm (by have := hd.len; omega) (fun h0 => ?_) hs
    subst h0
    have := hd.vote (by simpa [specB] using hB)
    have := hd.len
    omega
  · exact ⟨MS.Gr.refl s, ⟨Int.le_refl 0, by show (0 : Int) ≤ 1000000; decide⟩⟩
theorem nodeM_spec {v : Int} {d : Nd} {s : MS} (h : specB what d.kind = true) : nodeM what v d s = specV what v d s := by unfold nodeM specV; rw [if_pos h, if_pos h]
theorem nodeM_copy {v : Int} {d : Nd} {s : MS} (h : specB what d.kind = false) : nodeM what v d s = addM v d s := by unfold nodeM; rw [if_neg (by rw [h]; decide)]
theorem nodeM_ok' {v : Int} (hv : 0 ≤ v ∧ v ≤ 24) (what : Nat) {d : Nd} (hd : SpOk d) {s : MS} (hs : s.Ok) : MS.Gr s (nodeM what v d s).2 ∧ Small (nodeM what v d s).1 := by
  cases h : specB what d.kind with
  | true => rw [nodeM_spec h]; exact specV_ok hv what hd hs
  | false => rw [nodeM_copy h]; exact ⟨addM_gr _ _ _, addM_small hv _ hs⟩
theorem mapS_ok (hv : v ≤ 24) (hn : ∀ i (h : i < nodes.length), nodes[i].Fits ((v : Int) + i)) : ∀ k, k ≤ nodes.length → MapOk (mapS what v nodes k)
  | 0, _ => ⟨by show (0 : Nat) ≤ 128; decide, evI_small (by omega)⟩
  | k + 1, hk => by
    have ih := mapS_ok hv hn k (by omega)
    have hd := Fits.sp (hn k (by omega)) _ ih.sm
    have h := nodeM_ok' (v := (v : Int)) ⟨by omega, by omega⟩ what hd ih.ok
    rw [show nodes[k] = nodes.getD k ⟨0, 0, []⟩ from by simp [List.getD_eq_getElem?_getD, show k < nodes.length by omega]] at h
    refine ⟨h.1.ok ih.ok, fun a ha => ?_⟩
    rcases List.mem_append.1 ha with ha | ha
    · exact ih.sm a ha
    · obtain rfl := List.mem_singleton.1 ha
      exact h.2
theorem mapS_gr (hv : v ≤ 24) (hn : ∀ i (h : i < nodes.length), nodes[i].Fits ((v : Int) + i)) {k : Nat} : ∀ j, k + j ≤ nodes.length → MS.Gr (mapS what v nodes k).2 (mapS what v nodes (k + j)).2
  | 0, _ => MS.Gr.refl _
  | j + 1, hk => by
    refine (mapS_gr hv hn j (by omega)).trans ?_
    have ih := mapS_ok (what := what) hv hn (k + j) (by omega)
    have hd := Fits.sp (hn (k + j) (by omega)) _ ih.sm
    have h := nodeM_ok' (v := (v : Int)) ⟨by omega, by omega⟩ what hd ih.ok
    rw [show nodes[k + j] = nodes.getD (k + j) ⟨0, 0, []⟩ from by simp [List.getD_eq_getElem?_getD, show k + j < nodes.length by omega]] at h
    exact h.1
theorem mapS_full (hv : v ≤ 24) (hn : ∀ i (h : i < nodes.length), nodes[i].Fits ((v : Int) + i)) {k : Nat} (hk : k ≤ nodes.length) (hf : (mapS what v nodes k).2.full = true) : (mapS what v nodes nodes.length).2.full = true := by
  have := (mapS_gr (what := what) hv hn (k := k) (nodes.length - k) (by omega)).full hf
  rwa [show k + (nodes.length - k) = nodes.length by omega] at this
end
end Go.GL
