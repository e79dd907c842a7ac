import Derived.Test.YtffghipagnjggaaGL82
namespace Go.GL
set_option linter.unusedVariables false
set_option linter.unusedSimpArgs false
abbrev pairV (k i : Int) : Value := .agg (List.toArray [.int .i64 k, .int .i64 i])
structure Key2 (P : Program) (K : TypeId) : Prop where
  law : WideMaps.KeyLaw P K
  has : ∀ k i : Int, I64 k → I64 i → ∃ l, keyOf P K (pairV k i) = some l
theorem wf64 {z : Int} (h : I64 z) : (Lit.int .i64 z).wf = true := by
  unfold I64 at h
  simp [Lit.wf]
  exact h
theorem Key2.mk' {P : Program} {K E : TypeId} (hl : laidOutB P = true) (hu : P.underlying K = some (.array 2 E)) (he : P.underlying E = some (.int .i64)) (hk : P.keyType K = true) (hrow : K < P.types.size) (hm : P.types.size + 1 + 1 ≤ 10000) (hc : P.cellsOf K = 2) (hce : P.cellsOf E = 1) : Key2 P K := by
  refine ⟨deep_law_laid hl hm hrow hk (by rw [hu]), fun k i h1 h2 => ?_⟩
  unfold keyOf
  rw [hu]
  have hf : Value.formed P K (pairV k i) = true := by simp [Value.formed, hu, hc]
  simp only [hk, hf, Bool.and_self, if_true]
  have hlit : P.keyLits (P.types.size + 1) K (pairV k i).cells.toList = some [.int .i64 k, .int .i64 i] := by
    obtain ⟨m, hsz⟩ : ∃ m, P.types.size = m + 1 := ⟨P.types.size - 1, by have : 0 < P.types.size := Nat.lt_of_le_of_lt (Nat.zero_le _) hrow; omega⟩
    rw [hsz]
    have w1 := wf64 h1
    have w2 := wf64 h2
    simp [Program.keyLits, hu, he, hc, hce, Value.cells, List.range_succ, w1, w2]
  rw [hlit]
  exact ⟨_, rfl⟩
def madeE : Made → Nat → List MapEntry
  | [], _ => []
  | q :: r, c => ⟨pairV q.1.1 q.1.2, .int .i64 q.2, c⟩ :: madeE r (c + 1)
theorem madeE_snoc (q : (Int × Int) × Int) : ∀ (m : Made) (c : Nat), madeE (m ++ [q]) c = madeE m c ++ [⟨pairV q.1.1 q.1.2, .int .i64 q.2, c + m.length⟩]
  | [], c => rfl
  | p :: r, c => by
    rw [List.cons_append, madeE, madeE_snoc q r (c + 1), madeE]
    simp
    omega
theorem mem_madeE {e : MapEntry} : ∀ {m : Made} {c : Nat}, e ∈ madeE m c → ∃ q ∈ m, e.key = pairV q.1.1 q.1.2 ∧ e.val = .int .i64 q.2
  | [], _, h => by cases h
  | q :: r, c, h => by
    rcases List.mem_cons.1 h with rfl | h
    · exact ⟨q, by simp, rfl, rfl⟩
    · obtain ⟨p, hp, h2⟩ := mem_madeE h
      exact ⟨p, by simp [hp], h2⟩
theorem madeE_mem {q : (Int × Int) × Int} : ∀ {m : Made} (c : Nat), q ∈ m → ∃ e ∈ madeE m c, e.key = pairV q.1.1 q.1.2 ∧ e.val = .int .i64 q.2
  | [], _, h => by cases h
  | p :: r, c, h => by
    rcases List.mem_cons.1 h with rfl | h
    · exact ⟨_, by simp [madeE]; exact .inl rfl, rfl, rfl⟩
    · obtain ⟨e, he, h2⟩ := madeE_mem (c + 1) h
      exact ⟨e, by simp [madeE, he], h2⟩
theorem pairV_inj {a b c d : Int} (h : pairV a b = pairV c d) : a = c ∧ b = d := by
  simp only [pairV, Value.agg.injEq] at h
  have := congrArg Array.toList h
  simp at this
  exact this
def MadeU (m : Made) : Prop := m.Pairwise (fun p q => p.1 ≠ q.1)
theorem MadeU.snoc {m : Made} (h : MadeU m) {k i x : Int} (hf : findM k i m = none) : MadeU (m ++ [((k, i), x)]) := by
  refine List.pairwise_append.2 ⟨h, List.pairwise_singleton _ _, fun p hp q hq => ?_⟩
  obtain rfl := List.mem_singleton.1 hq
  have := findM_none_iff m hf p hp
  intro e
  exact this ⟨congrArg Prod.fst e, congrArg Prod.snd e⟩
theorem findM_mem {k i x : Int} : ∀ {m : Made}, findM k i m = some x → ((k, i), x) ∈ m
  | [], h => by cases h
  | q :: r, h => by
    unfold findM at h
    split at h
    · rename_i hq
      cases h
      obtain ⟨⟨a, b⟩, c⟩ := q
      obtain ⟨rfl, rfl⟩ := hq
      simp
    · simp [findM_mem h]
theorem MadeU.same {m : Made} (h : MadeU m) {p q : (Int × Int) × Int} (hp : p ∈ m) (hq : q ∈ m) (e : p.1 = q.1) : p = q := by
  induction m with
  | nil => cases hp
  | cons a r ih =>
    obtain ⟨h1, h2⟩ := List.pairwise_cons.1 h
    rcases List.mem_cons.1 hp with rfl | hp' <;> rcases List.mem_cons.1 hq with rfl | hq'
    · rfl
    · exact absurd e (h1 _ hq')
    · exact absurd e.symm (h1 _ hp')
    · exact ih h2 hp' hq'
def madeEnt (b : Nat) (m : Made) : Ent := mapE b (madeE m 0) m.length
section
variable {P : Program} {n : Nat} {S : List (Nat × Value)} {H : List Ent} {A : Array Oper} {Q : Exit → Act → World → Prop}
theorem MadeOk.keys {K : TypeId} (K2 : Key2 P K) {m : Made} (hm : MadeOk m) {c : Nat} : ∀ e ∈ madeE m c, ∃ l, keyOf P K e.key = some l := by
  intro e he
  obtain ⟨q, hq, h1, _⟩ := mem_madeE he
  rw [h1]
  have := hm q hq
  unfold Small at this
  exact K2.has _ _ (by unfold I64; omega) (by unfold I64; omega)
theorem TOps.makeMade {d t U p e rest} (hn : Nat.blt d n = true) (h : ∀ b, TOps P n ((d, .map (some b)) :: S) (madeEnt b [] :: H) rest A Q) :
    TOps P n S H (⟨some d, .makeMap t none, U, p, e, none⟩ :: rest) A Q := TOps.makeMap hn h
theorem TOps.lookMade {d T x y U p e rest} {K E : TypeId} {b : Nat} {m : Made} {k i : Int} (K2 : Key2 P K) (hx : opv S x = some (.map (some b))) (hy : opv S y = some (pairV k i))
    (ht : P.underlying T = some (.map K E)) (hz : ∀ w : World, (zeroValue E).run P w = .ok (.int .i64 0) w) (hm : madeEnt b m ∈ H) (ho : MadeOk m) (hu : MadeU m) (hk : I64 k) (hi : I64 i) (hn : Nat.blt d n = true)
    (h : TOps P n ((d, .tuple (List.toArray [.int .i64 ((findM k i m).getD 0), .bool (findM k i m).isSome])) :: S) H rest A Q) :
    TOps P n S H (⟨some d, .lookup T x y true, U, p, e, none⟩ :: rest) A Q := by
  obtain ⟨l, hl⟩ := K2.has k i hk hi
  cases hf : findM k i m with
  | none =>
    rw [hf] at h
    refine TOps.lookupNone (g := true) (yy := 0) hx hy ht K2.law hl hm (ho.keys K2) (fun e he hke => ?_) hz hn h
    obtain ⟨q, hq, h1, _⟩ := mem_madeE he
    rw [h1] at hke
    exact findM_none_iff m hf q hq (pairV_inj hke)
  | some v =>
    rw [hf] at h
    have hmm := findM_mem hf
    refine TOps.lookupSome hx hy ht K2.law hl hm (ho.keys K2) ?_ (fun e he hke => ?_) hn h
    · obtain ⟨e, he, h1, _⟩ := madeE_mem 0 hmm
      exact ⟨e, he, h1⟩
    · obtain ⟨q, hq, h1, h2⟩ := mem_madeE he
      rw [h1] at hke
      obtain ⟨e1, e2⟩ := pairV_inj hke
      have := hu.same hq hmm (Prod.ext e1 e2)
      rw [h2, this]
      rfl
theorem TOps.putMade {T x y z U p e rest} {K E : TypeId} {b : Nat} {m : Made} {k i v : Int} {H' : List Ent} (K2 : Key2 P K) (hx : opv S x = some (.map (some b))) (hy : opv S y = some (pairV k i)) (hv : opv S z = some (.int .i64 v))
    (ht : P.underlying T = some (.map K E)) (hu : Upd H (madeEnt b m) (madeEnt b (m ++ [((k, i), v)])) H') (ho : MadeOk m) (hk : I64 k) (hi : I64 i) (hf : findM k i m = none)
    (h : TOps P n S H' rest A Q) : TOps P n S H (⟨none, .mapUpdate T x y z, U, p, e, none⟩ :: rest) A Q := by
  obtain ⟨l, hl⟩ := K2.has k i hk hi
  refine TOps.mapPut (es := madeE m 0) (c := m.length) hx hy hv ht K2.law hl (H' := H') ?_ (ho.keys K2) (fun e he hke => ?_) h
  · have : mapE b (madeE m 0 ++ [⟨pairV k i, .int .i64 v, m.length⟩]) (m.length + 1) = madeEnt b (m ++ [((k, i), v)]) := by
      unfold madeEnt
      rw [madeE_snoc]
      simp
    rw [this]
    exact hu
  · obtain ⟨q, hq, h1, _⟩ := mem_madeE he
    rw [h1] at hke
    exact findM_none_iff m hf q hq (pairV_inj hke)
end
theorem leastM_u {v : Int} {args : List Int} : ∀ (n : Nat), n ≤ args.length → ∀ (k : Int) (m : Made) (s : MS), MadeU m → (findM k ((args.length - n : Nat) : Int) m = none → True) → MadeU (leastM v args n k m s).2.1 ∧ MadeGr ((args.length - n : Nat) : Int) m (leastM v args n k m s).2.1
  | 0, hn, k, m, s, hu, _ => ⟨hu, MadeGr.refl m⟩
  | n + 1, hn, k, m, s, hu, _ => by
    unfold leastM
    split
    · exact ⟨hu, MadeGr.refl m⟩
    · rename_i hf
      split
      · exact ⟨hu, MadeGr.refl m⟩
      · split
        · exact ⟨hu.snoc hf, MadeGr.snoc m⟩
        · split
          · exact ⟨hu.snoc hf, MadeGr.snoc m⟩
          · obtain ⟨u1, g1⟩ := leastM_u (v := v) (args := args) n (by omega) (k - 1) m s hu (fun _ => trivial)
            obtain ⟨u3, g3⟩ := leastM_u (v := v) (args := args) n (by omega) k (leastM v args n (k - 1) m s).2.1 (addM v ⟨2, 0, [args.getD (args.length - (n + 1)) 0, (leastM v args n (k - 1) m s).1]⟩ (leastM v args n (k - 1) m s).2.2).2 u1 (fun _ => trivial)
            have e1 : (((args.length - (n + 1) : Nat) : Int) + 1) = ((args.length - n : Nat) : Int) := by omega
            have q1 := MadeGr.none (i := ((args.length - (n + 1) : Nat) : Int)) (by rw [e1]; exact g1) hf
            have q3 := MadeGr.none (i := ((args.length - (n + 1) : Nat) : Int)) (by rw [e1]; exact g3) q1
            exact ⟨u3.snoc q3, ((MadeGr.mono (j := ((args.length - (n + 1) : Nat) : Int)) g1 (by omega)).trans (MadeGr.mono g3 (by omega))).trans (MadeGr.snoc _)⟩
def mkE (T TN : TypeId) (b : Nat) (v : Int) (m : MS) (s : BS) (HB : List Ent) : List Ent :=
  row (some b) T 3 1 [.int .i64 v, slV s.oa 0 m.ns.length s.cap, .bool m.full] :: row s.oa TN 3 s.cap (nsCells m.ns s.qs) :: (s.N ++ HB)
section
variable {T TN : TypeId} {b : Nat} {v : Int} {m : MS} {s : BS} {HB : List Ent}
theorem mkE_le : Le (mkE T TN b v m s HB) HB := Le.drop (Le.drop (Le.sub (List.sublist_append_right _ _)))
theorem mkE_sub : HB.Sublist (mkE T TN b v m s HB) := List.Sublist.cons _ (List.Sublist.cons _ (List.sublist_append_right _ _))
theorem mkE_rd : Rd (mkE T TN b v m s HB) b 0 [.int .i64 v, slV s.oa 0 m.ns.length s.cap, .bool m.full] := Rd.all (List.Mem.head _)
theorem mkE_nodes (h : s.ok m.ns) : RNodes (mkE T TN b v m s HB) s.oa 0 m.ns :=
  RNodes.ofA (E := TN) (sz := 3) (cap := s.cap) (List.Mem.tail _ (List.Mem.head _)) (h.a.le (Le.drop (Le.drop (Le.sub (List.sublist_append_left _ _))))) h.o
theorem mkE_new : Le (row (some b) T 3 1 [.int .i64 v, slV none 0 0 0, .bool false] :: HB) (mkE T TN b v ⟨[], false⟩ BS.new HB) :=
  Le.trans (Le.addNil (E := TN) (sz := 3)) Le.swap
theorem mkE_in {e : Ent} : Le (e :: mkE T TN b v m s HB) (mkE T TN b v m s (e :: HB)) :=
  Le.perm ((List.Perm.swap _ _ _).trans (List.Perm.cons _ ((List.Perm.swap _ _ _).trans (List.Perm.cons _ List.perm_middle.symm))))
theorem mkE_out {e : Ent} : Le (mkE T TN b v m s (e :: HB)) (e :: mkE T TN b v m s HB) :=
  Le.perm ((List.Perm.swap _ _ _).trans (List.Perm.cons _ ((List.Perm.swap _ _ _).trans (List.Perm.cons _ List.perm_middle.symm)))).symm
theorem mkE_inA (A : List Ent) : Le (A ++ mkE T TN b v m s HB) (mkE T TN b v m s (A ++ HB)) := by
  induction A with
  | nil => exact Le.refl _
  | cons e A ih =>
    refine Le.trans ?_ (mkE_in (HB := A ++ HB))
    intro w h
    obtain ⟨h1, h2, h3, h4⟩ := h
    refine ⟨h1, h2, fun e' he' => h3 e' ?_, ih w h4⟩
    show e' ∈ A ++ mkE T TN b v m s HB
    unfold mkE at he' ⊢
    simp only [List.mem_cons, List.mem_append] at he' ⊢
    rcases he' with h | h | h | h | h
    · exact .inr (.inl h)
    · exact .inr (.inr (.inl h))
    · exact .inr (.inr (.inr (.inl h)))
    · exact .inl h
    · exact .inr (.inr (.inr (.inr h)))
theorem mkE_mono {HC : List Ent} (h : HC.Sublist HB) : Le (mkE T TN b v m s HB) (mkE T TN b v m s HC) :=
  Le.sub (List.Sublist.cons_cons _ (List.Sublist.cons_cons _ ((List.Sublist.refl _).append h)))
theorem Upd.mkE {H' : List Ent} {e e' : Ent} (u : Upd HB e e' H') : Upd (mkE T TN b v m s HB) e e' (GL.mkE T TN b v m s H') := Upd.there (Upd.there (Upd.app u _))
theorem mkE_perm {A : List Ent} : Le (A ++ mkE T TN b v m s HB) (row (some b) T 3 1 [.int .i64 v, slV s.oa 0 m.ns.length s.cap, .bool m.full] :: row s.oa TN 3 s.cap (nsCells m.ns s.qs) :: ((A ++ s.N) ++ HB)) := by
  refine Le.perm ?_
  unfold mkE
  rw [List.append_assoc]
  exact List.perm_middle.trans (List.Perm.cons _ List.perm_middle)
theorem mk_close {e h r : Ent} {N A HB : List Ent} : Le (e :: h :: r :: (N ++ (A ++ HB))) (h :: r :: ((e :: N) ++ HB)) :=
  Le.trans (Le.sub (List.Sublist.cons_cons _ (List.Sublist.cons_cons _ (List.Sublist.cons_cons _ ((List.Sublist.refl N).append (List.sublist_append_right A HB))))))
    (Le.perm ((List.Perm.swap _ _ _).trans (List.Perm.cons _ (List.Perm.swap _ _ _))))
theorem mk_same {h r : Ent} {N A HB : List Ent} : Le (h :: r :: (N ++ (A ++ HB))) (h :: r :: (N ++ HB)) :=
  Le.sub (List.Sublist.cons_cons _ (List.Sublist.cons_cons _ ((List.Sublist.refl N).append (List.sublist_append_right A HB))))
theorem mk_same2 {h r : Ent} {N A HB : List Ent} : Le (h :: r :: ((A ++ N) ++ HB)) (h :: r :: (N ++ HB)) :=
  Le.sub (List.Sublist.cons_cons _ (List.Sublist.cons_cons _ ((List.sublist_append_right A N).append (List.Sublist.refl HB))))
def MkR (T TN : TypeId) (b : Nat) (v : Int) (r : Int × MS) (HB : List Ent) : Value → List Ent → Prop := fun u H' =>
  ∃ s' : BS, u = .int .i64 r.1 ∧ s'.ok r.2.ns ∧ mkE T TN b v r.2 s' HB = H'
theorem addM_full {v : Int} {d : Nd} {m : MS} (h : 128 ≤ m.ns.length) : addM v d m = (0, ⟨m.ns, true⟩) := if_pos h
theorem addM_room {v : Int} {d : Nd} {m : MS} (h : ¬ 128 ≤ m.ns.length) : addM v d m = (v + m.ns.length, ⟨m.ns ++ [d], m.full⟩) := if_neg h
end
end Go.GL
