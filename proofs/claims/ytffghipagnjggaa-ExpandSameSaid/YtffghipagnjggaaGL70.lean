import Derived.Test.YtffghipagnjggaaGL50
namespace Go.GL
set_option linter.unusedVariables false
set_option linter.unusedSimpArgs false
structure Fm.Fit (F : Fm) : Prop where
  v0 : 0 ≤ F.vars
  v1 : F.vars ≤ 24
  node : ∀ i (h : i < F.nodes.length), F.nodes[i].Fits (F.vars + i)
  topLt : 0 ≤ F.top ∧ F.top < F.vars + F.nodes.length
theorem Fm.Good.fit {F : Fm} (hg : F.Good) : F.Fit := ⟨hg.v0, hg.v1, hg.fits, hg.topLt⟩
theorem Fm.Fit.fits {F : Fm} (h : F.Fit) (i : Nat) (hi : i < F.nodes.length) : F.nodes[i].Fits (F.vars + i) := h.node i hi
theorem Fm.Fit.argLt {F : Fm} (hg : F.Fit) {i : Nat} (hi : i < F.nodes.length) : ∀ a ∈ F.nodes[i].args, a.toNat < F.vars.toNat + i := by
  intro a ha
  have := (hg.fits i hi).args a ha
  have := hg.v0
  omega
theorem Fm.Fit.good {F : Fm} (hg : F.Fit) (hn : F.nodes.length ≤ 128) : F.Good := by
  refine ⟨hg.v0, hg.v1, hn, fun i hi => nodeErr_none.2 (hg.fits i hi), ?_⟩
  have := hg.topLt; have := hg.v0
  unfold Fm.valid
  simp
  omega
namespace Fit
theorem Fm.val_node {F : Fm} (hg : F.Fit) (z : Int) {i : Nat} (hi : i < F.nodes.length) : F.val z (F.vars.toNat + i) = nodeVal F.nodes[i] (cntOf (F.val z) F.nodes[i].args) := by
  have := valsFrom_node F.nodes (events F.vars.toNat z) i hi (by rw [events_length]; exact hg.argLt hi)
  rw [events_length] at this
  exact this
theorem Fm.below_closed {F : Fm} (hg : F.Fit) {i : Nat} (hi : i < F.nodes.length) (hm : F.below.getD (F.vars.toNat + i) false = true) : ∀ a ∈ F.nodes[i].args, F.below.getD a.toNat false = true :=
  belowL_closed F.vars.toNat F.nodes (fun i h => hg.argLt h) F.nodes.length (Nat.le_refl _) _ (by simp) i hi hi hm
theorem Fm.below_top {F : Fm} (hg : F.Fit) : F.below.getD F.top.toNat false = true := by
  unfold Fm.below
  refine belowL_mono _ _ _ _ _ ?_
  have := hg.topLt
  have := hg.v0
  simp [List.getD_eq_getElem?_getD, show F.top.toNat < F.vars.toNat + F.nodes.length by omega]
section
variable {F : Fm}
theorem Fm.trS_node (hg : F.Fit) {k : Nat} (hk : k < F.nodes.length) : trN (F.trS k).1 F.nodes[k] = F.ren F.nodes[k] := by
  unfold trN Fm.ren trA
  congr 1
  refine List.map_congr_left fun a ha => ?_
  rw [← F.trS_stab (k := k) (by omega) (Nat.le_refl _) (hg.argLt hk a ha)]
  rfl
theorem Fm.trim_at (hg : F.Fit) {k : Nat} (hk : k < F.nodes.length) (h : F.below.getD (F.vars.toNat + k) false = true) : F.trim.nodes[F.ix k]? = some (F.ren F.nodes[k]) := by
  obtain ⟨r, hr⟩ := F.trS_pre (show k + 1 ≤ F.nodes.length by omega) (Nat.le_refl _)
  rw [F.trim_nodes, hr, F.trS_succ1 hk h, Fm.trS_node hg hk]
  unfold Fm.ix
  rw [List.getElem?_append_left (by simp), List.getElem?_append_right (Nat.le_refl _)]
  simp
theorem Fm.ro_lt (hg : F.Fit) {k j : Nat} (hk : k ≤ F.nodes.length) (hj : j < F.vars.toNat + k) (h : F.below.getD j false = true) : F.ro j < F.vars.toNat + F.ix k := by
  rcases Nat.lt_or_ge j F.vars.toNat with hv | hv
  · rw [F.ro_event hv]; omega
  · obtain ⟨i, rfl⟩ : ∃ i, j = F.vars.toNat + i := ⟨j - F.vars.toNat, by omega⟩
    rw [F.ro_node (by omega) h]
    have := F.ix_lt (show i < k by omega) hk h
    omega
theorem Fm.trim_fits (hg : F.Fit) {i : Nat} (hi : i < F.trim.nodes.length) : ∃ k, ∃ hk : k < F.nodes.length, F.below.getD (F.vars.toNat + k) false = true ∧ F.ix k = i ∧ F.trim.nodes[i] = F.ren F.nodes[k] := by
  obtain ⟨k, h1, h2, h3⟩ := F.ix_surj (Nat.le_refl _) i (by rw [← F.trim_len]; exact hi)
  refine ⟨k, h1, h2, h3, ?_⟩
  have := Fm.trim_at hg h1 h2
  rw [h3] at this
  exact (List.getElem?_eq_some_iff.1 this).2
theorem Fm.trim_good (hg : F.Fit) : F.trim.Fit := by
  have g0 := hg.v0; have g1 := hg.v1; have gt := hg.topLt
  refine ⟨g0, g1, fun i hi => ?_, ?_⟩
  · obtain ⟨k, hk, h2, h3, h4⟩ := Fm.trim_fits hg hi
    rw [h4, F.trim_vars]
    have f := hg.fits k hk
    refine ⟨f.k0, f.k1, by simpa [Fm.ren] using f.ar, ?_, by simpa [Fm.ren] using f.kk⟩
    intro a ha
    simp only [Fm.ren, List.mem_map] at ha
    obtain ⟨b, hb, rfl⟩ := ha
    have := Fm.ro_lt hg (k := k) (by omega) (hg.argLt hk b hb) (Fm.below_closed hg hk h2 b hb)
    rw [h3] at this
    omega
  · have := Fm.ro_lt hg (k := F.nodes.length) (Nat.le_refl _) (show F.top.toNat < _ by omega) (Fm.below_top hg)
    rw [F.trim_top, F.trim_vars, F.trim_len]
    omega
theorem Fm.trim_val (hg : F.Fit) (z : Int) : ∀ j, F.below.getD j false = true → F.trim.val z (F.ro j) = F.val z j := by
  have hg' := Fm.trim_good hg
  intro j
  induction j using Nat.strongRecOn with
  | _ j ih =>
    intro hj
    have hlt := Fm.below_lt hj
    rcases Nat.lt_or_ge j F.vars.toNat with hv | hv
    · rw [F.ro_event hv, F.val_event z hv, F.trim.val_event z (by rw [F.trim_vars]; exact hv)]
    · obtain ⟨k, rfl⟩ : ∃ k, j = F.vars.toNat + k := ⟨j - F.vars.toNat, by omega⟩
      have hk : k < F.nodes.length := by omega
      rw [F.ro_node hk hj, Fm.val_node hg z hk]
      have hat := Fm.trim_at hg hk hj
      obtain ⟨hi, he⟩ := List.getElem?_eq_some_iff.1 hat
      have := Fm.val_node hg' z hi
      rw [F.trim_vars] at this
      rw [this, he]
      have hc : cntOf (F.trim.val z) (F.ren F.nodes[k]).args = cntOf (F.val z) F.nodes[k].args := by
        unfold cntOf Fm.ren
        simp only [List.countP_map]
        refine List.countP_congr fun a ha => ?_
        simp only [Function.comp, Int.toNat_natCast]
        rw [ih a.toNat (hg.argLt hk a ha) (Fm.below_closed hg hk hj a ha)]
      rw [hc]
      unfold nodeVal Fm.ren
      simp
theorem Fm.trim_value (hg : F.Fit) (z : Int) : F.trim.value z = F.value z := by
  rw [Fm.value_eq, Fm.value_eq, F.trim_top, Int.toNat_natCast]
  exact Fm.trim_val hg z _ (Fm.below_top hg)
end
end Fit
structure BS where
  oa : Option Nat
  cap : Nat
  qs : List SA
  N : List Ent
structure BS.ok (s : BS) (ns : List Nd) : Prop where
  a : ArgsIn s.N ns s.qs
  o : ns ≠ [] → ∃ b, s.oa = some b
def BS.new : BS := ⟨none, 0, [], []⟩
theorem BS.new_ok : BS.new.ok [] := ⟨ArgsIn.nil, fun h => absurd rfl h⟩
def bld (T TN : TypeId) (b : Nat) (v : Int) (ns : List Nd) (t : Int) (s : BS) (HB : List Ent) : List Ent :=
  row (some b) T 3 1 [.int .i64 v, slV s.oa 0 ns.length s.cap, .int .i64 t] :: row s.oa TN 3 s.cap (nsCells ns s.qs) :: (s.N ++ HB)
section
variable {T TN : TypeId} {b : Nat} {v t : Int} {ns : List Nd} {s : BS} {HB : List Ent}
theorem bld_le : Le (bld T TN b v ns t s HB) HB := Le.drop (Le.drop (Le.sub (List.sublist_append_right _ _)))
theorem bld_sub : HB.Sublist (bld T TN b v ns t s HB) := List.Sublist.cons _ (List.Sublist.cons _ (List.sublist_append_right _ _))
theorem bld_rd : Rd (bld T TN b v ns t s HB) b 0 [.int .i64 v, slV s.oa 0 ns.length s.cap, .int .i64 t] := Rd.all (List.Mem.head _)
theorem bld_nodes (h : s.ok ns) : RNodes (bld T TN b v ns t s HB) s.oa 0 ns :=
  RNodes.ofA (E := TN) (sz := 3) (cap := s.cap) (List.Mem.tail _ (List.Mem.head _)) (h.a.le (Le.drop (Le.drop (Le.sub (List.sublist_append_left _ _))))) h.o
theorem bld_rf (h : s.ok ns) : RF (bld T TN b v ns t s HB) (.agg (List.toArray [.int .i64 v, slV s.oa 0 ns.length s.cap, .int .i64 t])) ⟨v, ns, t⟩ := ⟨s.oa, 0, s.cap, none, rfl, bld_nodes h⟩
theorem bld_new : Le (row (some b) T 3 1 [.int .i64 v, slV none 0 0 0, .int .i64 t] :: HB) (bld T TN b v [] t BS.new HB) :=
  Le.trans (Le.addNil (E := TN) (sz := 3)) Le.swap
theorem bld_in {e : Ent} : Le (e :: bld T TN b v ns t s HB) (bld T TN b v ns t s (e :: HB)) :=
  Le.perm ((List.Perm.swap _ _ _).trans (List.Perm.cons _ ((List.Perm.swap _ _ _).trans (List.Perm.cons _ List.perm_middle.symm))))
theorem bld_mono {HC : List Ent} (h : HC.Sublist HB) : Le (bld T TN b v ns t s HB) (bld T TN b v ns t s HC) :=
  Le.sub (List.Sublist.cons_cons _ (List.Sublist.cons_cons _ ((List.Sublist.refl _).append h)))
theorem Upd.app {H H' : List Ent} {e e' : Ent} (u : Upd H e e' H') : ∀ N : List Ent, Upd (N ++ H) e e' (N ++ H')
  | [] => u
  | _ :: N => Upd.there (Upd.app u N)
theorem Upd.bld {H' : List Ent} {e e' : Ent} (u : Upd HB e e' H') : Upd (bld T TN b v ns t s HB) e e' (GL.bld T TN b v ns t s H') := Upd.there (Upd.there (Upd.app u _))
theorem Le.app {H H' : List Ent} (h : Le H H') (N : List Ent) (hd : True := trivial) (hf : ∀ e ∈ H', ∀ k, e.foot k → ∃ e' ∈ H, e'.foot k) : Le (N ++ H) (N ++ H') := by
  induction N with
  | nil => exact h
  | cons x N ih =>
    intro w hm
    obtain ⟨h1, h2, h3, h4⟩ := hm
    refine ⟨h1, h2, fun e he k hk hk' => ?_, ih w h4⟩
    rcases List.mem_append.1 he with he | he
    · exact h3 e (List.mem_append_left _ he) k hk hk'
    · obtain ⟨e', he', hk2⟩ := hf e he k hk'
      exact h3 e' (List.mem_append_right _ he') k hk hk2
theorem bld_perm {A : List Ent} : Le (A ++ bld T TN b v ns t s HB) (row (some b) T 3 1 [.int .i64 v, slV s.oa 0 ns.length s.cap, .int .i64 t] :: row s.oa TN 3 s.cap (nsCells ns s.qs) :: ((A ++ s.N) ++ HB)) := by
  refine Le.perm ?_
  unfold bld
  rw [List.append_assoc]
  exact List.perm_middle.trans (List.Perm.cons _ List.perm_middle)
theorem BS.ok_snoc {A : List Ent} {d : Nd} {q : SA} {b' cap' : Nat} (h : s.ok ns) (hd : RInts A q.1 q.2.1 d.args q.2.2.2) : BS.ok ⟨some b', cap', s.qs ++ [q], A ++ s.N⟩ (ns ++ [d]) :=
  ⟨ArgsIn.snoc (h.a.le (Le.sub (List.sublist_append_right _ _))) (RdS.le hd (Le.sub (List.sublist_append_left _ _))), fun _ => ⟨_, rfl⟩⟩
end
def bldH (T TN : TypeId) (b : Nat) (hdr : List Value) (ns : List Nd) (s : BS) (HB : List Ent) : List Ent :=
  row (some b) T 3 1 hdr :: row s.oa TN 3 s.cap (nsCells ns s.qs) :: (s.N ++ HB)
theorem bldH_le {T TN : TypeId} {b : Nat} {hdr : List Value} {ns : List Nd} {s : BS} {HB : List Ent} : Le (bldH T TN b hdr ns s HB) HB := Le.drop (Le.drop (Le.sub (List.sublist_append_right _ _)))
theorem bldH_open {T TN : TypeId} {b : Nat} {hdr : List Value} {ns : List Nd} {s : BS} {A HB : List Ent} : Le (A ++ bldH T TN b hdr ns s HB) (row s.oa TN 3 s.cap (nsCells ns s.qs) :: row (some b) T 3 1 hdr :: (A ++ (s.N ++ HB))) := by
  refine Le.perm ?_
  unfold bldH
  exact (List.perm_middle.trans (List.Perm.cons _ List.perm_middle)).trans (List.Perm.swap _ _ _)
theorem bldH_close {T TN : TypeId} {b : Nat} {hdr : List Value} {ns : List Nd} {s : BS} {A HB : List Ent} {e : Ent} {b' cap' : Nat} {q : SA} : Le (e :: row (some b') TN 3 cap' (nsCells ns (s.qs ++ [q])) :: row (some b) T 3 1 hdr :: (A ++ (s.N ++ HB))) (bldH T TN b hdr ns ⟨some b', cap', s.qs ++ [q], e :: s.N⟩ HB) := by
  unfold bldH
  refine Le.trans (Le.sub (List.Sublist.cons_cons _ (List.Sublist.cons_cons _ (List.Sublist.cons_cons _ (List.sublist_append_right _ _))))) (Le.perm ?_)
  exact ((List.Perm.swap _ _ _).trans (List.Perm.cons _ (List.Perm.swap _ _ _))).trans (List.Perm.swap _ _ _)
theorem nats_ints (l : List Nat) : nats l = ints (l.map (fun i : Nat => (i : Int))) := by
  unfold nats ints
  rw [List.map_map]
  rfl
def trI (P : List Int) (xs : List Int) : List Int := xs.map (fun a => P.getD a.toNat 0)
theorem trI_length (P xs : List Int) : (trI P xs).length = xs.length := by simp [trI]
theorem trI_take_succ {P l : List Int} {j : Nat} (hj : j < l.length) : trI P (l.take (j + 1)) = trI P (l.take j) ++ [P.getD l[j].toNat 0] := by
  unfold trI
  rw [List.take_succ_eq_append_getElem hj, List.map_append]
  rfl
theorem trI_nats (l : List Nat) (xs : List Int) : trI (l.map (fun i : Nat => (i : Int))) xs = trA l xs := by
  unfold trI trA
  refine List.map_congr_left fun a _ => ?_
  simp only [List.getD_eq_getElem?_getD, List.getElem?_map]
  cases l[a.toNat]? <;> simp
theorem ints_get {l : List Int} {i : Nat} (hi : i < l.length) : (ints l)[i]? = some (.int .i64 (l.getD i 0)) := by
  simp [ints, hi]
theorem ints_set (l : List Int) (k : Nat) (b : Int) : ints (l.set k b) = (ints l).set k (.int .i64 b) := List.map_set
end Go.GL
