import Derived.Test.YtffghipagnjggaaGL80
import Derived.DeepKeys4
import Derived.MapKept
namespace Go.GL
set_option linter.unusedVariables false
set_option linter.unusedSimpArgs false
def mapE (b : Nat) (es : List MapEntry) (c : Nat) : Ent where
  foot := fun k => k = b
  ok := fun w => w.heap[b]? = some (.map es.toArray c)
  st := fun _ _ h hk => (h.block b rfl).trans hk
section
variable {P : Program} {n : Nat} {S : List (Nat × Value)} {H : List Ent} {A : Array Oper} {Q : Exit → Act → World → Prop}
theorem Mem.newMap {w : World} (hM : Mem H w) : Mem (mapE w.heap.size [] 0 :: H) (w.alloc (.map #[] 0)) := by
  refine Mem.cons (hM.same fun e he => ⟨rfl, rfl, rfl, by simp, fun k hk => ?_⟩) ?_ ?_ ?_
  · have := hM.lt e he k hk
    exact Go.RowKit.Below.heap_alloc w _ k this
  · exact heap_alloc_new w _
  · intro k hk
    cases hk
    simp
  · intro e he k hk hk'
    cases hk
    exact absurd (hM.lt e he _ hk') (by simp)
theorem TOps.makeMap {d t U p e rest} (hn : Nat.blt d n = true) (h : ∀ b, TOps P n ((d, .map (some b)) :: S) (mapE b [] 0 :: H) rest A Q) :
    TOps P n S H (⟨some d, .makeMap t none, U, p, e, none⟩ :: rest) A Q := by
  refine TOps.worldEx (R := fun u H' => ∃ b, u = .map (some b) ∧ H' = mapE b [] 0 :: H) rfl rfl hn (fun a w hS hM => ?_) (fun u H' hR => ?_)
  · exact ⟨.map (some w.heap.size), _, w.alloc (.map #[] 0), ⟨w.heap.size, rfl, rfl⟩, by simp [execOp, Instr.makeMap], hM.newMap⟩
  · obtain ⟨b, rfl, rfl⟩ := hR
    exact h b
theorem TOps.lookupNone {d T x y U p e rest} {K E : TypeId} {b c : Nat} {es : List MapEntry} {kv z : Value} {l : Lit} {g : Bool} {yy : Nat} (hx : opv S x = some (.map (some b))) (hy : opv S y = some kv)
    (ht : P.underlying T = some (.map K E)) (KL : WideMaps.KeyLaw P K) (hk : keyOf P K kv = some l) (hm : mapE b es c ∈ H) (hes : ∀ e ∈ es, ∃ l, keyOf P K e.key = some l) (hno : ∀ e ∈ es, e.key ≠ kv)
    (hz : ∀ w : World, (zeroValue E).run P w = .ok z w) (hn : Nat.blt d n = true) (h : TOps P n ((d, .tuple #[z, .bool false]) :: S) H rest A Q) :
    TOps P n S H (⟨some d, .lookup T x y true, U, p, e, none⟩ :: rest) A Q :=
  TOps.pure rfl rfl hn (fun a w hS hM => by
    have hb : w.heap[b]? = some (.map es.toArray c) := hM.ok _ hm
    rcases KL.find w hk es hes with ⟨h1, _⟩ | ⟨j, e0, _, h2, h3⟩
    · simp [execOp, hS.eval hx, hS.eval hy, Instr.lookup, run_underlying ht, MapKept.run_getObj_map hb, KL.check w _ hk, h1, hz w, Result.andThen]
    · exact absurd h3 (hno e0 (List.mem_of_getElem? h2))) h
theorem TOps.lookupSome {d T x y U p e rest} {K E : TypeId} {b c : Nat} {es : List MapEntry} {kv v : Value} {l : Lit} (hx : opv S x = some (.map (some b))) (hy : opv S y = some kv)
    (ht : P.underlying T = some (.map K E)) (KL : WideMaps.KeyLaw P K) (hk : keyOf P K kv = some l) (hm : mapE b es c ∈ H) (hes : ∀ e ∈ es, ∃ l, keyOf P K e.key = some l) (hyes : ∃ e ∈ es, e.key = kv) (hval : ∀ e ∈ es, e.key = kv → e.val = v)
    (hn : Nat.blt d n = true) (h : TOps P n ((d, .tuple #[v, .bool true]) :: S) H rest A Q) :
    TOps P n S H (⟨some d, .lookup T x y true, U, p, e, none⟩ :: rest) A Q :=
  TOps.pure rfl rfl hn (fun a w hS hM => by
    have hb : w.heap[b]? = some (.map es.toArray c) := hM.ok _ hm
    rcases KL.find w hk es hes with ⟨_, h1⟩ | ⟨j, e0, h1, h2, h3⟩
    · obtain ⟨e, he, hke⟩ := hyes
      exact absurd hke (h1 e he)
    · have hv := hval e0 (List.mem_of_getElem? h2) h3
      simp [execOp, hS.eval hx, hS.eval hy, Instr.lookup, run_underlying ht, MapKept.run_getObj_map hb, KL.check w _ hk, h1, hv, Result.andThen]) h
theorem turn_map {b : Nat} {o : Obj} {w : World} : Turn (fun k => k = b) w { w with heap := w.heap.setIfInBounds b o } :=
  ⟨rfl, rfl, rfl, by simp, fun k _ hk => by
    show (w.heap.setIfInBounds b o)[k]? = w.heap[k]?
    rw [Array.getElem?_setIfInBounds_ne (fun e => hk e.symm)]⟩
theorem TOps.mapPut {T x y z U p e rest} {K E : TypeId} {b c : Nat} {es : List MapEntry} {kv v : Value} {l : Lit} {H' : List Ent} (hx : opv S x = some (.map (some b))) (hy : opv S y = some kv) (hv : opv S z = some v)
    (ht : P.underlying T = some (.map K E)) (KL : WideMaps.KeyLaw P K) (hk : keyOf P K kv = some l) (hu : Upd H (mapE b es c) (mapE b (es ++ [⟨kv, v, c⟩]) (c + 1)) H') (hes : ∀ e ∈ es, ∃ l, keyOf P K e.key = some l) (hno : ∀ e ∈ es, e.key ≠ kv)
    (h : TOps P n S H' rest A Q) : TOps P n S H (⟨none, .mapUpdate T x y z, U, p, e, none⟩ :: rest) A Q :=
  TOps.unit rfl rfl (fun a w hS hM => by
    have hb : w.heap[b]? = some (.map es.toArray c) := hM.ok _ hu.mem
    have hpush : es.toArray.push (⟨kv, v, c⟩ : MapEntry) = (es ++ [(⟨kv, v, c⟩ : MapEntry)]).toArray := by simp
    have hset := (MapKept.heap_set (o' := .map (es ++ [(⟨kv, v, c⟩ : MapEntry)]).toArray (c + 1)) hb).1
    refine ⟨{ w with heap := w.heap.setIfInBounds b (.map (es ++ [(⟨kv, v, c⟩ : MapEntry)]).toArray (c + 1)) }, ?_, hu.sound hM turn_map hset (fun k hk => .inl hk) (fun k hk => by simpa using hM.lt _ hu.mem k hk)⟩
    rcases KL.find w hk es hes with ⟨h1, _⟩ | ⟨j, e0, _, h2, h3⟩
    · simp [execOp, hS.eval hx, hS.eval hy, hS.eval hv, Instr.mapUpdate, run_underlying ht, MapKept.run_getObj_map hb, KL.check w _ hk, h1, MapKept.run_setObj_map _ hb, Result.andThen]
    · exact absurd h3 (hno e0 (List.mem_of_getElem? h2))) h
end
end Go.GL
