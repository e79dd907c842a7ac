import Derived.Test.YtffghipagnjggaaGL26
namespace Go.GL
set_option linter.unusedVariables false
set_option linter.unusedSimpArgs false
section
variable {P : Program} {n : Nat} {S : List (Nat × Value)} {H : List Ent} {A : Array Oper} {Q : Exit → Act → World → Prop}
def uand (a b : Int) : Int := IntKind.u64.wrap (BitVec.ofInt 64 a &&& BitVec.ofInt 64 b).toNat
theorem TOps.andU {d x y T T' U p e rest} {a b r : Int} (hx : opv S x = some (.int .u64 a)) (hy : opv S y = some (.int .u64 b)) (hr : uand a b = r) (hn : Nat.blt d n = true)
    (h : TOps P n ((d, .int .u64 r) :: S) H rest A Q) : TOps P n S H (⟨some d, .binOp .and T x y T', U, p, e, none⟩ :: rest) A Q :=
  TOps.pure rfl rfl hn (fun ac w hS _ => by
    subst hr
    have hb : binOp .and T (.int .u64 a) (.int .u64 b) = Pure.pure (.int .u64 (uand a b)) := rfl
    simp [execOp, hS.eval hx, hS.eval hy, eqGuard, hb]) h
theorem TOps.addU {d x y T T' U p e rest} {a b r : Int} (hx : opv S x = some (.int .u64 a)) (hy : opv S y = some (.int .u64 b)) (hr : IntKind.u64.wrap (a + b) = r) (hn : Nat.blt d n = true)
    (h : TOps P n ((d, .int .u64 r) :: S) H rest A Q) : TOps P n S H (⟨some d, .binOp .add T x y T', U, p, e, none⟩ :: rest) A Q :=
  TOps.pure rfl rfl hn (fun a w hS _ => by subst hr; simp [execOp, hS.eval hx, hS.eval hy, eqGuard, binOp, Op.intArith]) h
theorem TOps.shrU {d x y T T' U p e rest} {a b r : Int} {k : IntKind} (hx : opv S x = some (.int .u64 a)) (hy : opv S y = some (.int k b)) (hb : 0 ≤ b) (hr : ishr a b.toNat = r) (hn : Nat.blt d n = true)
    (h : TOps P n ((d, .int .u64 r) :: S) H rest A Q) : TOps P n S H (⟨some d, .binOp .shr T x y T', U, p, e, none⟩ :: rest) A Q :=
  TOps.pure rfl rfl hn (fun a w hS _ => by
    subst hr
    have hb' : ¬ b < 0 := by omega
    simp [execOp, hS.eval hx, hS.eval hy, eqGuard, binOp, Op.shift, ishr, IntKind.bits, hb']) h
end
theorem wrapU (z : Int) (h0 : 0 ≤ z) (h1 : z < 18446744073709551616) : IntKind.u64.wrap z = z := by
  rw [IntKind.wrap_u64]; omega
theorem uand_nat {a b : Nat} (ha : a < 18446744073709551616) (hb : b < 18446744073709551616) : uand a b = ((a &&& b : Nat) : Int) := by
  unfold uand
  have h : (BitVec.ofInt 64 (a : Int) &&& BitVec.ofInt 64 (b : Int)).toNat = a &&& b := by
    simp only [BitVec.toNat_and, BitVec.toNat_ofInt]
    rw [show ((2 ^ 64 : Nat) : Int) = 18446744073709551616 by decide, show ((a : Int) % 18446744073709551616).toNat = a by omega, show ((b : Int) % 18446744073709551616).toNat = b by omega]
  rw [h]
  have : a &&& b ≤ a := Nat.and_le_left
  exact wrapU _ (by omega) (by omega)
def pp : Nat → Nat → Nat
  | 0, _ => 0
  | f + 1, x => x % 2 + pp f (x / 2)
theorem pp_byte {a y : Nat} (f : Nat) (ha : a < 256) : pp (f + 8) (a + 256 * y) = pp 8 a + pp f y := by
  simp only [pp]
  rw [show (a + 256 * y) / 2 / 2 / 2 / 2 / 2 / 2 / 2 / 2 = y by omega]
  omega
theorem pp_le : ∀ f x, pp f x ≤ f
  | 0, _ => Nat.le_refl _
  | f + 1, x => by have := pp_le f (x / 2); simp only [pp]; omega
theorem pp_zero : ∀ f x, x < 2 ^ f → (pp f x = 0 ↔ x = 0)
  | 0, x, h => by simp at h; simp [pp, h]
  | f + 1, x, h => by
    have := pp_zero f (x / 2) (by rw [Nat.pow_succ] at h; omega)
    simp only [pp]
    omega
theorem and_pred_even (m : Nat) : (2 * m) &&& (2 * m - 1) = 2 * (m &&& (m - 1)) := by
  refine Nat.eq_of_testBit_eq fun i => ?_
  rw [Nat.testBit_and]
  cases i with
  | zero => simp
  | succ i => rw [Nat.testBit_succ, Nat.testBit_succ, Nat.testBit_succ, show 2 * m / 2 = m by omega, show (2 * m - 1) / 2 = m - 1 by omega, show 2 * (m &&& (m - 1)) / 2 = m &&& (m - 1) by omega, Nat.testBit_and]
theorem and_pred_odd (m : Nat) : (2 * m + 1) &&& (2 * m) = 2 * m := by
  refine Nat.eq_of_testBit_eq fun i => ?_
  rw [Nat.testBit_and]
  cases i with
  | zero => simp
  | succ i => rw [Nat.testBit_succ, Nat.testBit_succ, show (2 * m + 1) / 2 = m by omega, show 2 * m / 2 = m by omega, Bool.and_self]
theorem pp_two : ∀ f x, x < 2 ^ f → (2 ≤ pp f x ↔ x &&& (x - 1) ≠ 0)
  | 0, x, h => by simp at h; simp [pp, h]
  | f + 1, x, h => by
    rw [Nat.pow_succ] at h
    have hm : x / 2 < 2 ^ f := by omega
    have ih := pp_two f (x / 2) hm
    have iz := pp_zero f (x / 2) hm
    simp only [pp]
    rcases Nat.mod_two_eq_zero_or_one x with h0 | h0
    · have := and_pred_even (x / 2)
      rw [show 2 * (x / 2) = x by omega] at this
      rw [this]; omega
    · have := and_pred_odd (x / 2)
      rw [show 2 * (x / 2) + 1 = x by omega, show 2 * (x / 2) = x - 1 by omega] at this
      rw [this]; omega
theorem iand_pred {b : Nat} (hb : b < 2 ^ 24) : decide (iand (b : Int) ((b : Int) - 1) ≠ 0) = decide (2 ≤ pp 24 b) := by
  refine decide_eq_decide.2 ?_
  rw [pp_two 24 b hb]
  have e24 : (2 : Nat) ^ 24 = 16777216 := by decide
  rcases Nat.eq_zero_or_pos b with rfl | h0
  · decide
  · rw [show (b : Int) - 1 = ((b - 1 : Nat) : Int) by omega, iand_nat (by omega) (by omega)]
    omega
theorem and_byte {p q m M : Nat} (hp : p < 256) (hm : m < 256) : (p + 256 * q) &&& (m + 256 * M) = (p &&& m) + 256 * (q &&& M) := by
  have e : (256 : Nat) = 2 ^ 8 := by decide
  have h1 : ∀ {p q : Nat}, p < 256 → ∀ j, (p + 256 * q).testBit j = if j < 8 then p.testBit j else q.testBit (j - 8) := by
    intro p q hp j
    rw [Nat.add_comm, e, Nat.testBit_two_pow_mul_add _ (by rwa [← e])]
  have hpm : p &&& m < 256 := Nat.lt_of_le_of_lt Nat.and_le_left hp
  refine Nat.eq_of_testBit_eq fun j => ?_
  rw [Nat.testBit_and, h1 hp, h1 hm, h1 hpm]
  split
  · rw [Nat.testBit_and]
  · rw [Nat.testBit_and]
def a8 (a : Nat) : Nat := (a / 2 &&& 85) + (a &&& 85)
def b8 (a : Nat) : Nat := (a / 4 &&& 51) + (a &&& 51)
theorem m55 : ∀ p : Fin 128, ∀ e : Fin 2, ((p.val + 128 * e.val) &&& 85) = p.val &&& 85 := by decide +kernel
theorem m33 : ∀ p : Fin 64, ∀ e : Fin 4, ((p.val + 64 * e.val) &&& 51) = p.val &&& 51 := by decide +kernel
theorem t8 : ∀ p : Fin 256, a8 p.val < 256 ∧ b8 (a8 p.val) < 256 ∧ b8 (a8 p.val) / 16 ≤ 4 ∧ b8 (a8 p.val) % 16 ≤ 4 ∧ b8 (a8 p.val) / 16 + b8 (a8 p.val) % 16 = pp 8 p.val := by decide +kernel
theorem and3 {a b c m1 m2 m3 M : Nat} (ha : a < 256) (hb : b < 256) (hc : c < 256) (h1 : m1 < 256) (h2 : m2 < 256) (h3 : m3 < 256) :
    (a + 256 * b + 65536 * c) &&& (m1 + 256 * m2 + 65536 * m3 + 16777216 * M) = (a &&& m1) + 256 * (b &&& m2) + 65536 * (c &&& m3) := by
  have e1 := and_byte (p := a) (q := b + 256 * c) (m := m1) (M := m2 + 256 * (m3 + 256 * M)) ha h1
  have e2 := and_byte (p := b) (q := c) (m := m2) (M := m3 + 256 * M) hb h2
  have e3 := and_byte (p := c) (q := 0) (m := m3) (M := M) hc h3
  rw [show a + 256 * b + 65536 * c = a + 256 * (b + 256 * c) by omega, show m1 + 256 * m2 + 65536 * m3 + 16777216 * M = m1 + 256 * (m2 + 256 * (m3 + 256 * M)) by omega, e1, e2]
  rw [Nat.mul_zero, Nat.add_zero, Nat.zero_and] at e3
  rw [e3]; omega
theorem mm15 (z : Nat) : z &&& 15 = z % 16 := Nat.and_two_pow_sub_one_eq_mod z 4
theorem nib {p e : Nat} (h1 : p / 16 ≤ 4) (h2 : p % 16 ≤ 4) : (p / 16 + p + 16 * e) % 16 = p / 16 + p % 16 := by omega
theorem fold8 {p q r : Nat} (hp : p ≤ 8) (hq : q ≤ 8) (hr : r ≤ 8) : (p + 256 * q + 65536 * r + (p + 256 * q + 65536 * r) / 256 + (p + 256 * q + 65536 * r + (p + 256 * q + 65536 * r) / 256) / 65536) % 128 = p + q + r := by
  have h1 : (p + 256 * q + 65536 * r) / 256 = q + 256 * r := by omega
  rw [h1]
  have h2 : (p + 256 * q + 65536 * r + (q + 256 * r)) / 65536 = r := by omega
  rw [h2]
  omega
theorem swar {x : Nat} (hx : x < 16777216) :
    let x1 := (x / 2 &&& 6148914691236517205) + (x &&& 6148914691236517205)
    let x2 := (x1 / 4 &&& 3689348814741910323) + (x1 &&& 3689348814741910323)
    let x3 := (x2 / 16 + x2) &&& 1085102592571150095
    x1 < 16777216 ∧ x2 < 16777216 ∧ x3 < 16777216 ∧ (x3 + x3 / 256 + (x3 + x3 / 256) / 65536) % 128 = pp 24 x := by
  intro x1 x2 x3
  obtain ⟨a, b, c, rfl, ha, hb, hc⟩ : ∃ a b c, x = a + 256 * b + 65536 * c ∧ a < 256 ∧ b < 256 ∧ c < 256 := ⟨x % 256, x / 256 % 256, x / 65536, by omega, by omega, by omega, by omega⟩
  have hA := t8 ⟨a, ha⟩; have hB := t8 ⟨b, hb⟩; have hC := t8 ⟨c, hc⟩
  have e1 : x1 = a8 a + 256 * a8 b + 65536 * a8 c := by
    show ((a + 256 * b + 65536 * c) / 2 &&& 6148914691236517205) + ((a + 256 * b + 65536 * c) &&& 6148914691236517205) = _
    have q1 := m55 ⟨a / 2, by omega⟩ ⟨b % 2, by omega⟩
    have q2 := m55 ⟨b / 2, by omega⟩ ⟨c % 2, by omega⟩
    have r1 := and3 (a := a / 2 + 128 * (b % 2)) (b := b / 2 + 128 * (c % 2)) (c := c / 2) (m1 := 85) (m2 := 85) (m3 := 85) (M := 366503875925) (by omega) (by omega) (by omega) (by omega) (by omega) (by omega)
    have r2 := and3 (a := a) (b := b) (c := c) (m1 := 85) (m2 := 85) (m3 := 85) (M := 366503875925) ha hb hc (by omega) (by omega) (by omega)
    rw [show a / 2 + 128 * (b % 2) + 256 * (b / 2 + 128 * (c % 2)) + 65536 * (c / 2) = (a + 256 * b + 65536 * c) / 2 by omega] at r1
    simp only at q1 q2
    rw [q1, q2] at r1
    rw [show 85 + 256 * 85 + 65536 * 85 + 16777216 * 366503875925 = 6148914691236517205 by decide] at r1 r2
    rw [r1, r2]
    unfold a8
    omega
  simp only at hA hB hC
  generalize a8 a = a1 at *; generalize a8 b = b1 at *; generalize a8 c = c1 at *
  have e2 : x2 = b8 a1 + 256 * b8 b1 + 65536 * b8 c1 := by
    show (x1 / 4 &&& 3689348814741910323) + (x1 &&& 3689348814741910323) = _
    rw [e1]
    have q1 := m33 ⟨a1 / 4, by omega⟩ ⟨b1 % 4, by omega⟩
    have q2 := m33 ⟨b1 / 4, by omega⟩ ⟨c1 % 4, by omega⟩
    have r1 := and3 (a := a1 / 4 + 64 * (b1 % 4)) (b := b1 / 4 + 64 * (c1 % 4)) (c := c1 / 4) (m1 := 51) (m2 := 51) (m3 := 51) (M := 219902325555) (by omega) (by omega) (by omega) (by omega) (by omega) (by omega)
    have r2 := and3 (a := a1) (b := b1) (c := c1) (m1 := 51) (m2 := 51) (m3 := 51) (M := 219902325555) (by omega) (by omega) (by omega) (by omega) (by omega) (by omega)
    rw [show a1 / 4 + 64 * (b1 % 4) + 256 * (b1 / 4 + 64 * (c1 % 4)) + 65536 * (c1 / 4) = (a1 + 256 * b1 + 65536 * c1) / 4 by omega] at r1
    simp only at q1 q2
    rw [q1, q2] at r1
    rw [show 51 + 256 * 51 + 65536 * 51 + 16777216 * 219902325555 = 3689348814741910323 by decide] at r1 r2
    rw [r1, r2]
    unfold b8
    omega
  generalize b8 a1 = a2 at *; generalize b8 b1 = b2 at *; generalize b8 c1 = c2 at *
  have e3 : x3 = (a2 / 16 + a2 % 16) + 256 * (b2 / 16 + b2 % 16) + 65536 * (c2 / 16 + c2 % 16) := by
    show (x2 / 16 + x2) &&& 1085102592571150095 = _
    rw [e2]
    have r1 := and3 (a := a2 / 16 + a2 + 16 * (b2 % 16)) (b := b2 / 16 + b2 + 16 * (c2 % 16)) (c := c2 / 16 + c2) (m1 := 15) (m2 := 15) (m3 := 15) (M := 64677154575) (by omega) (by omega) (by omega) (by omega) (by omega) (by omega)
    rw [show a2 / 16 + a2 + 16 * (b2 % 16) + 256 * (b2 / 16 + b2 + 16 * (c2 % 16)) + 65536 * (c2 / 16 + c2) = (a2 + 256 * b2 + 65536 * c2) / 16 + (a2 + 256 * b2 + 65536 * c2) by omega, show 15 + 256 * 15 + 65536 * 15 + 16777216 * 64677154575 = 1085102592571150095 by decide] at r1
    rw [r1]
    rw [mm15, mm15, mm15, nib hA.2.2.1 hA.2.2.2.1, nib hB.2.2.1 hB.2.2.2.1]
    have := nib (e := 0) hC.2.2.1 hC.2.2.2.1
    rw [Nat.mul_zero, Nat.add_zero] at this
    rw [this]
  have e4 := pp_byte (y := b + 256 * c) 16 ha
  have e5 := pp_byte (y := c) 8 hb
  rw [show a + 256 * (b + 256 * c) = a + 256 * b + 65536 * c by omega] at e4
  rw [e5] at e4
  rw [show (16 + 8 : Nat) = 24 from rfl] at e4
  have pa := pp_le 8 a; have pb := pp_le 8 b; have pc := pp_le 8 c
  rw [hA.2.2.2.2, hB.2.2.2.2, hC.2.2.2.2] at e3
  rw [e4]
  generalize pp 8 a = p at *; generalize pp 8 b = q at *; generalize pp 8 c = r at *
  have hx1 : x1 < 16777216 := by rw [e1]; clear e1 e2 e3 e4 e5; omega
  have hx2 : x2 < 16777216 := by rw [e2]; clear e1 e2 e3 e4 e5; omega
  refine ⟨hx1, hx2, ?_, ?_⟩
  · rw [e3]; clear e1 e2 e3 e4 e5; omega
  · rw [e3, fold8 pa pb pc]; omega
def Fm.proper1 (F : Fm) (x : Nat) : Bool := decide ((x : Int) ≠ F.top) && decide (2 ≤ pp 24 (F.evs x))
def Fm.proper (F : Fm) : List Nat := F.find.filter F.proper1
def Fm.properTo (F : Fm) (k : Nat) : List Nat := (F.find.take k).filter F.proper1
theorem Fm.properTo_succ (F : Fm) {k : Nat} (h : k < F.find.length) : F.properTo (k + 1) = F.properTo k ++ (bif F.proper1 F.find[k] then [F.find[k]] else []) := by
  unfold Fm.properTo
  rw [List.take_succ_eq_append_getElem h, List.filter_append]
  congr 1
theorem Fm.properTo_le (F : Fm) (k : Nat) : (F.properTo k).length ≤ k := by
  unfold Fm.properTo
  exact Nat.le_trans (List.length_filter_le _ _) (by rw [List.length_take]; omega)
theorem Fm.properTo_all (F : Fm) : F.properTo F.find.length = F.proper := by
  unfold Fm.properTo Fm.proper
  rw [List.take_length]
end Go.GL
