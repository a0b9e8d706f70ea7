/-
 What math/bits' products, lengths and quotients of words come to.
 Conditions: none beyond those that each theorem names.
-/
import Derived.Lib.Mul64
import Derived.Lib.EndianBits
import Derived.Test.YtjgleaakgbnjgaaKnuth
import Derived.Test.YtjgleaakgbnjgaaXNum
import Derived.Test.YtjgleaakgbnjgaaSxMathBitsMul64
import Derived.Test.YtjgleaakgbnjgaaSxMathBitsDiv64
set_option linter.unusedSimpArgs false
set_option linter.unusedVariables false
namespace Go.Proofs.Ytjgleaakgbnjgaa.XBits
open Go.RowKit S XNum Knuth Go.Proofs.YtjgleaakgbnjgaaW.PrintWords
theorem wu (n : Int) : IntKind.u64.wrap n = n % 18446744073709551616 := IntKind.wrap_u64 n
theorem wu_id {n : Int} (h0 : 0 ≤ n) (h1 : n < 18446744073709551616) : IntKind.u64.wrap n = n := by rw [wu]; omega
theorem and32 {x : Int} (h0 : 0 ≤ x) (h1 : x < 18446744073709551616) : Go.bits .and .u64 x 4294967295 = x % 4294967296 := bits_mask .u64 64 (by decide) wraps_u64 32 (by decide) x h0 h1
theorem mul64 {x y : Int} (hx : 0 ≤ x) (hx1 : x < 18446744073709551616) (hy : 0 ≤ y) (hy1 : y < 18446744073709551616) :
  math_bits_Mul64.f x y = some (x * y / 18446744073709551616, x * y % 18446744073709551616) := by
 unfold math_bits_Mul64.f
 rw [and32 hx hx1, and32 hy hy1]
 simp only [wu]
 rw [and32 (by omega) (by omega)]
 obtain ⟨x, rfl⟩ := Int.eq_ofNat_of_zero_le hx
 obtain ⟨y, rfl⟩ := Int.eq_ofNat_of_zero_le hy
 obtain ⟨a, b, c, d⟩ := Go.Lib.mul64_hi x y (by omega) (by omega)
 have d' : ((x * y / 18446744073709551616 : Nat) : Int) = (x : Int) * y / 18446744073709551616 := by rw [Int.natCast_ediv, Int.natCast_mul]; rfl
 rw [← d', ← d]
 have e1 : ((x : Int) / 4294967296) * ((y : Int) / 4294967296) = ((x / 4294967296 * (y / 4294967296) : Nat) : Int) := by rw [Int.natCast_mul, Int.natCast_ediv, Int.natCast_ediv]; rfl
 have e2 : ((x : Int) / 4294967296) * ((y : Int) % 4294967296) = ((x / 4294967296 * (y % 4294967296) : Nat) : Int) := by rw [Int.natCast_mul, Int.natCast_ediv, Int.natCast_emod]; rfl
 have e3 : ((x : Int) % 4294967296) * ((y : Int) / 4294967296) = ((x % 4294967296 * (y / 4294967296) : Nat) : Int) := by rw [Int.natCast_mul, Int.natCast_emod, Int.natCast_ediv]; rfl
 have e4 : ((x : Int) % 4294967296) * ((y : Int) % 4294967296) = ((x % 4294967296 * (y % 4294967296) : Nat) : Int) := by rw [Int.natCast_mul, Int.natCast_emod, Int.natCast_emod]; rfl
 rw [e1, e2, e3, e4]
 have l1 := Go.Lib.half_mul_le (a := x / 4294967296) (b := y / 4294967296) (by omega) (by omega)
 have l2 := Go.Lib.half_mul_le (a := x / 4294967296) (b := y % 4294967296) (by omega) (by omega)
 have l3 := Go.Lib.half_mul_le (a := x % 4294967296) (b := y / 4294967296) (by omega) (by omega)
 have l4 := Go.Lib.half_mul_le (a := x % 4294967296) (b := y % 4294967296) (by omega) (by omega)
 have l5 : x * y / 18446744073709551616 < 18446744073709551616 := by
  have : x * y < 18446744073709551616 * 18446744073709551616 := Nat.mul_lt_mul_of_lt_of_lt (by omega) (by omega)
  omega
 generalize x / 4294967296 * (y / 4294967296) = p1 at *
 generalize x / 4294967296 * (y % 4294967296) = p2 at *
 generalize x % 4294967296 * (y / 4294967296) = p3 at *
 generalize x % 4294967296 * (y % 4294967296) = p4 at *
 generalize x * y / 18446744073709551616 = p5 at *
 congr 2
 omega
def len8 (i : Int) : Int := if i < 1 then 0 else if i < 2 then 1 else if i < 4 then 2 else if i < 8 then 3 else if i < 16 then 4 else if i < 32 then 5 else if i < 64 then 6 else if i < 128 then 7 else 8
theorem tab_fin : ∀ i : Fin 256, bt (⟨#[0, 1, 2, 2, 3, 3, 3, 3, 4, 4, 4, 4, 4, 4, 4, 4, 5, 5, 5, 5, 5, 5, 5, 5, 5, 5, 5, 5, 5, 5, 5, 5, 6, 6, 6, 6, 6, 6, 6, 6, 6, 6, 6, 6, 6, 6, 6, 6, 6, 6, 6, 6, 6, 6, 6, 6, 6, 6, 6, 6, 6, 6, 6, 6, 7, 7, 7, 7, 7, 7, 7, 7, 7, 7, 7, 7, 7, 7, 7, 7, 7, 7, 7, 7, 7, 7, 7, 7, 7, 7, 7, 7, 7, 7, 7, 7, 7, 7, 7, 7, 7, 7, 7, 7, 7, 7, 7, 7, 7, 7, 7, 7, 7, 7, 7, 7, 7, 7, 7, 7, 7, 7, 7, 7, 7, 7, 7, 7, 8, 8, 8, 8, 8, 8, 8, 8, 8, 8, 8, 8, 8, 8, 8, 8, 8, 8, 8, 8, 8, 8, 8, 8, 8, 8, 8, 8, 8, 8, 8, 8, 8, 8, 8, 8, 8, 8, 8, 8, 8, 8, 8, 8, 8, 8, 8, 8, 8, 8, 8, 8, 8, 8, 8, 8, 8, 8, 8, 8, 8, 8, 8, 8, 8, 8, 8, 8, 8, 8, 8, 8, 8, 8, 8, 8, 8, 8, 8, 8, 8, 8, 8, 8, 8, 8, 8, 8, 8, 8, 8, 8, 8, 8, 8, 8, 8, 8, 8, 8, 8, 8, 8, 8, 8, 8, 8, 8, 8, 8, 8, 8, 8, 8, 8, 8, 8, 8, 8, 8, 8, 8, 8, 8, 8, 8, 8, 8]⟩ : ByteArray) (i.val : Int) = len8 (i.val : Int) := by decide +kernel
theorem tab {i : Int} (h0 : 0 ≤ i) (h1 : i < 256) : bt (⟨#[0, 1, 2, 2, 3, 3, 3, 3, 4, 4, 4, 4, 4, 4, 4, 4, 5, 5, 5, 5, 5, 5, 5, 5, 5, 5, 5, 5, 5, 5, 5, 5, 6, 6, 6, 6, 6, 6, 6, 6, 6, 6, 6, 6, 6, 6, 6, 6, 6, 6, 6, 6, 6, 6, 6, 6, 6, 6, 6, 6, 6, 6, 6, 6, 7, 7, 7, 7, 7, 7, 7, 7, 7, 7, 7, 7, 7, 7, 7, 7, 7, 7, 7, 7, 7, 7, 7, 7, 7, 7, 7, 7, 7, 7, 7, 7, 7, 7, 7, 7, 7, 7, 7, 7, 7, 7, 7, 7, 7, 7, 7, 7, 7, 7, 7, 7, 7, 7, 7, 7, 7, 7, 7, 7, 7, 7, 7, 7, 8, 8, 8, 8, 8, 8, 8, 8, 8, 8, 8, 8, 8, 8, 8, 8, 8, 8, 8, 8, 8, 8, 8, 8, 8, 8, 8, 8, 8, 8, 8, 8, 8, 8, 8, 8, 8, 8, 8, 8, 8, 8, 8, 8, 8, 8, 8, 8, 8, 8, 8, 8, 8, 8, 8, 8, 8, 8, 8, 8, 8, 8, 8, 8, 8, 8, 8, 8, 8, 8, 8, 8, 8, 8, 8, 8, 8, 8, 8, 8, 8, 8, 8, 8, 8, 8, 8, 8, 8, 8, 8, 8, 8, 8, 8, 8, 8, 8, 8, 8, 8, 8, 8, 8, 8, 8, 8, 8, 8, 8, 8, 8, 8, 8, 8, 8, 8, 8, 8, 8, 8, 8, 8, 8, 8, 8, 8, 8]⟩ : ByteArray) i = len8 i := by
 obtain ⟨n, rfl⟩ := Int.eq_ofNat_of_zero_le h0
 exact tab_fin ⟨n, by omega⟩
def Bits (n : Nat) (y : Int) : Prop := 1 ≤ n ∧ (2 : Int) ^ (n - 1) ≤ y ∧ y < 2 ^ n
theorem len8_bits {i : Int} (h0 : 1 ≤ i) (h1 : i < 256) : ∃ m : Nat, len8 i = m ∧ m ≤ 8 ∧ Bits m i := by
 unfold len8 Bits
 rw [if_neg (by omega)]
 by_cases c1 : i < 2
 ·rw [if_pos c1]; exact ⟨1, rfl, by omega, by omega, by simp; omega, by simp; omega⟩
 rw [if_neg c1]
 by_cases c2 : i < 4
 ·rw [if_pos c2]; exact ⟨2, rfl, by omega, by omega, by simp; omega, by simp; omega⟩
 rw [if_neg c2]
 by_cases c3 : i < 8
 ·rw [if_pos c3]; exact ⟨3, rfl, by omega, by omega, by simp; omega, by simp; omega⟩
 rw [if_neg c3]
 by_cases c4 : i < 16
 ·rw [if_pos c4]; exact ⟨4, rfl, by omega, by omega, by simp; omega, by simp; omega⟩
 rw [if_neg c4]
 by_cases c5 : i < 32
 ·rw [if_pos c5]; exact ⟨5, rfl, by omega, by omega, by simp; omega, by simp; omega⟩
 rw [if_neg c5]
 by_cases c6 : i < 64
 ·rw [if_pos c6]; exact ⟨6, rfl, by omega, by omega, by simp; omega, by simp; omega⟩
 rw [if_neg c6]
 by_cases c7 : i < 128
 ·rw [if_pos c7]; exact ⟨7, rfl, by omega, by omega, by simp; omega, by simp; omega⟩
 rw [if_neg c7]
 exact ⟨8, rfl, by omega, by omega, by simp; omega, by simp; omega⟩
theorem bits_up {t m : Nat} {y : Int} (h : Bits m (y / 2 ^ t)) : Bits (m + t) y := by
 obtain ⟨a, b, c⟩ := h
 have hp : (0 : Int) < 2 ^ t := Int.pow_pos (by decide)
 refine ⟨by omega, ?_, ?_⟩
 ·have := (Int.le_ediv_iff_mul_le hp).1 b
  rw [show m + t - 1 = m - 1 + t by omega, Int.pow_add]
  exact this
 ·have := (Int.ediv_lt_iff_lt_mul hp).1 c
  rw [Int.pow_add]
  exact this
theorem len64 {y : Int} (h0 : 1 ≤ y) (h1 : y < 18446744073709551616) (k : Nat) : ∃ n : Nat, math_bits_Len64.f (k + 1) y = some (n : Int) ∧ n ≤ 64 ∧ Bits n y := by
 have key : ∀ (z x2 : Int) (t : Nat), 1 ≤ z → z < 4294967296 → x2 = t → t ≤ 32 → ∃ n : Nat, math_bits_Len64.j0 (k + 1) z x2 = some (n + t : Int) ∧ n ≤ 32 ∧ Bits n z := by
  intro z x2 t z0 z1 hx ht
  subst hx
  rw [math_bits_Len64.j0]
  by_cases c1 : z ≥ 65536
  ·rw [if_pos c1]
   by_cases c2 : z / 65536 ≥ 256
   ·rw [if_pos c2, if_pos (by omega), if_pos (by omega), tab (by omega) (by omega)]
    obtain ⟨m, e, hm, hb⟩ := len8_bits (i := z / 65536 / 256 % 256) (by omega) (by omega)
    rw [e]
    refine ⟨m + 24, ?_, by omega, ?_⟩
    ·congr 1
     rw [w64 (n := (t : Int) + 16) (by omega) (by omega), w64 (n := (t : Int) + 16 + 8) (by omega) (by omega), w64 (n := (m : Int)) (by omega) (by omega), w64 (by omega) (by omega)]
     omega
    ·refine bits_up ?_
     have : z / 2 ^ 24 = z / 65536 / 256 % 256 := by simp; omega
     rw [this]
     exact hb
   ·rw [if_neg c2, if_pos (by omega), if_pos (by omega), tab (by omega) (by omega)]
    obtain ⟨m, e, hm, hb⟩ := len8_bits (i := z / 65536 % 256) (by omega) (by omega)
    rw [e]
    refine ⟨m + 16, ?_, by omega, ?_⟩
    ·congr 1
     rw [w64 (n := (t : Int) + 16) (by omega) (by omega), w64 (n := (m : Int)) (by omega) (by omega), w64 (by omega) (by omega)]
     omega
    ·refine bits_up ?_
     have : z / 2 ^ 16 = z / 65536 % 256 := by simp; omega
     rw [this]
     exact hb
  ·rw [if_neg c1]
   by_cases c2 : z ≥ 256
   ·rw [if_pos c2, if_pos (by omega), if_pos (by omega), tab (by omega) (by omega)]
    obtain ⟨m, e, hm, hb⟩ := len8_bits (i := z / 256 % 256) (by omega) (by omega)
    rw [e]
    refine ⟨m + 8, ?_, by omega, ?_⟩
    ·congr 1
     rw [w64 (n := (t : Int) + 8) (by omega) (by omega), w64 (n := (m : Int)) (by omega) (by omega), w64 (by omega) (by omega)]
     omega
    ·refine bits_up ?_
     have : z / 2 ^ 8 = z / 256 % 256 := by simp; omega
     rw [this]
     exact hb
   ·rw [if_neg c2, if_pos (by omega), if_pos (by omega), tab (by omega) (by omega)]
    obtain ⟨m, e, hm, hb⟩ := len8_bits (i := z % 256) (by omega) (by omega)
    rw [e]
    refine ⟨m, ?_, by omega, ?_⟩
    ·congr 1
     rw [w64 (n := (m : Int)) (by omega) (by omega), w64 (by omega) (by omega)]
     omega
    ·have : z % 256 = z := by omega
     rw [this] at hb
     exact hb
 unfold math_bits_Len64.f
 by_cases c : y ≥ 4294967296
 ·rw [if_pos c]
  obtain ⟨n, e, hn, hb⟩ := key (y / 4294967296) 32 32 (by omega) (by omega) rfl (by omega)
  refine ⟨n + 32, by rw [e]; simp, by omega, bits_up ?_⟩
  have : (2 : Int) ^ 32 = 4294967296 := by decide
  rw [this]
  exact hb
 ·rw [if_neg c]
  obtain ⟨n, e, hn, hb⟩ := key y 0 0 (by omega) (by omega) rfl (by omega)
  exact ⟨n, by rw [e]; simp, by omega, hb⟩
theorem digit0 {B : Nat} {res : Option (Int × Int)} {x2 x8 x9 x10 x11 x13 x14 q : Int} (hY : x2 = x9 * 4294967296 + x10) (h1 : 2147483648 ≤ x9) (hY1 : x2 < 18446744073709551616)
  (h00 : 0 ≤ x10) (h01 : x10 < 4294967296) (hU0 : 0 ≤ x11) (hU : x11 < x2) (hu0 : 0 ≤ x13) (hu : x13 < 4294967296) (hq : q = (x11 * 4294967296 + x13) / x2)
  (hres : ∀ k, B ≤ k → math_bits_Div64.j2 k x2 x8 x9 x10 x11 x13 x14 q = res) :
  ∀ (d : Nat) (g r : Int), q ≤ g → g ≤ 4294967297 → g - q ≤ d → g * x9 + r = x11 → 0 ≤ r → (r < 4294967296) → ∀ k, B + 2 * d + 2 ≤ k → math_bits_Div64.l0 k x2 x8 x9 x10 x11 x13 x14 g r = res := by
 obtain ⟨_, _, q0, q1⟩ := guess hY h1 h00 h01 hU0 hU hu0 hu
 rw [← hq] at q0 q1
 intro d
 induction d with
 | zero =>
  intro g r hg _ hd hr r0 r1 k hk
  obtain ⟨k, rfl⟩ : ∃ m, k = m + 2 := ⟨k - 2, by omega⟩
  have e : g = q := by omega
  subst e
  have hle : g * x10 ≤ 4294967296 * r + x13 := by
   rw [← parts hY hr]
   have b := Int.mul_ediv_add_emod (x11 * 4294967296 + x13) x2
   have b0 := Int.emod_nonneg (x11 * 4294967296 + x13) (show x2 ≠ 0 by omega)
   rw [← hq, Int.mul_comm] at b
   omega
  have gy0 : 0 ≤ g * x10 := Int.mul_nonneg q0 h00
  simp only [math_bits_Div64.l0]
  rw [if_neg (by omega), wu_id (n := g * x10) gy0 (by omega), wu_id (n := 4294967296 * r) (by omega) (by omega), wu_id (n := 4294967296 * r + x13) (by omega) (by omega), decide_eq_false (by omega)]
  simp only [math_bits_Div64.j1, Bool.false_eq_true, if_false]
  exact hres k (by omega)
 | succ d ih =>
  intro g r hg hg1 hd hr r0 r1 k hk
  obtain ⟨k, rfl⟩ : ∃ m, k = m + 2 := ⟨k - 2, by omega⟩
  have step : q < g → math_bits_Div64.j1 (k + 1) x2 x8 x9 x10 x11 x13 x14 g r true = res := by
   intro hlt
   simp only [math_bits_Div64.j1, if_true]
   rw [wu_id (n := r + x9) (by omega) (by omega), wu_id (n := g - 1) (by omega) (by omega)]
   by_cases c : r + x9 ≥ 4294967296
   ·rw [if_pos c]
    have e : g - 1 = q := by
     refine right (show 0 < x2 by omega) hq (by omega) ?_
     rw [parts (r := r + x9) hY (by rw [Int.sub_mul]; omega)]
     have m : (g - 1) * x10 ≤ 4294967296 * x10 := Int.mul_le_mul_of_nonneg_right (by omega) h00
     omega
    rw [e]
    exact hres k (by omega)
   ·rw [if_neg c]
    exact ih (g - 1) (r + x9) (by omega) (by omega) (by omega) (by rw [Int.sub_mul]; omega) (by omega) (by omega) k (by omega)
  simp only [math_bits_Div64.l0]
  by_cases c : g ≥ 4294967296
  ·rw [if_pos c]
   exact step (by omega)
  ·rw [if_neg c]
   have gy0 : 0 ≤ g * x10 := Int.mul_nonneg (by omega) h00
   have gy1 : g * x10 ≤ 4294967296 * x10 := Int.mul_le_mul_of_nonneg_right (by omega) h00
   rw [wu_id (n := g * x10) gy0 (by omega), wu_id (n := 4294967296 * r) (by omega) (by omega), wu_id (n := 4294967296 * r + x13) (by omega) (by omega)]
   by_cases c2 : g * x10 > 4294967296 * r + x13
   ·rw [decide_eq_true c2]
    refine step (wrong (Y := x2) (N := x11 * 4294967296 + x13) (by omega) hq ?_)
    have := (parts (u := x13) hY hr)
    omega
   ·rw [decide_eq_false c2]
    simp only [math_bits_Div64.j1, Bool.false_eq_true, if_false]
    have e : g = q := right (Y := x2) (by omega) hq hg ((parts hY hr).2 (by omega))
    rw [e]
    exact hres k (by omega)
theorem digit1 {x2 x8 x9 x10 x14 x15 x17 q : Int} (hY : x2 = x9 * 4294967296 + x10) (h1 : 2147483648 ≤ x9) (hY1 : x2 < 18446744073709551616)
  (h00 : 0 ≤ x10) (h01 : x10 < 4294967296) (hU0 : 0 ≤ x17) (hU : x17 < x2) (hu0 : 0 ≤ x14) (hu : x14 < 4294967296) (hq : q = (x17 * 4294967296 + x14) / x2) (h8 : 0 ≤ x8) (hp0 : 0 ≤ x15) (hp1 : x15 < 4294967296) :
  ∀ (d : Nat) (g r : Int), q ≤ g → g ≤ 4294967297 → g - q ≤ d → g * x9 + r = x17 → 0 ≤ r → (r < 4294967296) → ∀ k, 2 * d + 2 ≤ k → math_bits_Div64.l1 k x2 x8 x9 x10 x14 x15 r x17 g = some (x15 * 4294967296 + q, shr .u64 ((x17 * 4294967296 + x14) % x2) x8) := by
 obtain ⟨_, _, q0, q1⟩ := guess hY h1 h00 h01 hU0 hU hu0 hu
 rw [← hq] at q0 q1
 have b := Int.mul_ediv_add_emod (x17 * 4294967296 + x14) x2
 have b0 := Int.emod_nonneg (x17 * 4294967296 + x14) (show x2 ≠ 0 by omega)
 have b1 := Int.emod_lt_of_pos (x17 * 4294967296 + x14) (show 0 < x2 by omega)
 rw [← hq, Int.mul_comm] at b
 have fin : some (IntKind.u64.wrap ((IntKind.u64.wrap (x15 * 4294967296)) + q), shr .u64 (IntKind.u64.wrap ((IntKind.u64.wrap ((IntKind.u64.wrap (x17 * 4294967296)) + x14)) - (IntKind.u64.wrap (q * x2)))) x8) = some (x15 * 4294967296 + q, shr .u64 ((x17 * 4294967296 + x14) % x2) x8) := by
  rw [wu_id (n := x15 * 4294967296) (by omega) (by omega), wu_id (n := x15 * 4294967296 + q) (by omega) (by omega)]
  congr 3
  simp only [wu]
  generalize q * x2 = m at *
  generalize (x17 * 4294967296 + x14) % x2 = t at *
  omega
 intro d
 induction d with
 | zero =>
  intro g r hg _ hd hr r0 r1 k hk
  obtain ⟨k, rfl⟩ : ∃ m, k = m + 2 := ⟨k - 2, by omega⟩
  have e : g = q := by omega
  subst e
  have hle : g * x10 ≤ 4294967296 * r + x14 := by
   rw [← parts hY hr]
   omega
  have gy0 : 0 ≤ g * x10 := Int.mul_nonneg q0 h00
  simp only [math_bits_Div64.l1]
  rw [if_neg (by omega), wu_id (n := g * x10) gy0 (by omega), wu_id (n := 4294967296 * r) (by omega) (by omega), wu_id (n := 4294967296 * r + x14) (by omega) (by omega), decide_eq_false (by omega)]
  simp only [math_bits_Div64.j4, Bool.false_eq_true, if_false]
  rw [if_pos h8]
  exact fin
 | succ d ih =>
  intro g r hg hg1 hd hr r0 r1 k hk
  obtain ⟨k, rfl⟩ : ∃ m, k = m + 2 := ⟨k - 2, by omega⟩
  have step : q < g → math_bits_Div64.j4 (k + 1) x2 x8 x9 x10 x14 x15 r x17 g true = some (x15 * 4294967296 + q, shr .u64 ((x17 * 4294967296 + x14) % x2) x8) := by
   intro hlt
   simp only [math_bits_Div64.j4, if_true]
   rw [wu_id (n := r + x9) (by omega) (by omega), wu_id (n := g - 1) (by omega) (by omega)]
   by_cases c : r + x9 ≥ 4294967296
   ·rw [if_pos c, if_pos h8]
    have e : g - 1 = q := by
     refine right (show 0 < x2 by omega) hq (by omega) ?_
     rw [parts (r := r + x9) hY (by rw [Int.sub_mul]; omega)]
     have m : (g - 1) * x10 ≤ 4294967296 * x10 := Int.mul_le_mul_of_nonneg_right (by omega) h00
     omega
    rw [e]
    exact fin
   ·rw [if_neg c]
    exact ih (g - 1) (r + x9) (by omega) (by omega) (by omega) (by rw [Int.sub_mul]; omega) (by omega) (by omega) k (by omega)
  simp only [math_bits_Div64.l1]
  by_cases c : g ≥ 4294967296
  ·rw [if_pos c]
   exact step (by omega)
  ·rw [if_neg c]
   have gy0 : 0 ≤ g * x10 := Int.mul_nonneg (by omega) h00
   have gy1 : g * x10 ≤ 4294967296 * x10 := Int.mul_le_mul_of_nonneg_right (by omega) h00
   rw [wu_id (n := g * x10) gy0 (by omega), wu_id (n := 4294967296 * r) (by omega) (by omega), wu_id (n := 4294967296 * r + x14) (by omega) (by omega)]
   by_cases c2 : g * x10 > 4294967296 * r + x14
   ·rw [decide_eq_true c2]
    refine step (wrong (Y := x2) (N := x17 * 4294967296 + x14) (by omega) hq ?_)
    have := (parts (u := x14) hY hr)
    omega
   ·rw [decide_eq_false c2]
    simp only [math_bits_Div64.j4, Bool.false_eq_true, if_false]
    have e : g = q := right (Y := x2) (by omega) hq hg ((parts hY hr).2 (by omega))
    rw [e, if_pos h8]
    exact fin
theorem div64 {hi lo y : Int} (h0 : 0 ≤ hi) (h1 : hi < y) (l0 : 0 ≤ lo) (l1 : lo < 18446744073709551616) (y1 : y < 18446744073709551616) {k : Nat} (hk : 24 ≤ k) :
  math_bits_Div64.f k hi lo y = some ((hi * 18446744073709551616 + lo) / y, (hi * 18446744073709551616 + lo) % y) := by
 obtain ⟨k, rfl⟩ : ∃ m, k = m + 24 := ⟨k - 24, by omega⟩
 unfold math_bits_Div64.f
 rw [if_neg (by omega), if_neg (by omega)]
 by_cases c : hi = 0
 ·rw [if_pos c]
  subst c
  rw [td_nn l0, tm_nn l0, Int.zero_mul, Int.zero_add]
  have : lo / y ≤ lo := Int.ediv_le_self _ l0
  have : 0 ≤ lo / y := Int.ediv_nonneg l0 (by omega)
  rw [wu_id (by omega) (by omega)]
 rw [if_neg c]
 obtain ⟨n, e, hn, b0, b1, b2⟩ := len64 (y := y) (by omega) y1 (k + 23)
 unfold math_bits_LeadingZeros64.f
 rw [e]
 simp only [Option.bind_some]
 rw [w64 (by omega) (by omega), wu_id (n := 64 - (n : Int)) (by omega) (by omega), wu_id (n := 64 - (64 - (n : Int))) (by omega) (by omega)]
 rw [if_pos (by omega), if_pos (by omega)]
 unfold shl
 unfold shr
 have i1 : min (64 - (n : Int)).toNat IntKind.u64.bits = 64 - n := by show min (64 - (n : Int)).toNat 64 = 64 - n; omega
 have i2 : min (64 - (64 - (n : Int))).toNat IntKind.u64.bits = n := by show min (64 - (64 - (n : Int))).toNat 64 = n; omega
 rw [i1, i2]
 obtain ⟨S, hSd⟩ : ∃ S : Int, S = 2 ^ (64 - n) := ⟨_, rfl⟩
 rw [← hSd]
 have hS : 0 < S := by rw [hSd]; exact Int.pow_pos (by decide)
 have hP : (0 : Int) < 2 ^ n := Int.pow_pos (by decide)
 have hSP : (2 : Int) ^ n * S = 18446744073709551616 := by
  rw [hSd, ← Int.pow_add, show n + (64 - n) = 64 by omega]; decide
 have hSP2 : (2 : Int) ^ (n - 1) * S = 9223372036854775808 := by
  rw [hSd, ← Int.pow_add, show n - 1 + (64 - n) = 63 by omega]; decide
 generalize (2 : Int) ^ n = P at *
 generalize (2 : Int) ^ (n - 1) = P' at *
 have yS1 : y * S < 18446744073709551616 := by
  have : y * S < P * S := Int.mul_lt_mul_of_pos_right b2 hS
  omega
 have yS0 : 9223372036854775808 ≤ y * S := by
  have : P' * S ≤ y * S := Int.mul_le_mul_of_nonneg_right b1 (by omega)
  omega
 have hS1 : hi * S + S ≤ y * S := by
  have : (hi + 1) * S ≤ y * S := Int.mul_le_mul_of_nonneg_right (by omega) (by omega)
  rw [Int.add_mul, Int.one_mul] at this
  omega
 have hS0 : 0 ≤ hi * S := Int.mul_nonneg h0 (by omega)
 have lS0 : 0 ≤ lo * S := Int.mul_nonneg l0 (by omega)
 have lP0 : 0 ≤ lo / P := Int.ediv_nonneg l0 (by omega)
 have lP : lo * S / 18446744073709551616 = lo / P := by
  rw [← hSP]
  exact Int.mul_ediv_mul_of_pos_left _ _ hS
 have lP1 : lo / P < S := by
  rw [Int.ediv_lt_iff_lt_mul hP, Int.mul_comm, hSP]
  exact l1
 rw [wu_id (n := y * S) (by omega) yS1, wu_id (n := hi * S) hS0 (by omega), wu (lo * S)]
 have or1 : Go.bits .or .u64 (hi * S) (lo / P) = hi * S + lo / P := by
  exact bits_join .u64 64 (by decide) wraps_u64 (64 - n) _ _ hS0 (by rw [← hSd]; exact Int.mul_emod_left _ _) (by simp; omega) lP0 (by rw [← hSd]; exact lP1) (by simp; omega)
 rw [or1, and32 (by omega) yS1, and32 (by omega) (by omega)]
 have hX : (hi * 18446744073709551616 + lo) * S = ((hi * S + lo / P) * 18446744073709551616) + lo * S % 18446744073709551616 := by
  rw [← lP]
  have : (hi * 18446744073709551616 + lo) * S = hi * S * 18446744073709551616 + lo * S := by grind
  omega
 generalize hU : hi * S + lo / P = U at *
 generalize hV : lo * S % 18446744073709551616 = V at *
 generalize hY : y * S = Y at *
 have V0 : 0 ≤ V := by omega
 have V1 : V < 18446744073709551616 := by omega
 have Us : U < Y := by omega
 rw [if_neg (by omega), td_nn (by omega)]
 have sp : Y = Y / 4294967296 * 4294967296 + Y % 4294967296 := by omega
 obtain ⟨g1, g2, g3, g4⟩ := guess (u := V / 4294967296) sp (by omega) (by omega) (by omega) (by omega) Us (by omega) (by omega)
 have ga := Int.mul_ediv_add_emod U (Y / 4294967296)
 have ga0 := Int.emod_nonneg U (show Y / 4294967296 ≠ 0 by omega)
 have ga1 := Int.emod_lt_of_pos U (show 0 < Y / 4294967296 by omega)
 rw [Int.mul_comm] at ga
 have gn : 0 ≤ U / (Y / 4294967296) * (Y / 4294967296) := Int.mul_nonneg (by omega) (by omega)
 rw [wu_id (n := U / (Y / 4294967296)) (by omega) (by omega), wu_id (n := U / (Y / 4294967296) * (Y / 4294967296)) (by omega) (by omega), wu_id (n := U - U / (Y / 4294967296) * (Y / 4294967296)) (by omega) (by omega)]
 generalize hg : U / (Y / 4294967296) = g at *
 -- the first digit
 have m1 := Int.mul_ediv_add_emod (U * 4294967296 + V / 4294967296) Y
 have m10 := Int.emod_nonneg (U * 4294967296 + V / 4294967296) (show Y ≠ 0 by omega)
 have m11 := Int.emod_lt_of_pos (U * 4294967296 + V / 4294967296) (show 0 < Y by omega)
 generalize hq1 : (U * 4294967296 + V / 4294967296) / Y = q1 at *
 generalize hr1 : (U * 4294967296 + V / 4294967296) % Y = W at *
 refine digit0 (B := 14) (q := q1) (res := some ((hi * 18446744073709551616 + lo) / y, (hi * 18446744073709551616 + lo) % y)) sp (by omega) (by omega) (by omega) (by omega) (by omega) Us (by omega) (by omega) hq1.symm ?_ 4 g (U - g * (Y / 4294967296)) g1 g2 ?_ (by omega) (by omega) (by omega) (k + 24) (by omega)
 ·intro k' hk'
  obtain ⟨k', rfl⟩ : ∃ m, k' = m + 14 := ⟨k' - 14, by omega⟩
  simp only [math_bits_Div64.j2]
  rw [if_neg (by omega)]
  have w : IntKind.u64.wrap ((IntKind.u64.wrap ((IntKind.u64.wrap (U * 4294967296)) + V / 4294967296)) - (IntKind.u64.wrap (q1 * Y))) = W := by
   simp only [wu]
   rw [Int.mul_comm q1 Y]
   generalize Y * q1 = m at *
   omega
  rw [w, td_nn (by omega)]
  obtain ⟨p1, p2, p3, p4⟩ := guess (u := V % 4294967296) sp (by omega) (by omega) (by omega) (show 0 ≤ W by omega) (by omega) (by omega) (by omega)
  have pa := Int.mul_ediv_add_emod W (Y / 4294967296)
  have pa0 := Int.emod_nonneg W (show Y / 4294967296 ≠ 0 by omega)
  have pa1 := Int.emod_lt_of_pos W (show 0 < Y / 4294967296 by omega)
  rw [Int.mul_comm] at pa
  have pn : 0 ≤ W / (Y / 4294967296) * (Y / 4294967296) := Int.mul_nonneg (by omega) (by omega)
  rw [wu_id (n := W / (Y / 4294967296)) (by omega) (by omega), wu_id (n := W / (Y / 4294967296) * (Y / 4294967296)) (by omega) (by omega), wu_id (n := W - W / (Y / 4294967296) * (Y / 4294967296)) (by omega) (by omega)]
  generalize hg' : W / (Y / 4294967296) = g' at *
  have m2 := Int.mul_ediv_add_emod (W * 4294967296 + V % 4294967296) Y
  have m20 := Int.emod_nonneg (W * 4294967296 + V % 4294967296) (show Y ≠ 0 by omega)
  have m21 := Int.emod_lt_of_pos (W * 4294967296 + V % 4294967296) (show 0 < Y by omega)
  generalize hq2 : (W * 4294967296 + V % 4294967296) / Y = q2 at *
  have d2 : g' - q2 ≤ 4 := by
   rcases ltge 4 (g' - q2) with c5 | c5
   ·have e1 : Y * q2 + Y * 5 ≤ Y * g' := by
     have : Y * (q2 + 5) ≤ Y * g' := Int.mul_le_mul_of_nonneg_left (by omega) (by omega)
     rw [Int.mul_add] at this
     exact this
    have e2 : Y * g' = g' * (Y / 4294967296) * 4294967296 + g' * (Y % 4294967296) := by
     conv => lhs; rw [sp]
     grind
    have e3 : g' * (Y % 4294967296) ≤ 4294967297 * (Y % 4294967296) := Int.mul_le_mul_of_nonneg_right p2 (by omega)
    omega
   ·exact c5
  rw [digit1 (q := q2) sp (by omega) (by omega) (by omega) (by omega) (by omega) (by omega) (by omega) (by omega) hq2.symm (by omega) (by omega) (by omega) 4 g' (W - g' * (Y / 4294967296)) p1 p2 d2 (by omega) (by omega) (by omega) (k' + 13) (by omega)]
  have fin := whole (X := hi * 18446744073709551616 + lo) (y := y) (S := S) (Q := q1 * 4294967296 + q2) (R := (W * 4294967296 + V % 4294967296) % Y) (by omega) hS (by
   rw [hX, hY, Int.mul_add]
   have : Y * (q1 * 4294967296) = Y * q1 * 4294967296 := by rw [Int.mul_assoc]
   rw [this]
   generalize Y * q1 = a at *
   generalize Y * q2 = b at *
   omega) m20 (by rw [hY]; exact m21)
  rw [fin.1, fin.2]
  unfold shr
  rw [i1]
  rw [hSd]
 ·rcases ltge 4 (g - q1) with c5 | c5
  ·have e1 : Y * q1 + Y * 5 ≤ Y * g := by
    have : Y * (q1 + 5) ≤ Y * g := Int.mul_le_mul_of_nonneg_left (by omega) (by omega)
    rw [Int.mul_add] at this
    exact this
   have e2 : Y * g = g * (Y / 4294967296) * 4294967296 + g * (Y % 4294967296) := by
    conv => lhs; rw [sp]
    grind
   have e3 : g * (Y % 4294967296) ≤ 4294967297 * (Y % 4294967296) := Int.mul_le_mul_of_nonneg_right g2 (by omega)
   omega
  ·omega
end Go.Proofs.Ytjgleaakgbnjgaa.XBits
