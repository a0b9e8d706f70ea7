/- Texts of the statement SchedBuildsSaid, laid together. Conditions: none beyond those that each theorem names. -/
import Derived.Test.YtchpeobenlnemaaWWords
import Derived.Lib.Mul64
import Derived.Lib.EndianBits
import Derived.Test.YtchpeobenlnemaaMSchedBuilds2
import Derived.Test.YtchpeobenlnemaaSxMathBitsDiv64
import Derived.Test.YtchpeobenlnemaaSx0
import Derived.Test.YtchpeobenlnemaaSxWideDiv
import Derived.Handy
import Derived.Laws.CopyOwn
import Derived.Deep.DeepMust
import Derived.OrdersHeld
import Derived.LoopTactic
section
namespace Go.Proofs.Ytchpeobenlnemaa.Knuth
set_option linter.unusedVariables false
set_option linter.unusedSimpArgs false

theorem ltge (a b : Int) : a < b ∨ b ≤ a := by omega
/-- A quotient by its rest. -/
theorem quot_uniq {A b q r : Int} (hb : 0 < b) (h : A = b * q + r) (h0 : 0 ≤ r) (h1 : r < b) : A / b = q ∧ A % b = r := by
 have := Int.mul_ediv_add_emod A b
 have p0 := Int.emod_nonneg A (show b ≠ 0 by omega)
 have p1 := Int.emod_lt_of_pos A hb
 generalize A / b = q' at *
 generalize A % b = r' at *
 have e : b * (q' - q) = r - r' := by rw [Int.mul_sub]; omega
 have k : q' - q = 0 := by
  rcases Int.lt_trichotomy (q' - q) 0 with c | c | c
  ·have : b * (q' - q) ≤ b * (-1) := Int.mul_le_mul_of_nonneg_left (by omega) (by omega)
   omega
  ·exact c
  ·have : b * 1 ≤ b * (q' - q) := Int.mul_le_mul_of_nonneg_left (by omega) (by omega)
   omega
 rw [k, Int.mul_zero] at e
 omega

/-- the first guess: no less than the quotient, and at most one beyond a digit -/
theorem guess {Y y1 y0 U u : Int} (hY : Y = y1 * 4294967296 + y0) (h1 : 2147483648 ≤ y1) (h00 : 0 ≤ y0) (h01 : y0 < 4294967296)
  (hU0 : 0 ≤ U) (hU : U < Y) (hu0 : 0 ≤ u) (hu : u < 4294967296) :
  (U * 4294967296 + u) / Y ≤ U / y1 ∧ U / y1 ≤ 4294967297 ∧ 0 ≤ (U * 4294967296 + u) / Y ∧ (U * 4294967296 + u) / Y ≤ 4294967295 := by
 have hy : 0 < Y := by omega
 have a := Int.mul_ediv_add_emod U y1
 have a0 := Int.emod_nonneg U (show y1 ≠ 0 by omega)
 have a1 := Int.emod_lt_of_pos U (show 0 < y1 by omega)
 have b := Int.mul_ediv_add_emod (U * 4294967296 + u) Y
 have b0 := Int.emod_nonneg (U * 4294967296 + u) (show Y ≠ 0 by omega)
 have b1 := Int.emod_lt_of_pos (U * 4294967296 + u) hy
 generalize U / y1 = g at *
 generalize U % y1 = r at *
 generalize (U * 4294967296 + u) / Y = q at *
 generalize (U * 4294967296 + u) % Y = t at *
 have q0 : 0 ≤ q := by
  rcases ltge q 0 with c | c
  ·have : Y * q ≤ Y * (-1) := Int.mul_le_mul_of_nonneg_left (by omega) (by omega)
   omega
  ·exact c
 have q1 : q ≤ 4294967295 := by
  rcases ltge 4294967295 q with c | c
  ·have : Y * 4294967296 ≤ Y * q := Int.mul_le_mul_of_nonneg_left (by omega) (by omega)
   omega
  ·exact c
 refine ⟨?_, ?_, q0, q1⟩
 ·rcases ltge g q with c | c
  ·have e1 : y1 * (g + 1) ≤ y1 * q := Int.mul_le_mul_of_nonneg_left (by omega) (by omega)
   have e2 : 0 ≤ y0 * q := Int.mul_nonneg h00 q0
   have e3 : Y * q = 4294967296 * (y1 * q) + y0 * q := by rw [hY]; grind
   rw [Int.mul_add, Int.mul_one] at e1
   omega
  ·exact c
 ·rcases ltge 4294967297 g with c | c
  ·have e1 : y1 * 4294967298 ≤ y1 * g := Int.mul_le_mul_of_nonneg_left (by omega) (by omega)
   omega
  ·exact c

/-- the guess is right if it asks for no more than there is -/
theorem right {Y N q g : Int} (hy : 0 < Y) (hq : q = N / Y) (h : q ≤ g) (h1 : g * Y ≤ N) : g = q := by
 have b := Int.mul_ediv_add_emod N Y
 have b1 := Int.emod_lt_of_pos N hy
 rw [← hq] at b
 rcases ltge q g with c | c
 ·have e1 : Y * (q + 1) ≤ Y * g := Int.mul_le_mul_of_nonneg_left (by omega) (by omega)
  rw [Int.mul_add, Int.mul_one] at e1
  rw [Int.mul_comm] at h1
  omega
 ·omega

theorem wrong {Y N q g : Int} (hy : 0 < Y) (hq : q = N / Y) (h1 : N < g * Y) : q < g := by
 have b := Int.mul_ediv_add_emod N Y
 have b0 := Int.emod_nonneg N (show Y ≠ 0 by omega)
 rw [← hq] at b
 rcases ltge q g with c | c
 ·exact c
 ·have e1 : Y * g ≤ Y * q := Int.mul_le_mul_of_nonneg_left (by omega) (by omega)
  rw [Int.mul_comm] at h1
  omega

/-- what is asked of a guess, by its parts -/
theorem parts {Y y1 y0 U u g r : Int} (hY : Y = y1 * 4294967296 + y0) (hr : g * y1 + r = U) : (g * Y ≤ U * 4294967296 + u ↔ g * y0 ≤ 4294967296 * r + u) := by
 have : g * Y = 4294967296 * (g * y1) + g * y0 := by rw [hY]; grind
 omega

/-- two digits, and the rest moved back -/
theorem whole {X y S Q R : Int} (hy : 0 < y) (hS : 0 < S) (h : X * S = (y * S) * Q + R) (h0 : 0 ≤ R) (h1 : R < y * S) : X / y = Q ∧ X % y = R / S := by
 have e : R = S * (X - y * Q) := by grind
 have f : R / S = X - y * Q := by rw [e]; exact Int.mul_ediv_cancel_left _ (by omega)
 have g0 : 0 ≤ X - y * Q := by
  rcases ltge (X - y * Q) 0 with c | c
  ·have : S * (X - y * Q) ≤ S * (-1) := Int.mul_le_mul_of_nonneg_left (by omega) (by omega)
   omega
  ·exact c
 have g1 : X - y * Q < y := by
  rcases ltge (X - y * Q) y with c | c
  ·exact c
  ·have : S * y ≤ S * (X - y * Q) := Int.mul_le_mul_of_nonneg_left (by omega) (by omega)
   rw [Int.mul_comm S y] at this
   omega
 have := quot_uniq hy (show X = y * Q + (X - y * Q) by omega) g0 g1
 exact ⟨this.1, this.2.trans f.symm⟩
end Go.Proofs.Ytchpeobenlnemaa.Knuth
end

section
namespace Go.Proofs.Ytchpeobenlnemaa.XNum
set_option linter.unusedVariables false
set_option linter.unusedSimpArgs false
open Go.RowKit Go.Proofs.YtchpeobenlnemaaW.PrintWords

theorem w64 {n : Int} (h0 : -9223372036854775808 ≤ n) (h1 : n ≤ 9223372036854775807) : wrap64 n = n := by
 unfold wrap64
 omega
theorem tm_nn {a k : Int} (h : 0 ≤ a) : Int.tmod a k = a % k := Int.tmod_eq_emod_of_nonneg h
theorem td_nn {a k : Int} (h : 0 ≤ a) : Int.tdiv a k = a / k := Int.tdiv_eq_ediv_of_nonneg h
end Go.Proofs.Ytchpeobenlnemaa.XNum
end

section
namespace Go.Proofs.Ytchpeobenlnemaa.XBits
set_option linter.unusedVariables false
set_option linter.unusedSimpArgs false
open Go.RowKit Go.Proofs.Ytchpeobenlnemaa.S Go.Proofs.Ytchpeobenlnemaa.XNum Go.Proofs.Ytchpeobenlnemaa.Knuth Go.Proofs.YtchpeobenlnemaaW.PrintWords

theorem wu (n : Int) : IntKind.u64.wrap n = n % 18446744073709551616 := IntKind.wrap_u64 n
theorem wu_id {n : Int} (h0 : 0 ≤ n) (h1 : n < 18446744073709551616) : IntKind.u64.wrap n = n := by rw [wu]; omega
theorem and32 {x : Int} (h0 : 0 ≤ x) (h1 : x < 18446744073709551616) : Go.bits .and .u64 x 4294967295 = x % 4294967296 := bits_mask .u64 64 (by decide) wraps_u64 32 (by decide) x h0 h1

theorem mul64 {x y : Int} (hx : 0 ≤ x) (hx1 : x < 18446744073709551616) (hy : 0 ≤ y) (hy1 : y < 18446744073709551616) :
  math_bits_Mul64.f x y = some (x * y / 18446744073709551616, x * y % 18446744073709551616) := by
 unfold math_bits_Mul64.f
 rw [and32 hx hx1, and32 hy hy1]
 simp only [wu]
 rw [and32 (by omega) (by omega)]
 obtain ⟨x, rfl⟩ := Int.eq_ofNat_of_zero_le hx
 obtain ⟨y, rfl⟩ := Int.eq_ofNat_of_zero_le hy
 obtain ⟨a, b, c, d⟩ := Go.Lib.mul64_hi x y (by omega) (by omega)
 have d' : ((x * y / 18446744073709551616 : Nat) : Int) = (x : Int) * y / 18446744073709551616 := by rw [Int.natCast_ediv, Int.natCast_mul]; rfl
 rw [← d', ← d]
 have e1 : ((x : Int) / 4294967296) * ((y : Int) / 4294967296) = ((x / 4294967296 * (y / 4294967296) : Nat) : Int) := by rw [Int.natCast_mul, Int.natCast_ediv, Int.natCast_ediv]; rfl
 have e2 : ((x : Int) / 4294967296) * ((y : Int) % 4294967296) = ((x / 4294967296 * (y % 4294967296) : Nat) : Int) := by rw [Int.natCast_mul, Int.natCast_ediv, Int.natCast_emod]; rfl
 have e3 : ((x : Int) % 4294967296) * ((y : Int) / 4294967296) = ((x % 4294967296 * (y / 4294967296) : Nat) : Int) := by rw [Int.natCast_mul, Int.natCast_emod, Int.natCast_ediv]; rfl
 have e4 : ((x : Int) % 4294967296) * ((y : Int) % 4294967296) = ((x % 4294967296 * (y % 4294967296) : Nat) : Int) := by rw [Int.natCast_mul, Int.natCast_emod, Int.natCast_emod]; rfl
 rw [e1, e2, e3, e4]
 have l1 := Go.Lib.half_mul_le (a := x / 4294967296) (b := y / 4294967296) (by omega) (by omega)
 have l2 := Go.Lib.half_mul_le (a := x / 4294967296) (b := y % 4294967296) (by omega) (by omega)
 have l3 := Go.Lib.half_mul_le (a := x % 4294967296) (b := y / 4294967296) (by omega) (by omega)
 have l4 := Go.Lib.half_mul_le (a := x % 4294967296) (b := y % 4294967296) (by omega) (by omega)
 have l5 : x * y / 18446744073709551616 < 18446744073709551616 := by
  have : x * y < 18446744073709551616 * 18446744073709551616 := Nat.mul_lt_mul_of_lt_of_lt (by omega) (by omega)
  omega
 generalize x / 4294967296 * (y / 4294967296) = p1 at *
 generalize x / 4294967296 * (y % 4294967296) = p2 at *
 generalize x % 4294967296 * (y / 4294967296) = p3 at *
 generalize x % 4294967296 * (y % 4294967296) = p4 at *
 generalize x * y / 18446744073709551616 = p5 at *
 congr 2
 omega

/-- How many bits a byte has. -/
def len8 (i : Int) : Int := if i < 1 then 0 else if i < 2 then 1 else if i < 4 then 2 else if i < 8 then 3 else if i < 16 then 4 else if i < 32 then 5 else if i < 64 then 6 else if i < 128 then 7 else 8
theorem tab_fin : ∀ i : Fin 256, bt (⟨#[0, 1, 2, 2, 3, 3, 3, 3, 4, 4, 4, 4, 4, 4, 4, 4, 5, 5, 5, 5, 5, 5, 5, 5, 5, 5, 5, 5, 5, 5, 5, 5, 6, 6, 6, 6, 6, 6, 6, 6, 6, 6, 6, 6, 6, 6, 6, 6, 6, 6, 6, 6, 6, 6, 6, 6, 6, 6, 6, 6, 6, 6, 6, 6, 7, 7, 7, 7, 7, 7, 7, 7, 7, 7, 7, 7, 7, 7, 7, 7, 7, 7, 7, 7, 7, 7, 7, 7, 7, 7, 7, 7, 7, 7, 7, 7, 7, 7, 7, 7, 7, 7, 7, 7, 7, 7, 7, 7, 7, 7, 7, 7, 7, 7, 7, 7, 7, 7, 7, 7, 7, 7, 7, 7, 7, 7, 7, 7, 8, 8, 8, 8, 8, 8, 8, 8, 8, 8, 8, 8, 8, 8, 8, 8, 8, 8, 8, 8, 8, 8, 8, 8, 8, 8, 8, 8, 8, 8, 8, 8, 8, 8, 8, 8, 8, 8, 8, 8, 8, 8, 8, 8, 8, 8, 8, 8, 8, 8, 8, 8, 8, 8, 8, 8, 8, 8, 8, 8, 8, 8, 8, 8, 8, 8, 8, 8, 8, 8, 8, 8, 8, 8, 8, 8, 8, 8, 8, 8, 8, 8, 8, 8, 8, 8, 8, 8, 8, 8, 8, 8, 8, 8, 8, 8, 8, 8, 8, 8, 8, 8, 8, 8, 8, 8, 8, 8, 8, 8, 8, 8, 8, 8, 8, 8, 8, 8, 8, 8, 8, 8, 8, 8, 8, 8, 8, 8]⟩ : ByteArray) (i.val : Int) = len8 (i.val : Int) := by decide +kernel
theorem tab {i : Int} (h0 : 0 ≤ i) (h1 : i < 256) : bt (⟨#[0, 1, 2, 2, 3, 3, 3, 3, 4, 4, 4, 4, 4, 4, 4, 4, 5, 5, 5, 5, 5, 5, 5, 5, 5, 5, 5, 5, 5, 5, 5, 5, 6, 6, 6, 6, 6, 6, 6, 6, 6, 6, 6, 6, 6, 6, 6, 6, 6, 6, 6, 6, 6, 6, 6, 6, 6, 6, 6, 6, 6, 6, 6, 6, 7, 7, 7, 7, 7, 7, 7, 7, 7, 7, 7, 7, 7, 7, 7, 7, 7, 7, 7, 7, 7, 7, 7, 7, 7, 7, 7, 7, 7, 7, 7, 7, 7, 7, 7, 7, 7, 7, 7, 7, 7, 7, 7, 7, 7, 7, 7, 7, 7, 7, 7, 7, 7, 7, 7, 7, 7, 7, 7, 7, 7, 7, 7, 7, 8, 8, 8, 8, 8, 8, 8, 8, 8, 8, 8, 8, 8, 8, 8, 8, 8, 8, 8, 8, 8, 8, 8, 8, 8, 8, 8, 8, 8, 8, 8, 8, 8, 8, 8, 8, 8, 8, 8, 8, 8, 8, 8, 8, 8, 8, 8, 8, 8, 8, 8, 8, 8, 8, 8, 8, 8, 8, 8, 8, 8, 8, 8, 8, 8, 8, 8, 8, 8, 8, 8, 8, 8, 8, 8, 8, 8, 8, 8, 8, 8, 8, 8, 8, 8, 8, 8, 8, 8, 8, 8, 8, 8, 8, 8, 8, 8, 8, 8, 8, 8, 8, 8, 8, 8, 8, 8, 8, 8, 8, 8, 8, 8, 8, 8, 8, 8, 8, 8, 8, 8, 8, 8, 8, 8, 8, 8, 8]⟩ : ByteArray) i = len8 i := by
 obtain ⟨n, rfl⟩ := Int.eq_ofNat_of_zero_le h0
 exact tab_fin ⟨n, by omega⟩
/-- It has n bits. -/
def Bits (n : Nat) (y : Int) : Prop := 1 ≤ n ∧ (2 : Int) ^ (n - 1) ≤ y ∧ y < 2 ^ n
theorem len8_bits {i : Int} (h0 : 1 ≤ i) (h1 : i < 256) : ∃ m : Nat, len8 i = m ∧ m ≤ 8 ∧ Bits m i := by
 unfold len8 Bits
 rw [if_neg (by omega)]
 by_cases c1 : i < 2
 ·rw [if_pos c1]; exact ⟨1, rfl, by omega, by omega, by simp; omega, by simp; omega⟩
 rw [if_neg c1]
 by_cases c2 : i < 4
 ·rw [if_pos c2]; exact ⟨2, rfl, by omega, by omega, by simp; omega, by simp; omega⟩
 rw [if_neg c2]
 by_cases c3 : i < 8
 ·rw [if_pos c3]; exact ⟨3, rfl, by omega, by omega, by simp; omega, by simp; omega⟩
 rw [if_neg c3]
 by_cases c4 : i < 16
 ·rw [if_pos c4]; exact ⟨4, rfl, by omega, by omega, by simp; omega, by simp; omega⟩
 rw [if_neg c4]
 by_cases c5 : i < 32
 ·rw [if_pos c5]; exact ⟨5, rfl, by omega, by omega, by simp; omega, by simp; omega⟩
 rw [if_neg c5]
 by_cases c6 : i < 64
 ·rw [if_pos c6]; exact ⟨6, rfl, by omega, by omega, by simp; omega, by simp; omega⟩
 rw [if_neg c6]
 by_cases c7 : i < 128
 ·rw [if_pos c7]; exact ⟨7, rfl, by omega, by omega, by simp; omega, by simp; omega⟩
 rw [if_neg c7]
 exact ⟨8, rfl, by omega, by omega, by simp; omega, by simp; omega⟩
theorem bits_up {t m : Nat} {y : Int} (h : Bits m (y / 2 ^ t)) : Bits (m + t) y := by
 obtain ⟨a, b, c⟩ := h
 have hp : (0 : Int) < 2 ^ t := Int.pow_pos (by decide)
 refine ⟨by omega, ?_, ?_⟩
 ·have := (Int.le_ediv_iff_mul_le hp).1 b
  rw [show m + t - 1 = m - 1 + t by omega, Int.pow_add]
  exact this
 ·have := (Int.ediv_lt_iff_lt_mul hp).1 c
  rw [Int.pow_add]
  exact this

theorem len64 {y : Int} (h0 : 1 ≤ y) (h1 : y < 18446744073709551616) (k : Nat) : ∃ n : Nat, math_bits_Len64.f (k + 1) y = some (n : Int) ∧ n ≤ 64 ∧ Bits n y := by
 have key : ∀ (z x2 : Int) (t : Nat), 1 ≤ z → z < 4294967296 → x2 = t → t ≤ 32 → ∃ n : Nat, math_bits_Len64.j0 (k + 1) z x2 = some (n + t : Int) ∧ n ≤ 32 ∧ Bits n z := by
  intro z x2 t z0 z1 hx ht
  subst hx
  rw [math_bits_Len64.j0]
  by_cases c1 : z ≥ 65536
  ·rw [if_pos c1]
   by_cases c2 : z / 65536 ≥ 256
   ·rw [if_pos c2, if_pos (by omega), if_pos (by omega), tab (by omega) (by omega)]
    obtain ⟨m, e, hm, hb⟩ := len8_bits (i := z / 65536 / 256 % 256) (by omega) (by omega)
    rw [e]
    refine ⟨m + 24, ?_, by omega, ?_⟩
    ·congr 1
     rw [w64 (n := (t : Int) + 16) (by omega) (by omega), w64 (n := (t : Int) + 16 + 8) (by omega) (by omega), w64 (n := (m : Int)) (by omega) (by omega), w64 (by omega) (by omega)]
     omega
    ·refine bits_up ?_
     have : z / 2 ^ 24 = z / 65536 / 256 % 256 := by simp; omega
     rw [this]
     exact hb
   ·rw [if_neg c2, if_pos (by omega), if_pos (by omega), tab (by omega) (by omega)]
    obtain ⟨m, e, hm, hb⟩ := len8_bits (i := z / 65536 % 256) (by omega) (by omega)
    rw [e]
    refine ⟨m + 16, ?_, by omega, ?_⟩
    ·congr 1
     rw [w64 (n := (t : Int) + 16) (by omega) (by omega), w64 (n := (m : Int)) (by omega) (by omega), w64 (by omega) (by omega)]
     omega
    ·refine bits_up ?_
     have : z / 2 ^ 16 = z / 65536 % 256 := by simp; omega
     rw [this]
     exact hb
  ·rw [if_neg c1]
   by_cases c2 : z ≥ 256
   ·rw [if_pos c2, if_pos (by omega), if_pos (by omega), tab (by omega) (by omega)]
    obtain ⟨m, e, hm, hb⟩ := len8_bits (i := z / 256 % 256) (by omega) (by omega)
    rw [e]
    refine ⟨m + 8, ?_, by omega, ?_⟩
    ·congr 1
     rw [w64 (n := (t : Int) + 8) (by omega) (by omega), w64 (n := (m : Int)) (by omega) (by omega), w64 (by omega) (by omega)]
     omega
    ·refine bits_up ?_
     have : z / 2 ^ 8 = z / 256 % 256 := by simp; omega
     rw [this]
     exact hb
   ·rw [if_neg c2, if_pos (by omega), if_pos (by omega), tab (by omega) (by omega)]
    obtain ⟨m, e, hm, hb⟩ := len8_bits (i := z % 256) (by omega) (by omega)
    rw [e]
    refine ⟨m, ?_, by omega, ?_⟩
    ·congr 1
     rw [w64 (n := (m : Int)) (by omega) (by omega), w64 (by omega) (by omega)]
     omega
    ·have : z % 256 = z := by omega
     rw [this] at hb
     exact hb
 unfold math_bits_Len64.f
 by_cases c : y ≥ 4294967296
 ·rw [if_pos c]
  obtain ⟨n, e, hn, hb⟩ := key (y / 4294967296) 32 32 (by omega) (by omega) rfl (by omega)
  refine ⟨n + 32, by rw [e]; simp, by omega, bits_up ?_⟩
  have : (2 : Int) ^ 32 = 4294967296 := by decide
  rw [this]
  exact hb
 ·rw [if_neg c]
  obtain ⟨n, e, hn, hb⟩ := key y 0 0 (by omega) (by omega) rfl (by omega)
  exact ⟨n, by rw [e]; simp, by omega, hb⟩

/-- one digit, as the first loop finds it -/
theorem digit0 {B : Nat} {res : Option (Int × Int)} {x2 x8 x9 x10 x11 x13 x14 q : Int} (hY : x2 = x9 * 4294967296 + x10) (h1 : 2147483648 ≤ x9) (hY1 : x2 < 18446744073709551616)
  (h00 : 0 ≤ x10) (h01 : x10 < 4294967296) (hU0 : 0 ≤ x11) (hU : x11 < x2) (hu0 : 0 ≤ x13) (hu : x13 < 4294967296) (hq : q = (x11 * 4294967296 + x13) / x2)
  (hres : ∀ k, B ≤ k → math_bits_Div64.j2 k x2 x8 x9 x10 x11 x13 x14 q = res) :
  ∀ (d : Nat) (g r : Int), q ≤ g → g ≤ 4294967297 → g - q ≤ d → g * x9 + r = x11 → 0 ≤ r → (r < 4294967296) → ∀ k, B + 2 * d + 2 ≤ k → math_bits_Div64.l0 k x2 x8 x9 x10 x11 x13 x14 g r = res := by
 obtain ⟨_, _, q0, q1⟩ := guess hY h1 h00 h01 hU0 hU hu0 hu
 rw [← hq] at q0 q1
 intro d
 induction d with
 | zero =>
  intro g r hg _ hd hr r0 r1 k hk
  obtain ⟨k, rfl⟩ : ∃ m, k = m + 2 := ⟨k - 2, by omega⟩
  have e : g = q := by omega
  subst e
  have hle : g * x10 ≤ 4294967296 * r + x13 := by
   rw [← parts hY hr]
   have b := Int.mul_ediv_add_emod (x11 * 4294967296 + x13) x2
   have b0 := Int.emod_nonneg (x11 * 4294967296 + x13) (show x2 ≠ 0 by omega)
   rw [← hq, Int.mul_comm] at b
   omega
  have gy0 : 0 ≤ g * x10 := Int.mul_nonneg q0 h00
  simp only [math_bits_Div64.l0]
  rw [if_neg (by omega), wu_id (n := g * x10) gy0 (by omega), wu_id (n := 4294967296 * r) (by omega) (by omega), wu_id (n := 4294967296 * r + x13) (by omega) (by omega), decide_eq_false (by omega)]
  simp only [math_bits_Div64.j1, Bool.false_eq_true, if_false]
  exact hres k (by omega)
 | succ d ih =>
  intro g r hg hg1 hd hr r0 r1 k hk
  obtain ⟨k, rfl⟩ : ∃ m, k = m + 2 := ⟨k - 2, by omega⟩
  have step : q < g → math_bits_Div64.j1 (k + 1) x2 x8 x9 x10 x11 x13 x14 g r true = res := by
   intro hlt
   simp only [math_bits_Div64.j1, if_true]
   rw [wu_id (n := r + x9) (by omega) (by omega), wu_id (n := g - 1) (by omega) (by omega)]
   by_cases c : r + x9 ≥ 4294967296
   ·rw [if_pos c]
    have e : g - 1 = q := by
     refine right (show 0 < x2 by omega) hq (by omega) ?_
     rw [parts (r := r + x9) hY (by rw [Int.sub_mul]; omega)]
     have m : (g - 1) * x10 ≤ 4294967296 * x10 := Int.mul_le_mul_of_nonneg_right (by omega) h00
     omega
    rw [e]
    exact hres k (by omega)
   ·rw [if_neg c]
    exact ih (g - 1) (r + x9) (by omega) (by omega) (by omega) (by rw [Int.sub_mul]; omega) (by omega) (by omega) k (by omega)
  simp only [math_bits_Div64.l0]
  by_cases c : g ≥ 4294967296
  ·rw [if_pos c]
   exact step (by omega)
  ·rw [if_neg c]
   have gy0 : 0 ≤ g * x10 := Int.mul_nonneg (by omega) h00
   have gy1 : g * x10 ≤ 4294967296 * x10 := Int.mul_le_mul_of_nonneg_right (by omega) h00
   rw [wu_id (n := g * x10) gy0 (by omega), wu_id (n := 4294967296 * r) (by omega) (by omega), wu_id (n := 4294967296 * r + x13) (by omega) (by omega)]
   by_cases c2 : g * x10 > 4294967296 * r + x13
   ·rw [decide_eq_true c2]
    refine step (wrong (Y := x2) (N := x11 * 4294967296 + x13) (by omega) hq ?_)
    have := (parts (u := x13) hY hr)
    omega
   ·rw [decide_eq_false c2]
    simp only [math_bits_Div64.j1, Bool.false_eq_true, if_false]
    have e : g = q := right (Y := x2) (by omega) hq hg ((parts hY hr).2 (by omega))
    rw [e]
    exact hres k (by omega)

/-- the second digit, and what comes behind it -/
theorem digit1 {x2 x8 x9 x10 x14 x15 x17 q : Int} (hY : x2 = x9 * 4294967296 + x10) (h1 : 2147483648 ≤ x9) (hY1 : x2 < 18446744073709551616)
  (h00 : 0 ≤ x10) (h01 : x10 < 4294967296) (hU0 : 0 ≤ x17) (hU : x17 < x2) (hu0 : 0 ≤ x14) (hu : x14 < 4294967296) (hq : q = (x17 * 4294967296 + x14) / x2) (h8 : 0 ≤ x8) (hp0 : 0 ≤ x15) (hp1 : x15 < 4294967296) :
  ∀ (d : Nat) (g r : Int), q ≤ g → g ≤ 4294967297 → g - q ≤ d → g * x9 + r = x17 → 0 ≤ r → (r < 4294967296) → ∀ k, 2 * d + 2 ≤ k → math_bits_Div64.l1 k x2 x8 x9 x10 x14 x15 r x17 g = some (x15 * 4294967296 + q, shr .u64 ((x17 * 4294967296 + x14) % x2) x8) := by
 obtain ⟨_, _, q0, q1⟩ := guess hY h1 h00 h01 hU0 hU hu0 hu
 rw [← hq] at q0 q1
 have b := Int.mul_ediv_add_emod (x17 * 4294967296 + x14) x2
 have b0 := Int.emod_nonneg (x17 * 4294967296 + x14) (show x2 ≠ 0 by omega)
 have b1 := Int.emod_lt_of_pos (x17 * 4294967296 + x14) (show 0 < x2 by omega)
 rw [← hq, Int.mul_comm] at b
 have fin : some (IntKind.u64.wrap ((IntKind.u64.wrap (x15 * 4294967296)) + q), shr .u64 (IntKind.u64.wrap ((IntKind.u64.wrap ((IntKind.u64.wrap (x17 * 4294967296)) + x14)) - (IntKind.u64.wrap (q * x2)))) x8) = some (x15 * 4294967296 + q, shr .u64 ((x17 * 4294967296 + x14) % x2) x8) := by
  rw [wu_id (n := x15 * 4294967296) (by omega) (by omega), wu_id (n := x15 * 4294967296 + q) (by omega) (by omega)]
  congr 3
  simp only [wu]
  generalize q * x2 = m at *
  generalize (x17 * 4294967296 + x14) % x2 = t at *
  omega
 intro d
 induction d with
 | zero =>
  intro g r hg _ hd hr r0 r1 k hk
  obtain ⟨k, rfl⟩ : ∃ m, k = m + 2 := ⟨k - 2, by omega⟩
  have e : g = q := by omega
  subst e
  have hle : g * x10 ≤ 4294967296 * r + x14 := by
   rw [← parts hY hr]
   omega
  have gy0 : 0 ≤ g * x10 := Int.mul_nonneg q0 h00
  simp only [math_bits_Div64.l1]
  rw [if_neg (by omega), wu_id (n := g * x10) gy0 (by omega), wu_id (n := 4294967296 * r) (by omega) (by omega), wu_id (n := 4294967296 * r + x14) (by omega) (by omega), decide_eq_false (by omega)]
  simp only [math_bits_Div64.j4, Bool.false_eq_true, if_false]
  rw [if_pos h8]
  exact fin
 | succ d ih =>
  intro g r hg hg1 hd hr r0 r1 k hk
  obtain ⟨k, rfl⟩ : ∃ m, k = m + 2 := ⟨k - 2, by omega⟩
  have step : q < g → math_bits_Div64.j4 (k + 1) x2 x8 x9 x10 x14 x15 r x17 g true = some (x15 * 4294967296 + q, shr .u64 ((x17 * 4294967296 + x14) % x2) x8) := by
   intro hlt
   simp only [math_bits_Div64.j4, if_true]
   rw [wu_id (n := r + x9) (by omega) (by omega), wu_id (n := g - 1) (by omega) (by omega)]
   by_cases c : r + x9 ≥ 4294967296
   ·rw [if_pos c, if_pos h8]
    have e : g - 1 = q := by
     refine right (show 0 < x2 by omega) hq (by omega) ?_
     rw [parts (r := r + x9) hY (by rw [Int.sub_mul]; omega)]
     have m : (g - 1) * x10 ≤ 4294967296 * x10 := Int.mul_le_mul_of_nonneg_right (by omega) h00
     omega
    rw [e]
    exact fin
   ·rw [if_neg c]
    exact ih (g - 1) (r + x9) (by omega) (by omega) (by omega) (by rw [Int.sub_mul]; omega) (by omega) (by omega) k (by omega)
  simp only [math_bits_Div64.l1]
  by_cases c : g ≥ 4294967296
  ·rw [if_pos c]
   exact step (by omega)
  ·rw [if_neg c]
   have gy0 : 0 ≤ g * x10 := Int.mul_nonneg (by omega) h00
   have gy1 : g * x10 ≤ 4294967296 * x10 := Int.mul_le_mul_of_nonneg_right (by omega) h00
   rw [wu_id (n := g * x10) gy0 (by omega), wu_id (n := 4294967296 * r) (by omega) (by omega), wu_id (n := 4294967296 * r + x14) (by omega) (by omega)]
   by_cases c2 : g * x10 > 4294967296 * r + x14
   ·rw [decide_eq_true c2]
    refine step (wrong (Y := x2) (N := x17 * 4294967296 + x14) (by omega) hq ?_)
    have := (parts (u := x14) hY hr)
    omega
   ·rw [decide_eq_false c2]
    simp only [math_bits_Div64.j4, Bool.false_eq_true, if_false]
    have e : g = q := right (Y := x2) (by omega) hq hg ((parts hY hr).2 (by omega))
    rw [e, if_pos h8]
    exact fin

theorem div64 {hi lo y : Int} (h0 : 0 ≤ hi) (h1 : hi < y) (l0 : 0 ≤ lo) (l1 : lo < 18446744073709551616) (y1 : y < 18446744073709551616) {k : Nat} (hk : 24 ≤ k) :
  math_bits_Div64.f k hi lo y = some ((hi * 18446744073709551616 + lo) / y, (hi * 18446744073709551616 + lo) % y) := by
 obtain ⟨k, rfl⟩ : ∃ m, k = m + 24 := ⟨k - 24, by omega⟩
 unfold math_bits_Div64.f
 rw [if_neg (by omega), if_neg (by omega)]
 by_cases c : hi = 0
 ·rw [if_pos c]
  subst c
  rw [td_nn l0, tm_nn l0, Int.zero_mul, Int.zero_add]
  have : lo / y ≤ lo := Int.ediv_le_self _ l0
  have : 0 ≤ lo / y := Int.ediv_nonneg l0 (by omega)
  rw [wu_id (by omega) (by omega)]
 rw [if_neg c]
 obtain ⟨n, e, hn, b0, b1, b2⟩ := len64 (y := y) (by omega) y1 (k + 23)
 unfold math_bits_LeadingZeros64.f
 rw [e]
 simp only [Option.bind_some]
 rw [w64 (by omega) (by omega), wu_id (n := 64 - (n : Int)) (by omega) (by omega), wu_id (n := 64 - (64 - (n : Int))) (by omega) (by omega)]
 rw [if_pos (by omega), if_pos (by omega)]
 unfold shl
 unfold shr
 have i1 : min (64 - (n : Int)).toNat IntKind.u64.bits = 64 - n := by show min (64 - (n : Int)).toNat 64 = 64 - n; omega
 have i2 : min (64 - (64 - (n : Int))).toNat IntKind.u64.bits = n := by show min (64 - (64 - (n : Int))).toNat 64 = n; omega
 rw [i1, i2]
 obtain ⟨S, hSd⟩ : ∃ S : Int, S = 2 ^ (64 - n) := ⟨_, rfl⟩
 rw [← hSd]
 have hS : 0 < S := by rw [hSd]; exact Int.pow_pos (by decide)
 have hP : (0 : Int) < 2 ^ n := Int.pow_pos (by decide)
 have hSP : (2 : Int) ^ n * S = 18446744073709551616 := by
  rw [hSd, ← Int.pow_add, show n + (64 - n) = 64 by omega]; decide
 have hSP2 : (2 : Int) ^ (n - 1) * S = 9223372036854775808 := by
  rw [hSd, ← Int.pow_add, show n - 1 + (64 - n) = 63 by omega]; decide
 generalize (2 : Int) ^ n = P at *
 generalize (2 : Int) ^ (n - 1) = P' at *
 have yS1 : y * S < 18446744073709551616 := by
  have : y * S < P * S := Int.mul_lt_mul_of_pos_right b2 hS
  omega
 have yS0 : 9223372036854775808 ≤ y * S := by
  have : P' * S ≤ y * S := Int.mul_le_mul_of_nonneg_right b1 (by omega)
  omega
 have hS1 : hi * S + S ≤ y * S := by
  have : (hi + 1) * S ≤ y * S := Int.mul_le_mul_of_nonneg_right (by omega) (by omega)
  rw [Int.add_mul, Int.one_mul] at this
  omega
 have hS0 : 0 ≤ hi * S := Int.mul_nonneg h0 (by omega)
 have lS0 : 0 ≤ lo * S := Int.mul_nonneg l0 (by omega)
 have lP0 : 0 ≤ lo / P := Int.ediv_nonneg l0 (by omega)
 have lP : lo * S / 18446744073709551616 = lo / P := by
  rw [← hSP]
  exact Int.mul_ediv_mul_of_pos_left _ _ hS
 have lP1 : lo / P < S := by
  rw [Int.ediv_lt_iff_lt_mul hP, Int.mul_comm, hSP]
  exact l1
 rw [wu_id (n := y * S) (by omega) yS1, wu_id (n := hi * S) hS0 (by omega), wu (lo * S)]
 have or1 : Go.bits .or .u64 (hi * S) (lo / P) = hi * S + lo / P := by
  exact bits_join .u64 64 (by decide) wraps_u64 (64 - n) _ _ hS0 (by rw [← hSd]; exact Int.mul_emod_left _ _) (by simp; omega) lP0 (by rw [← hSd]; exact lP1) (by simp; omega)
 rw [or1, and32 (by omega) yS1, and32 (by omega) (by omega)]
 have hX : (hi * 18446744073709551616 + lo) * S = ((hi * S + lo / P) * 18446744073709551616) + lo * S % 18446744073709551616 := by
  rw [← lP]
  have : (hi * 18446744073709551616 + lo) * S = hi * S * 18446744073709551616 + lo * S := by grind
  omega
 generalize hU : hi * S + lo / P = U at *
 generalize hV : lo * S % 18446744073709551616 = V at *
 generalize hY : y * S = Y at *
 have V0 : 0 ≤ V := by omega
 have V1 : V < 18446744073709551616 := by omega
 have Us : U < Y := by omega
 rw [if_neg (by omega), td_nn (by omega)]
 have sp : Y = Y / 4294967296 * 4294967296 + Y % 4294967296 := by omega
 obtain ⟨g1, g2, g3, g4⟩ := guess (u := V / 4294967296) sp (by omega) (by omega) (by omega) (by omega) Us (by omega) (by omega)
 have ga := Int.mul_ediv_add_emod U (Y / 4294967296)
 have ga0 := Int.emod_nonneg U (show Y / 4294967296 ≠ 0 by omega)
 have ga1 := Int.emod_lt_of_pos U (show 0 < Y / 4294967296 by omega)
 rw [Int.mul_comm] at ga
 have gn : 0 ≤ U / (Y / 4294967296) * (Y / 4294967296) := Int.mul_nonneg (by omega) (by omega)
 rw [wu_id (n := U / (Y / 4294967296)) (by omega) (by omega), wu_id (n := U / (Y / 4294967296) * (Y / 4294967296)) (by omega) (by omega), wu_id (n := U - U / (Y / 4294967296) * (Y / 4294967296)) (by omega) (by omega)]
 generalize hg : U / (Y / 4294967296) = g at *
 -- the first digit
 have m1 := Int.mul_ediv_add_emod (U * 4294967296 + V / 4294967296) Y
 have m10 := Int.emod_nonneg (U * 4294967296 + V / 4294967296) (show Y ≠ 0 by omega)
 have m11 := Int.emod_lt_of_pos (U * 4294967296 + V / 4294967296) (show 0 < Y by omega)
 generalize hq1 : (U * 4294967296 + V / 4294967296) / Y = q1 at *
 generalize hr1 : (U * 4294967296 + V / 4294967296) % Y = W at *
 refine digit0 (B := 14) (q := q1) (res := some ((hi * 18446744073709551616 + lo) / y, (hi * 18446744073709551616 + lo) % y)) sp (by omega) (by omega) (by omega) (by omega) (by omega) Us (by omega) (by omega) hq1.symm ?_ 4 g (U - g * (Y / 4294967296)) g1 g2 ?_ (by omega) (by omega) (by omega) (k + 24) (by omega)
 ·intro k' hk'
  obtain ⟨k', rfl⟩ : ∃ m, k' = m + 14 := ⟨k' - 14, by omega⟩
  simp only [math_bits_Div64.j2]
  rw [if_neg (by omega)]
  have w : IntKind.u64.wrap ((IntKind.u64.wrap ((IntKind.u64.wrap (U * 4294967296)) + V / 4294967296)) - (IntKind.u64.wrap (q1 * Y))) = W := by
   simp only [wu]
   rw [Int.mul_comm q1 Y]
   generalize Y * q1 = m at *
   omega
  rw [w, td_nn (by omega)]
  obtain ⟨p1, p2, p3, p4⟩ := guess (u := V % 4294967296) sp (by omega) (by omega) (by omega) (show 0 ≤ W by omega) (by omega) (by omega) (by omega)
  have pa := Int.mul_ediv_add_emod W (Y / 4294967296)
  have pa0 := Int.emod_nonneg W (show Y / 4294967296 ≠ 0 by omega)
  have pa1 := Int.emod_lt_of_pos W (show 0 < Y / 4294967296 by omega)
  rw [Int.mul_comm] at pa
  have pn : 0 ≤ W / (Y / 4294967296) * (Y / 4294967296) := Int.mul_nonneg (by omega) (by omega)
  rw [wu_id (n := W / (Y / 4294967296)) (by omega) (by omega), wu_id (n := W / (Y / 4294967296) * (Y / 4294967296)) (by omega) (by omega), wu_id (n := W - W / (Y / 4294967296) * (Y / 4294967296)) (by omega) (by omega)]
  generalize hg' : W / (Y / 4294967296) = g' at *
  have m2 := Int.mul_ediv_add_emod (W * 4294967296 + V % 4294967296) Y
  have m20 := Int.emod_nonneg (W * 4294967296 + V % 4294967296) (show Y ≠ 0 by omega)
  have m21 := Int.emod_lt_of_pos (W * 4294967296 + V % 4294967296) (show 0 < Y by omega)
  generalize hq2 : (W * 4294967296 + V % 4294967296) / Y = q2 at *
  have d2 : g' - q2 ≤ 4 := by
   rcases ltge 4 (g' - q2) with c5 | c5
   ·have e1 : Y * q2 + Y * 5 ≤ Y * g' := by
     have : Y * (q2 + 5) ≤ Y * g' := Int.mul_le_mul_of_nonneg_left (by omega) (by omega)
     rw [Int.mul_add] at this
     exact this
    have e2 : Y * g' = g' * (Y / 4294967296) * 4294967296 + g' * (Y % 4294967296) := by
     conv => lhs; rw [sp]
     grind
    have e3 : g' * (Y % 4294967296) ≤ 4294967297 * (Y % 4294967296) := Int.mul_le_mul_of_nonneg_right p2 (by omega)
    omega
   ·exact c5
  rw [digit1 (q := q2) sp (by omega) (by omega) (by omega) (by omega) (by omega) (by omega) (by omega) (by omega) hq2.symm (by omega) (by omega) (by omega) 4 g' (W - g' * (Y / 4294967296)) p1 p2 d2 (by omega) (by omega) (by omega) (k' + 13) (by omega)]
  have fin := whole (X := hi * 18446744073709551616 + lo) (y := y) (S := S) (Q := q1 * 4294967296 + q2) (R := (W * 4294967296 + V % 4294967296) % Y) (by omega) hS (by
   rw [hX, hY, Int.mul_add]
   have : Y * (q1 * 4294967296) = Y * q1 * 4294967296 := by rw [Int.mul_assoc]
   rw [this]
   generalize Y * q1 = a at *
   generalize Y * q2 = b at *
   omega) m20 (by rw [hY]; exact m21)
  rw [fin.1, fin.2]
  unfold shr
  rw [i1]
  rw [hSd]
 ·rcases ltge 4 (g - q1) with c5 | c5
  ·have e1 : Y * q1 + Y * 5 ≤ Y * g := by
    have : Y * (q1 + 5) ≤ Y * g := Int.mul_le_mul_of_nonneg_left (by omega) (by omega)
    rw [Int.mul_add] at this
    exact this
   have e2 : Y * g = g * (Y / 4294967296) * 4294967296 + g * (Y % 4294967296) := by
    conv => lhs; rw [sp]
    grind
   have e3 : g * (Y % 4294967296) ≤ 4294967297 * (Y % 4294967296) := Int.mul_le_mul_of_nonneg_right g2 (by omega)
   omega
  ·omega
end Go.Proofs.Ytchpeobenlnemaa.XBits
end

section
namespace Go.Proofs.Ytchpeobenlnemaa.S
open Go.RowKit Go.Proofs.YtchpeobenlnemaaW.PrintWords Go.Proofs.YtchpeobenlnemaaW.PrintLast Go.Proofs.YtchpeobenlnemaaW.PrintMore
attribute [local go_sem] max2_int min2_int max_two min_two max_three min_three max_four min_four   -- for this text's walks alone
attribute [local go_sem] Go.Proofs.Ytchpeobenlnemaa.XWalk.cell2
set_option linter.unusedVariables false
set_option linter.unusedSimpArgs false

/-! ### wide_Mul: function 57 -/
def wide_Mul.f (a0 : Int) (a1 : Int) : Option (Int × Int) := (math_bits_Mul64.f (IntKind.u64.wrap (a0)) (IntKind.u64.wrap (a1))).bind fun bt134 => (some (wrap64 ((wrap64 ((wrap64 (bt134.1)) - (Go.bits .and .i64 (a0 / 9223372036854775808) a1))) - (Go.bits .and .i64 (a1 / 9223372036854775808) a0)), bt134.2))
set_option maxHeartbeats 8000000 in
set_option maxRecDepth 100000 in
theorem wide_Mul.calls (a0 : Int) (a1 : Int) (r1 : Int) (r2 : Int) (w : World) (h : wide_Mul.f a0 a1 = some (r1, r2)) :
  Calls Try.prog 57 #[.int .i64 a0, .int .i64 a1] w fun e w' => e = .returned (.agg #[.int .i64 r1, .int .u64 r2]) ∧ Below w.heap.size w w' := by
 have hu88 := Try.underlying88
 have HB := Aside0.mk (Below.refl w.heap.size w)
 have H : ((math_bits_Mul64.f (IntKind.u64.wrap (a0)) (IntKind.u64.wrap (a1))).bind fun bt134 => (some (wrap64 ((wrap64 ((wrap64 (bt134.1)) - (Go.bits .and .i64 (a0 / 9223372036854775808) a1))) - (Go.bits .and .i64 (a1 / 9223372036854775808) a0)), bt134.2))) = some (r1, r2) := h
 clear h
 replace H := Option.bind_eq_some_iff.mp H
 obtain ⟨⟨t134, t135⟩, A30, H⟩ := H
 replace H : (some (wrap64 ((wrap64 ((wrap64 (t134)) - (Go.bits .and .i64 (a0 / 9223372036854775808) a1))) - (Go.bits .and .i64 (a1 / 9223372036854775808) a0)), t135)) = some (r1, r2) := H
 have A3 := Aside0.mk A30
 clear A30
 simp only [Option.some.injEq, Prod.mk.injEq] at H
 obtain ⟨rfl, rfl⟩ := H
 go_enter Try.func57, Try.ntmps57
 go_wp2_with (first | ((with_reducible refine gate_dst (N := 4) rfl ?_); refine box_event ?hg (N := 4) ?hd (cs := #[.int .i64 0, .int .u64 0]) (t := 88) ?hr ?_; (case hd => rfl); (case hg => rfl); (case hr => first | (go_simp; done) | (go_simp; rfl)); intro gb133 hg w4 hbox hb; have n0_ := Aside0.mk (below_step (by repeat (first | (with_reducible first | exact HB.out | apply below_alloc | apply pw_below_drewN | apply below_drew1) | exact HB.out)) hb); have n1_ := Aside0.mk (hbox); have n2_ := Aside0.mk ((by rw [hg]; exact (below_size (by repeat (first | (with_reducible first | exact HB.out | apply below_alloc | apply pw_below_drewN | apply below_drew1) | exact HB.out))) : w.heap.size ≤ gb133)); have n3_ := Aside0.mk ((by rw [hg]; exact (below_size (by repeat (first | (with_reducible first | exact HB.out | apply below_alloc | apply pw_below_drewN | apply below_drew1) | exact HB.out))) : w.heap.size ≤ gb133)); clear HB; have HB := n0_; have BK133 := n1_; have GW133 := n2_; have GE133 := n3_; clear n0_ n1_ n2_ n3_; clear hb hbox hg) | ((with_reducible refine gate_callee (f := 42) rfl ?_); refine goesL_ (some 13) rfl rfl Try.func42 (by kernel_rfl) rfl #[.int .u64 (IntKind.u64.wrap (a0)), .int .u64 (IntKind.u64.wrap (a1))] rfl (by (try simp only [List.map_toArray, List.map_cons, List.map_nil]); first | done | rfl | (simp only [List.length_drop, List.length_take]; rfl)) ?_; (with_reducible refine (math_bits_Mul64.calls (IntKind.u64.wrap (a0)) (IntKind.u64.wrap (a1)) t134 t135 _ A3.out).mono ?_); rintro e w' ⟨rfl, ⟨nd, rfl⟩⟩; refine ⟨_, rfl, ?_⟩; (try (rw [drewN_self w4]; generalize hq_ : World.drewN w4 _ = w4; have n0_ : Aside0 (w4.heap[gb133]? = some (.cells #[.int .i64 0, .int .u64 0] 88 (0, 0))) := ⟨by rw [← hq_]; exact (by (with_reducible repeat (first | refine blk_drewN ?_ _ | refine blk_drew ?_ | refine blk_alloc ?_ _)); exact BK133.out)⟩; have n1_ : Aside0 (Below w.heap.size w w4) := ⟨by rw [← hq_]; exact (by repeat (first | (with_reducible first | exact HB.out | apply below_alloc | apply pw_below_drewN | apply below_drew1 | refine below_set ?_ GE133.out) | exact HB.out))⟩; clear BK133 HB hq_; have BK133 := n0_; have HB := n1_; clear n0_ n1_)); (try (have hcz5_0 := (blk_cell BK133.out 0).trans rfl; have hfz5_0 := blk_frozen BK133.out 0; have hcz5_1 := (blk_cell BK133.out 1).trans rfl; have hfz5_1 := blk_frozen BK133.out 1))))
 refine bodyPost_ret (results_cell_row rfl _ _ gb133 88 #[.int .i64 (wrap64 ((wrap64 ((wrap64 (t134)) - (Go.bits .and .i64 (a0 / 9223372036854775808) a1))) - (Go.bits .and .i64 (a1 / 9223372036854775808) a0))), .int .u64 t135] (0, 0) _ rfl (by (with_reducible repeat (first | refine blk_drewN ?_ _ | refine blk_drew ?_ | refine blk_alloc ?_ _)); refine blk_put (cs := #[.int .i64 (wrap64 ((wrap64 ((wrap64 (t134)) - (Go.bits .and .i64 (a0 / 9223372036854775808) a1))) - (Go.bits .and .i64 (a1 / 9223372036854775808) a0))), .int .u64 0]) ?_ 1 _ rfl; (with_reducible repeat (first | refine blk_drewN ?_ _ | refine blk_drew ?_ | refine blk_alloc ?_ _)); refine blk_put (cs := #[.int .i64 0, .int .u64 0]) ?_ 0 _ rfl; (with_reducible repeat (first | refine blk_drewN ?_ _ | refine blk_drew ?_ | refine blk_alloc ?_ _)); exact BK133.out) Try.underlying88 rfl (by kernel_rfl)) rfl ?_
 exact ⟨by first | rfl | (simp [errW_none, errW_some] <;> rfl) | (simp [*, errW_none, errW_some] <;> rfl), by repeat (first | (with_reducible first | exact HB.out | apply below_alloc | apply pw_below_drewN | apply below_drew1 | refine below_set ?_ GE133.out) | exact HB.out)⟩

end Go.Proofs.Ytchpeobenlnemaa.S
end

section
namespace Go.Proofs.Ytchpeobenlnemaa.S
open Go.RowKit Go.Proofs.YtchpeobenlnemaaW.PrintWords Go.Proofs.YtchpeobenlnemaaW.PrintLast Go.Proofs.YtchpeobenlnemaaW.PrintMore
attribute [local go_sem] max2_int min2_int max_two min_two max_three min_three max_four min_four   -- for this text's walks alone
attribute [local go_sem] Go.Proofs.Ytchpeobenlnemaa.XWalk.cell2
set_option linter.unusedVariables false
set_option linter.unusedSimpArgs false

/-! ### wide_MulDiv: function 51 -/
def wide_MulDiv.f (k : Nat) (a0 : Int) (a1 : Int) (a2 : Int) (a3 : Int) : Option (Int × Int) := (wide_Mul.f a0 a1).bind fun bt136 => ((wide_Div.f k bt136.1 bt136.2 a2 a3).bind fun bt138 => (some (bt138.1, bt138.2)))
set_option maxHeartbeats 8000000 in
set_option maxRecDepth 100000 in
theorem wide_MulDiv.calls (k : Nat) (a0 : Int) (a1 : Int) (a2 : Int) (a3 : Int) (r1 : Int) (r2 : Int) (w : World) (h : wide_MulDiv.f k a0 a1 a2 a3 = some (r1, r2)) :
  Calls Try.prog 51 #[.int .i64 a0, .int .i64 a1, .int .i64 a2, .int .i64 a3] w fun e w' => e = .returned (.tuple #[.int .i64 r1, .int .i64 r2]) ∧ Below w.heap.size w w' := by
 have HB := Aside0.mk (Below.refl w.heap.size w)
 have H : ((wide_Mul.f a0 a1).bind fun bt136 => ((wide_Div.f k bt136.1 bt136.2 a2 a3).bind fun bt138 => (some (bt138.1, bt138.2)))) = some (r1, r2) := h
 clear h
 replace H := Option.bind_eq_some_iff.mp H
 obtain ⟨⟨t136, t137⟩, A50, H⟩ := H
 replace H : ((wide_Div.f k t136 t137 a2 a3).bind fun bt138 => (some (bt138.1, bt138.2))) = some (r1, r2) := H
 have A5 := Aside0.mk A50
 clear A50
 replace H := Option.bind_eq_some_iff.mp H
 obtain ⟨⟨t138, t139⟩, A60, H⟩ := H
 replace H : (some (t138, t139)) = some (r1, r2) := H
 have A6 := Aside0.mk A60
 clear A60
 simp only [Option.some.injEq, Prod.mk.injEq] at H
 obtain ⟨rfl, rfl⟩ := H
 go_enter Try.func51, Try.ntmps51
 go_wp2_with (first | ((with_reducible refine gate_callee (f := 57) rfl ?_); refine goesL_ (some 12) rfl rfl Try.func57 (by kernel_rfl) rfl #[.int .i64 a0, .int .i64 a1] rfl (by (try simp only [List.map_toArray, List.map_cons, List.map_nil]); first | done | rfl | (simp only [List.length_drop, List.length_take]; rfl)) ?_; (with_reducible refine (wide_Mul.calls a0 a1 t136 t137 _ A5.out).mono ?_); rintro e w7 ⟨rfl, hb⟩; refine ⟨_, rfl, ?_⟩; have n0_ := Aside0.mk (below_step (by repeat (first | (with_reducible first | exact HB.out | apply below_alloc | apply pw_below_drewN | apply below_drew1) | exact HB.out)) hb); clear HB; have HB := n0_; clear n0_; (try clear hb); (try clear hb2); (try clear hk); (try clear hi)) | ((with_reducible refine gate_callee (f := 56) rfl ?_); refine goesL_ (some 15) rfl rfl Try.func56 (by kernel_rfl) rfl #[.agg #[.int .i64 t136, .int .u64 t137], .int .i64 a2, .int .i64 a3] rfl (by (try simp only [List.map_toArray, List.map_cons, List.map_nil]); first | done | rfl | (simp only [List.length_drop, List.length_take]; rfl)) ?_; (with_reducible refine (wide_Div.calls k t136 t137 a2 a3 t138 t139 _ A6.out).mono ?_); rintro e w8 ⟨rfl, hb⟩; refine ⟨_, rfl, ?_⟩; have n0_ := Aside0.mk (below_step (by repeat (first | (with_reducible first | exact HB.out | apply below_alloc | apply pw_below_drewN | apply below_drew1) | exact HB.out)) hb); clear HB; have HB := n0_; clear n0_; (try clear hb); (try clear hb2); (try clear hk); (try clear hi)))
 go_ret2
 exact ⟨by first | rfl | (simp [errW_none, errW_some] <;> rfl) | (simp [*, errW_none, errW_some] <;> rfl), by repeat (first | (with_reducible first | exact HB.out | apply below_alloc | apply pw_below_drewN | apply below_drew1) | exact HB.out)⟩

end Go.Proofs.Ytchpeobenlnemaa.S
end

section
namespace Go.Proofs.Ytchpeobenlnemaa.S
open Go.RowKit Go.Proofs.YtchpeobenlnemaaW.PrintWords Go.Proofs.YtchpeobenlnemaaW.PrintLast Go.Proofs.YtchpeobenlnemaaW.PrintMore
attribute [local go_sem] max2_int min2_int max_two min_two max_three min_three max_four min_four   -- for this text's walks alone
attribute [local go_sem] Go.Proofs.Ytchpeobenlnemaa.XWalk.cell2
set_option linter.unusedVariables false
set_option linter.unusedSimpArgs false

/-! ### rate_May: function 50 -/
def rate_May.f (a0 : Int) : Option (Bool) := if a0 ≥ (-990000000000) then (some (decide (a0 ≤ 10000000000000))) else (some false)
set_option maxHeartbeats 8000000 in
set_option maxRecDepth 100000 in
theorem rate_May.calls (a0 : Int) (r : Bool) (w : World) (h : rate_May.f a0 = some r) :
  Calls Try.prog 50 #[.int .i64 a0] w fun e w' => e = .returned (.bool r) ∧ Drawn0 w w' := by
 have H : (if a0 ≥ (-990000000000) then (some (decide (a0 ≤ 10000000000000))) else (some false)) = some r := h
 clear h
 by_cases c2 : a0 ≥ (-990000000000)
 ·rw [if_pos c2] at H
  have c2b0 : decide ((-990000000000) ≤ a0) = true := decide_eq_true c2
  clear c2
  obtain rfl := Option.some.inj H
  go_enter Try.func50, Try.ntmps50
  go_wp2
  go_ret
  exact ⟨by first | rfl | (simp; done) | (simp [*]; done), by repeat (first | exact Drawn0.refl _ | apply Drawn0.step)⟩
 ·rw [if_neg c2] at H
  have c2b0 : decide ((-990000000000) ≤ a0) = false := decide_eq_false c2
  clear c2
  obtain rfl := Option.some.inj H
  go_enter Try.func50, Try.ntmps50
  go_wp2
  go_ret
  exact ⟨by first | rfl | (simp; done) | (simp [*]; done), by repeat (first | exact Drawn0.refl _ | apply Drawn0.step)⟩

end Go.Proofs.Ytchpeobenlnemaa.S
end

section
namespace Go.Proofs.Ytchpeobenlnemaa.S
open Go.RowKit Go.Proofs.YtchpeobenlnemaaW.PrintWords Go.Proofs.YtchpeobenlnemaaW.PrintLast Go.Proofs.YtchpeobenlnemaaW.PrintMore
attribute [local go_sem] max2_int min2_int max_two min_two max_three min_three max_four min_four   -- for this text's walks alone
attribute [local go_sem] Go.Proofs.Ytchpeobenlnemaa.XWalk.cell2
set_option linter.unusedVariables false
set_option linter.unusedSimpArgs false

/-! ### rate_yield_terms: function 88 -/
def rate_yield_terms.f (a0 : Int) : Option (Int × Int) := some (a0, 1000000000000)
set_option maxHeartbeats 8000000 in
set_option maxRecDepth 100000 in
theorem rate_yield_terms.calls (a0 : Int) (r1 : Int) (r2 : Int) (w : World) (h : rate_yield_terms.f a0 = some (r1, r2)) :
  Calls Try.prog 88 #[.int .i64 a0] w fun e w' => e = .returned (.tuple #[.int .i64 r1, .int .i64 r2]) ∧ Drawn0 w w' := by
 have H : (some (a0, 1000000000000)) = some (r1, r2) := h
 clear h
 simp only [Option.some.injEq, Prod.mk.injEq] at H
 obtain ⟨rfl, rfl⟩ := H
 go_enter Try.func88, Try.ntmps88
 go_wp2
 go_ret2
 exact ⟨by first | rfl | (simp; done) | (simp [*]; done), by repeat (first | exact Drawn0.refl _ | apply Drawn0.step)⟩

end Go.Proofs.Ytchpeobenlnemaa.S
end

section
namespace Go.Proofs.Ytchpeobenlnemaa.S
open Go.RowKit Go.Proofs.YtchpeobenlnemaaW.PrintWords Go.Proofs.YtchpeobenlnemaaW.PrintLast Go.Proofs.YtchpeobenlnemaaW.PrintMore
attribute [local go_sem] max2_int min2_int max_two min_two max_three min_three max_four min_four   -- for this text's walks alone
attribute [local go_sem] Go.Proofs.Ytchpeobenlnemaa.XWalk.cell2
set_option linter.unusedVariables false
set_option linter.unusedSimpArgs false

/-! ### rate_over_rate_yield: function 40 -/
def rate_over_rate_yield.f (k : Nat) (a0 : Int) (a1 : Int) : Option (Int × Int) := (rate_May.f a1).bind fun t140 => (if t140 = true then ((rate_yield_terms.f a1).bind fun bt141 => ((wide_MulDiv.f k a0 bt141.1 bt141.2 1).bind fun bt143 => (some (bt143.1, bt143.2)))) else (some (0, 2)))
set_option maxHeartbeats 8000000 in
set_option maxRecDepth 100000 in
theorem rate_over_rate_yield.calls (k : Nat) (a0 : Int) (a1 : Int) (r1 : Int) (r2 : Int) (w : World) (h : rate_over_rate_yield.f k a0 a1 = some (r1, r2)) :
  Calls Try.prog 40 #[.int .i64 a0, .int .i64 a1] w fun e w' => e = .returned (.tuple #[.int .i64 r1, .int .i64 r2]) ∧ Below w.heap.size w w' := by
 have HB := Aside0.mk (Below.refl w.heap.size w)
 have H : ((rate_May.f a1).bind fun t140 => (if t140 = true then ((rate_yield_terms.f a1).bind fun bt141 => ((wide_MulDiv.f k a0 bt141.1 bt141.2 1).bind fun bt143 => (some (bt143.1, bt143.2)))) else (some (0, 2)))) = some (r1, r2) := h
 clear h
 replace H := Option.bind_eq_some_iff.mp H
 obtain ⟨t140, A30, H⟩ := H
 replace H : (if t140 = true then ((rate_yield_terms.f a1).bind fun bt141 => ((wide_MulDiv.f k a0 bt141.1 bt141.2 1).bind fun bt143 => (some (bt143.1, bt143.2)))) else (some (0, 2))) = some (r1, r2) := H
 have A3 := Aside0.mk A30
 clear A30
 by_cases c4 : t140 = true
 ·subst c4
  have H1 : ((rate_yield_terms.f a1).bind fun bt141 => ((wide_MulDiv.f k a0 bt141.1 bt141.2 1).bind fun bt143 => (some (bt143.1, bt143.2)))) = some (r1, r2) := by rw [if_pos rfl] at H; exact H
  clear H
  have H := H1
  clear H1
  replace H := Option.bind_eq_some_iff.mp H
  obtain ⟨⟨t141, t142⟩, A50, H⟩ := H
  replace H : ((wide_MulDiv.f k a0 t141 t142 1).bind fun bt143 => (some (bt143.1, bt143.2))) = some (r1, r2) := H
  have A5 := Aside0.mk A50
  clear A50
  replace H := Option.bind_eq_some_iff.mp H
  obtain ⟨⟨t143, t144⟩, A60, H⟩ := H
  replace H : (some (t143, t144)) = some (r1, r2) := H
  have A6 := Aside0.mk A60
  clear A60
  simp only [Option.some.injEq, Prod.mk.injEq] at H
  obtain ⟨rfl, rfl⟩ := H
  go_enter Try.func40, Try.ntmps40
  go_wp2_with (first | ((with_reducible refine gate_callee (f := 50) rfl ?_); refine goesL_ (some 9) rfl rfl Try.func50 (by kernel_rfl) rfl #[.int .i64 a1] rfl (by (try simp only [List.map_toArray, List.map_cons, List.map_nil]); first | done | rfl | (simp only [List.length_drop, List.length_take]; rfl)) ?_; (with_reducible refine (rate_May.calls a1 true _ A3.out).mono ?_); rintro e w' ⟨rfl, ⟨nd, rfl⟩⟩; refine ⟨_, rfl, ?_⟩) | (go_at_call 88; (with_reducible refine (rate_yield_terms.calls a1 t141 t142 _ A5.out).mono ?_); rintro e w' ⟨rfl, ⟨nd, rfl⟩⟩) | ((with_reducible refine gate_callee (f := 51) rfl ?_); refine goesL_ (some 20) rfl rfl Try.func51 (by kernel_rfl) rfl #[.int .i64 a0, .int .i64 t141, .int .i64 t142, .int .i64 1] rfl (by (try simp only [List.map_toArray, List.map_cons, List.map_nil]); first | done | rfl | (simp only [List.length_drop, List.length_take]; rfl)) ?_; (with_reducible refine (wide_MulDiv.calls k a0 t141 t142 1 t143 t144 _ A6.out).mono ?_); rintro e w7 ⟨rfl, hb⟩; refine ⟨_, rfl, ?_⟩; have n0_ := Aside0.mk (below_step (by repeat (first | (with_reducible first | exact HB.out | apply below_alloc | apply pw_below_drewN | apply below_drew1) | exact HB.out)) hb); clear HB; have HB := n0_; clear n0_; (try clear hb); (try clear hb2); (try clear hk); (try clear hi)))
  go_ret2
  exact ⟨by first | rfl | (simp [errW_none, errW_some] <;> rfl) | (simp [*, errW_none, errW_some] <;> rfl), by repeat (first | (with_reducible first | exact HB.out | apply below_alloc | apply pw_below_drewN | apply below_drew1) | exact HB.out)⟩
 ·replace c4 := Bool.eq_false_iff.mpr c4
  subst c4
  have H1 : (some (0, 2)) = some (r1, r2) := by rw [if_neg (show ¬ (false = true) by decide)] at H; exact H
  clear H
  have H := H1
  clear H1
  simp only [Option.some.injEq, Prod.mk.injEq] at H
  obtain ⟨rfl, rfl⟩ := H
  go_enter Try.func40, Try.ntmps40
  go_wp2_with (first | ((with_reducible refine gate_callee (f := 50) rfl ?_); refine goesL_ (some 9) rfl rfl Try.func50 (by kernel_rfl) rfl #[.int .i64 a1] rfl (by (try simp only [List.map_toArray, List.map_cons, List.map_nil]); first | done | rfl | (simp only [List.length_drop, List.length_take]; rfl)) ?_; (with_reducible refine (rate_May.calls a1 false _ A3.out).mono ?_); rintro e w' ⟨rfl, ⟨nd, rfl⟩⟩; refine ⟨_, rfl, ?_⟩))
  go_ret2
  exact ⟨by first | rfl | (simp [errW_none, errW_some] <;> rfl) | (simp [*, errW_none, errW_some] <;> rfl), by repeat (first | (with_reducible first | exact HB.out | apply below_alloc | apply pw_below_drewN | apply below_drew1) | exact HB.out)⟩

end Go.Proofs.Ytchpeobenlnemaa.S
end

section
namespace Go.Proofs.Ytchpeobenlnemaa.S
open Go.RowKit Go.Proofs.YtchpeobenlnemaaW.PrintWords Go.Proofs.YtchpeobenlnemaaW.PrintLast Go.Proofs.YtchpeobenlnemaaW.PrintMore
attribute [local go_sem] max2_int min2_int max_two min_two max_three min_three max_four min_four   -- for this text's walks alone
attribute [local go_sem] Go.Proofs.Ytchpeobenlnemaa.XWalk.cell2
set_option linter.unusedVariables false
set_option linter.unusedSimpArgs false

/-! ### rate_Interest: function 19 -/
def rate_Interest.f (k : Nat) (a0 : Int) (a1 : Int) : Option (Int × Int) := (rate_over_rate_yield.f k a0 a1).bind fun bt145 => (some (bt145.1, bt145.2))
set_option maxHeartbeats 8000000 in
set_option maxRecDepth 100000 in
theorem rate_Interest.calls (k : Nat) (a0 : Int) (a1 : Int) (r1 : Int) (r2 : Int) (w : World) (h : rate_Interest.f k a0 a1 = some (r1, r2)) :
  Calls Try.prog 19 #[.int .i64 a0, .int .i64 a1] w fun e w' => e = .returned (.tuple #[.int .i64 r1, .int .i64 r2]) ∧ Below w.heap.size w w' := by
 have HB := Aside0.mk (Below.refl w.heap.size w)
 have H : ((rate_over_rate_yield.f k a0 a1).bind fun bt145 => (some (bt145.1, bt145.2))) = some (r1, r2) := h
 clear h
 replace H := Option.bind_eq_some_iff.mp H
 obtain ⟨⟨t145, t146⟩, A30, H⟩ := H
 replace H : (some (t145, t146)) = some (r1, r2) := H
 have A3 := Aside0.mk A30
 clear A30
 simp only [Option.some.injEq, Prod.mk.injEq] at H
 obtain ⟨rfl, rfl⟩ := H
 go_enter Try.func19, Try.ntmps19
 go_wp2_with (first | ((with_reducible refine gate_callee (f := 40) rfl ?_); refine goesL_ (some 8) rfl rfl Try.func40 (by kernel_rfl) rfl #[.int .i64 a0, .int .i64 a1] rfl (by (try simp only [List.map_toArray, List.map_cons, List.map_nil]); first | done | rfl | (simp only [List.length_drop, List.length_take]; rfl)) ?_; (with_reducible refine (rate_over_rate_yield.calls k a0 a1 t145 t146 _ A3.out).mono ?_); rintro e w4 ⟨rfl, hb⟩; refine ⟨_, rfl, ?_⟩; have n0_ := Aside0.mk (below_step (by repeat (first | (with_reducible first | exact HB.out | apply below_alloc | apply pw_below_drewN | apply below_drew1) | exact HB.out)) hb); clear HB; have HB := n0_; clear n0_; (try clear hb); (try clear hb2); (try clear hk); (try clear hi)))
 go_ret2
 exact ⟨by first | rfl | (simp [errW_none, errW_some] <;> rfl) | (simp [*, errW_none, errW_some] <;> rfl), by repeat (first | (with_reducible first | exact HB.out | apply below_alloc | apply pw_below_drewN | apply below_drew1) | exact HB.out)⟩

end Go.Proofs.Ytchpeobenlnemaa.S
end

section
namespace Go.Proofs.Ytchpeobenlnemaa.S
open Go.RowKit Go.Proofs.YtchpeobenlnemaaW.PrintWords Go.Proofs.YtchpeobenlnemaaW.PrintLast Go.Proofs.YtchpeobenlnemaaW.PrintMore
attribute [local go_sem] max2_int min2_int max_two min_two max_three min_three max_four min_four   -- for this text's walks alone
attribute [local go_sem] Go.Proofs.Ytchpeobenlnemaa.XWalk.cell2
set_option linter.unusedVariables false
set_option linter.unusedSimpArgs false

/-! ### sched_within_int64: function 34 -/
def sched_within_int64.f (a0 : Int) (a1 : Int) (a2 : Int) : Option (Bool) := if a0 ≥ a1 then (some (decide (a0 ≤ a2))) else (some false)
set_option maxHeartbeats 8000000 in
set_option maxRecDepth 100000 in
theorem sched_within_int64.calls (a0 : Int) (a1 : Int) (a2 : Int) (r : Bool) (w : World) (h : sched_within_int64.f a0 a1 a2 = some r) :
  Calls Try.prog 34 #[.int .i64 a0, .int .i64 a1, .int .i64 a2] w fun e w' => e = .returned (.bool r) ∧ Drawn0 w w' := by
 have H : (if a0 ≥ a1 then (some (decide (a0 ≤ a2))) else (some false)) = some r := h
 clear h
 by_cases c4 : a0 ≥ a1
 ·rw [if_pos c4] at H
  have c4b0 : decide (a1 ≤ a0) = true := decide_eq_true c4
  clear c4
  obtain rfl := Option.some.inj H
  go_enter Try.func34, Try.ntmps34
  go_wp2
  go_ret
  exact ⟨by first | rfl | (simp; done) | (simp [*]; done), by repeat (first | exact Drawn0.refl _ | apply Drawn0.step)⟩
 ·rw [if_neg c4] at H
  have c4b0 : decide (a1 ≤ a0) = false := decide_eq_false c4
  clear c4
  obtain rfl := Option.some.inj H
  go_enter Try.func34, Try.ntmps34
  go_wp2
  go_ret
  exact ⟨by first | rfl | (simp; done) | (simp [*]; done), by repeat (first | exact Drawn0.refl _ | apply Drawn0.step)⟩

end Go.Proofs.Ytchpeobenlnemaa.S
end

section
namespace Go.Proofs.Ytchpeobenlnemaa.S
open Go.RowKit Go.Proofs.YtchpeobenlnemaaW.PrintWords Go.Proofs.YtchpeobenlnemaaW.PrintLast Go.Proofs.YtchpeobenlnemaaW.PrintMore
attribute [local go_sem] max2_int min2_int max_two min_two max_three min_three max_four min_four   -- for this text's walks alone
attribute [local go_sem] Go.Proofs.Ytchpeobenlnemaa.XWalk.cell2
set_option linter.unusedVariables false
set_option linter.unusedSimpArgs false

/-! ### sched_may: function 32 -/
def sched_may.f (a0 : Int) : Option (Bool) := (sched_within_int64.f a0 0 1000000000000).bind fun t101 => (some t101)
set_option maxHeartbeats 8000000 in
set_option maxRecDepth 100000 in
theorem sched_may.calls (a0 : Int) (r : Bool) (w : World) (h : sched_may.f a0 = some r) :
  Calls Try.prog 32 #[.int .i64 a0] w fun e w' => e = .returned (.bool r) ∧ Drawn0 w w' := by
 have H : ((sched_within_int64.f a0 0 1000000000000).bind fun t101 => (some t101)) = some r := h
 clear h
 replace H := Option.bind_eq_some_iff.mp H
 obtain ⟨t101, A20, H⟩ := H
 replace H : (some t101) = some r := H
 have A2 := Aside0.mk A20
 clear A20
 obtain rfl := Option.some.inj H
 go_enter Try.func32, Try.ntmps32
 go_wp2_with (first | ((with_reducible refine gate_callee (f := 34) rfl ?_); refine goesL_ (some 4) rfl rfl Try.func34 (by kernel_rfl) rfl #[.int .i64 a0, .int .i64 0, .int .i64 1000000000000] rfl (by (try simp only [List.map_toArray, List.map_cons, List.map_nil]); first | done | rfl | (simp only [List.length_drop, List.length_take]; rfl)) ?_; (with_reducible refine (sched_within_int64.calls a0 0 1000000000000 t101 _ A2.out).mono ?_); rintro e w' ⟨rfl, ⟨nd, rfl⟩⟩; refine ⟨_, rfl, ?_⟩))
 go_ret
 exact ⟨by first | rfl | (simp; done) | (simp [*]; done), by repeat (first | exact Drawn0.refl _ | apply Drawn0.step)⟩

end Go.Proofs.Ytchpeobenlnemaa.S
end

section
namespace Go.Proofs.Ytchpeobenlnemaa.S
open Go.RowKit Go.Proofs.YtchpeobenlnemaaW.PrintWords Go.Proofs.YtchpeobenlnemaaW.PrintLast Go.Proofs.YtchpeobenlnemaaW.PrintMore
attribute [local go_sem] max2_int min2_int max_two min_two max_three min_three max_four min_four   -- for this text's walks alone
attribute [local go_sem] Go.Proofs.Ytchpeobenlnemaa.XWalk.cell2
set_option linter.unusedVariables false
set_option linter.unusedSimpArgs false

/-! ### sched_within_int: function 33 -/
def sched_within_int.f (a0 : Int) (a1 : Int) (a2 : Int) : Option (Bool) := if a0 ≥ a1 then (some (decide (a0 ≤ a2))) else (some false)
set_option maxHeartbeats 8000000 in
set_option maxRecDepth 100000 in
theorem sched_within_int.calls (a0 : Int) (a1 : Int) (a2 : Int) (r : Bool) (w : World) (h : sched_within_int.f a0 a1 a2 = some r) :
  Calls Try.prog 33 #[.int .i64 a0, .int .i64 a1, .int .i64 a2] w fun e w' => e = .returned (.bool r) ∧ Drawn0 w w' := by
 have H : (if a0 ≥ a1 then (some (decide (a0 ≤ a2))) else (some false)) = some r := h
 clear h
 by_cases c4 : a0 ≥ a1
 ·rw [if_pos c4] at H
  have c4b0 : decide (a1 ≤ a0) = true := decide_eq_true c4
  clear c4
  obtain rfl := Option.some.inj H
  go_enter Try.func33, Try.ntmps33
  go_wp2
  go_ret
  exact ⟨by first | rfl | (simp; done) | (simp [*]; done), by repeat (first | exact Drawn0.refl _ | apply Drawn0.step)⟩
 ·rw [if_neg c4] at H
  have c4b0 : decide (a1 ≤ a0) = false := decide_eq_false c4
  clear c4
  obtain rfl := Option.some.inj H
  go_enter Try.func33, Try.ntmps33
  go_wp2
  go_ret
  exact ⟨by first | rfl | (simp; done) | (simp [*]; done), by repeat (first | exact Drawn0.refl _ | apply Drawn0.step)⟩

end Go.Proofs.Ytchpeobenlnemaa.S
end

section
namespace Go.Proofs.Ytchpeobenlnemaa.S
open Go.RowKit Go.Proofs.YtchpeobenlnemaaW.PrintWords Go.Proofs.YtchpeobenlnemaaW.PrintLast Go.Proofs.YtchpeobenlnemaaW.PrintMore
attribute [local go_sem] max2_int min2_int max_two min_two max_three min_three max_four min_four   -- for this text's walks alone
attribute [local go_sem] Go.Proofs.Ytchpeobenlnemaa.XWalk.cell2
set_option linter.unusedVariables false
set_option linter.unusedSimpArgs false

/-! ### sched_Level_1: function 36 -/
def sched_Level_1.f (k : Nat) (a0 : Int) (a1_0 : Int) : Option (Int) := (rate_Interest.f k a0 a1_0).bind fun bt148 => (some bt148.1)
set_option maxHeartbeats 8000000 in
set_option maxRecDepth 100000 in
theorem sched_Level_1.calls (k : Nat) (a0 : Int) (gc1 : Nat) (a1_0 : Int) (r : Int) (w : World) (hgc1 : w.heap[gc1]? = some (.cells #[.int .i64 a1_0] 2 (0, 0))) (h : sched_Level_1.f k a0 a1_0 = some r) :
  Calls Try.prog 36 #[.int .i64 a0, .pointer (some ⟨gc1, 0, none⟩)] w fun e w' => e = .returned (.int .i64 r) ∧ Below w.heap.size w w' := by
 have BK147 := Aside0.mk hgc1
 clear hgc1
 have HB := Aside0.mk (Below.refl w.heap.size w)
 have H : ((rate_Interest.f k a0 a1_0).bind fun bt148 => (some bt148.1)) = some r := h
 clear h
 replace H := Option.bind_eq_some_iff.mp H
 obtain ⟨⟨t148, t149⟩, A30, H⟩ := H
 replace H : (some t148) = some r := H
 have A3 := Aside0.mk A30
 clear A30
 obtain rfl := Option.some.inj H
 have hcz4_0 := (blk_cell BK147.out 0).trans rfl
 have hfz4_0 := blk_frozen BK147.out 0
 go_enter Try.func36, Try.ntmps36
 go_wp2_with (first | ((with_reducible refine gate_callee (f := 19) rfl ?_); refine goesL_ (some 9) rfl rfl Try.func19 (by kernel_rfl) rfl #[.int .i64 a0, .int .i64 a1_0] rfl (by (try simp only [List.map_toArray, List.map_cons, List.map_nil]); first | done | rfl | (simp only [List.length_drop, List.length_take]; rfl)) ?_; (with_reducible refine (rate_Interest.calls k a0 a1_0 t148 t149 _ A3.out).mono ?_); rintro e w5 ⟨rfl, hb⟩; refine ⟨_, rfl, ?_⟩; have n0_ := Aside0.mk (blk_below (g := gc1) (o := .cells #[.int .i64 a1_0] 2 (0, 0)) (by (with_reducible repeat (first | refine blk_drewN ?_ _ | refine blk_drew ?_ | refine blk_alloc ?_ _)); exact BK147.out) hb); have n1_ := Aside0.mk (below_step (by repeat (first | (with_reducible first | exact HB.out | apply below_alloc | apply pw_below_drewN | apply below_drew1 | refine below_set ?_ GE147.out) | exact HB.out)) hb); clear BK147; clear HB; have BK147 := n0_; have HB := n1_; clear n0_ n1_; (try clear hb); (try clear hb2); (try clear hk); (try clear hi)))
 go_ret
 exact ⟨by first | rfl | (simp [errW_none, errW_some] <;> rfl) | (simp [*, errW_none, errW_some] <;> rfl), by repeat (first | (with_reducible first | exact HB.out | apply below_alloc | apply pw_below_drewN | apply below_drew1 | refine below_set ?_ GE147.out) | exact HB.out)⟩

end Go.Proofs.Ytchpeobenlnemaa.S
end

section
namespace Go.Proofs.Ytchpeobenlnemaa.S
open Go.RowKit Go.Proofs.YtchpeobenlnemaaW.PrintWords Go.Proofs.YtchpeobenlnemaaW.PrintLast Go.Proofs.YtchpeobenlnemaaW.PrintMore
attribute [local go_sem] max2_int min2_int max_two min_two max_three min_three max_four min_four   -- for this text's walks alone
attribute [local go_sem] Go.Proofs.Ytchpeobenlnemaa.XWalk.cell2
set_option linter.unusedVariables false
set_option linter.unusedSimpArgs false

/-! ### sched_Level_2: function 38 -/
def sched_Level_2.l0 : Nat → Int → Int → Int → Int → Int → Option (Bool)
 | 0, _, _, _, _, _ => none
 | k + 1, x0, x6, x9, x10, x154000 => if x10 < x9 then (if x6 ≤ 0 then (some (decide (x6 ≤ 0))) else ((sched_Level_1.f k x6 x154000).bind fun t154 => (if (wrap64 ((wrap64 (x6 + t154)) - x0)) ≥ x6 then (some false) else (sched_Level_2.l0 k x0 (wrap64 ((wrap64 (x6 + t154)) - x0)) x9 (wrap64 (x10 + 1)) x154000)))) else (some (decide (x6 ≤ 0)))
def sched_Level_2.f (k : Nat) (a0 : Int) (a1_0 : Int) (a2_0 : Int) (a3_0_0_0 : Int) : Option (Bool) := sched_Level_2.l0 k a0 a1_0 a2_0 0 a3_0_0_0
set_option maxHeartbeats 8000000 in
set_option maxRecDepth 100000 in
theorem sched_Level_2.calls (k : Nat) (a0 : Int) (gc1 : Nat) (a1_0 : Int) (gc2 : Nat) (a2_0 : Int) (gc3 : Nat) (gc3_0_0 : Nat) (a3_0_0_0 : Int) (r : Bool) (w : World) (hgc1 : w.heap[gc1]? = some (.cells #[.int .i64 a1_0] 2 (0, 0))) (hgc2 : w.heap[gc2]? = some (.cells #[.int .i64 a2_0] 3 (0, 0))) (hgc3 : w.heap[gc3]? = some (.cells #[.func (.func 36) #[] #[.pointer (some ⟨gc3_0_0, 0, none⟩)]] 55 (0, 0))) (hgc3_0_0 : w.heap[gc3_0_0]? = some (.cells #[.int .i64 a3_0_0_0] 2 (0, 0))) (h : sched_Level_2.f k a0 a1_0 a2_0 a3_0_0_0 = some r) :
  Calls Try.prog 38 #[.int .i64 a0, .pointer (some ⟨gc1, 0, none⟩), .pointer (some ⟨gc2, 0, none⟩), .pointer (some ⟨gc3, 0, none⟩)] w fun e w' => e = .returned (.bool r) ∧ Below w.heap.size w w' := by
 have BK150 := Aside0.mk hgc1
 clear hgc1
 have BK151 := Aside0.mk hgc2
 clear hgc2
 have BK153 := Aside0.mk hgc3_0_0
 clear hgc3_0_0
 have BK152 := Aside0.mk hgc3
 clear hgc3
 have HB := Aside0.mk (Below.refl w.heap.size w)
 have H : (sched_Level_2.l0 k a0 a1_0 a2_0 0 a3_0_0_0) = some r := h
 clear h
 have H' := Aside0.mk H
 clear H
 have hcz5_0 := (blk_cell BK150.out 0).trans rfl
 have hfz5_0 := blk_frozen BK150.out 0
 have hcz6_0 := (blk_cell BK151.out 0).trans rfl
 have hfz6_0 := blk_frozen BK151.out 0
 go_enter Try.func38, Try.ntmps38
 go_wp2
 go_loopg [6, 10] k (fun kq v6 v10 w' => ∃ (x6_1 : Int) (x10_1 : Int), v6 = .int .i64 x6_1 ∧ v10 = .int .i64 x10_1 ∧ Aside0 (sched_Level_2.l0 kq a0 x6_1 a2_0 x10_1 a3_0_0_0 = some r) ∧ Aside0 (kq ≤ k) ∧ Aside0 (w'.heap[gc1]? = some (.cells #[.int .i64 a1_0] 2 (0, 0))) ∧ Aside0 (w'.heap[gc2]? = some (.cells #[.int .i64 a2_0] 3 (0, 0))) ∧ Aside0 (w'.heap[gc3_0_0]? = some (.cells #[.int .i64 a3_0_0_0] 2 (0, 0))) ∧ Aside0 (w'.heap[gc3]? = some (.cells #[.func (.func 36) #[] #[.pointer (some ⟨gc3_0_0, 0, none⟩)]] 55 (0, 0))) ∧ Aside0 (Below w.heap.size w w'))
 case atStart => exact ⟨(a1_0), (0), (by first | rfl | (simp; done) | (simp [*]; done)), (by first | rfl | (simp; done) | (simp [*]; done)), H', ⟨Nat.le_refl _⟩, ⟨by (with_reducible repeat (first | refine blk_drewN ?_ _ | refine blk_drew ?_ | refine blk_alloc ?_ _)); exact BK150.out⟩, ⟨by (with_reducible repeat (first | refine blk_drewN ?_ _ | refine blk_drew ?_ | refine blk_alloc ?_ _)); exact BK151.out⟩, ⟨by (with_reducible repeat (first | refine blk_drewN ?_ _ | refine blk_drew ?_ | refine blk_alloc ?_ _)); exact BK153.out⟩, ⟨by (with_reducible repeat (first | refine blk_drewN ?_ _ | refine blk_drew ?_ | refine blk_alloc ?_ _)); exact BK152.out⟩, ⟨by repeat (first | (with_reducible first | exact HB.out | apply below_alloc | apply pw_below_drewN | apply below_drew1 | refine below_set ?_ GE150.out | refine below_set ?_ GE151.out | refine below_set ?_ GE153.out | refine below_set ?_ GE152.out) | exact HB.out)⟩⟩
 case round =>
  clear H'
  repeat first | clear c1 | clear c2 | clear p2 | clear c3 | clear hcz5_0 | clear hcz6_0 | clear hfz5_0 | clear hfz6_0
  obtain ⟨x6_1, x10_1, rfl, rfl, HA, HK1, BK150, BK151, BK153, BK152, HB⟩ := hrel
  cases gk with
  | zero => exact absurd HA.out (by simp [sched_Level_2.l0])
  | succ k1 =>
   have H := HA.out
   clear HA
   simp only [sched_Level_2.l0] at H
   by_cases c7 : x10_1 < a2_0
   ·rw [if_pos c7] at H
    have c7b0 : decide (x10_1 < a2_0) = true := decide_eq_true c7
    clear c7
    by_cases c8 : x6_1 ≤ 0
    ·rw [if_pos c8] at H
     have c8b0 : decide (x6_1 ≤ 0) = true := decide_eq_true c8
     clear c8
     obtain rfl := Option.some.inj H
     go_wp2
     go_ret
     exact ⟨by first | rfl | (simp [errW_none, errW_some] <;> rfl) | (simp [*, errW_none, errW_some] <;> rfl), by repeat (first | (with_reducible first | exact HB.out | apply below_alloc | apply pw_below_drewN | apply below_drew1 | refine below_set ?_ GE150.out | refine below_set ?_ GE151.out | refine below_set ?_ GE153.out | refine below_set ?_ GE152.out) | exact HB.out)⟩
    ·rw [if_neg c8] at H
     have c8b0 : decide (x6_1 ≤ 0) = false := decide_eq_false c8
     clear c8
     replace H := Option.bind_eq_some_iff.mp H
     obtain ⟨t154, A90, H⟩ := H
     replace H : (if (wrap64 ((wrap64 (x6_1 + t154)) - a0)) ≥ x6_1 then (some false) else (sched_Level_2.l0 k1 a0 (wrap64 ((wrap64 (x6_1 + t154)) - a0)) a2_0 (wrap64 (x10_1 + 1)) a3_0_0_0)) = some r := H
     have A9 := Aside0.mk A90
     clear A90
     by_cases c10 : (wrap64 ((wrap64 (x6_1 + t154)) - a0)) ≥ x6_1
     ·rw [if_pos c10] at H
      have c10b0 : decide (x6_1 ≤ (wrap64 ((wrap64 (x6_1 + t154)) - a0))) = true := decide_eq_true c10
      clear c10
      obtain rfl := Option.some.inj H
      have hcz11_0 := (blk_cell BK152.out 0).trans rfl
      have hfz11_0 := blk_frozen BK152.out 0
      have hcz12_0 := (blk_cell BK153.out 0).trans rfl
      have hfz12_0 := blk_frozen BK153.out 0
      go_wp2_with (first | (go_at_call 36; (with_reducible refine (sched_Level_1.calls k1 x6_1 gc3_0_0 a3_0_0_0 t154 _ ?side1 A9.out).mono ?_); (case side1 => (with_reducible repeat (first | refine blk_drewN ?_ _ | refine blk_drew ?_ | refine blk_alloc ?_ _)); exact BK153.out); rintro e w13 ⟨rfl, hb⟩; have n0_ := Aside0.mk (blk_below (g := gc1) (o := .cells #[.int .i64 a1_0] 2 (0, 0)) (by (with_reducible repeat (first | refine blk_drewN ?_ _ | refine blk_drew ?_ | refine blk_alloc ?_ _)); exact BK150.out) hb); have n1_ := Aside0.mk (blk_below (g := gc2) (o := .cells #[.int .i64 a2_0] 3 (0, 0)) (by (with_reducible repeat (first | refine blk_drewN ?_ _ | refine blk_drew ?_ | refine blk_alloc ?_ _)); exact BK151.out) hb); have n2_ := Aside0.mk (blk_below (g := gc3_0_0) (o := .cells #[.int .i64 a3_0_0_0] 2 (0, 0)) (by (with_reducible repeat (first | refine blk_drewN ?_ _ | refine blk_drew ?_ | refine blk_alloc ?_ _)); exact BK153.out) hb); have n3_ := Aside0.mk (blk_below (g := gc3) (o := .cells #[.func (.func 36) #[] #[.pointer (some ⟨gc3_0_0, 0, none⟩)]] 55 (0, 0)) (by (with_reducible repeat (first | refine blk_drewN ?_ _ | refine blk_drew ?_ | refine blk_alloc ?_ _)); exact BK152.out) hb); have n4_ := Aside0.mk (below_step (by repeat (first | (with_reducible first | exact HB.out | apply below_alloc | apply pw_below_drewN | apply below_drew1 | refine below_set ?_ GE150.out | refine below_set ?_ GE151.out | refine below_set ?_ GE153.out | refine below_set ?_ GE152.out) | exact HB.out)) hb); clear BK150; clear BK151; clear BK153; clear BK152; clear HB; have BK150 := n0_; have BK151 := n1_; have BK153 := n2_; have BK152 := n3_; have HB := n4_; clear n0_ n1_ n2_ n3_ n4_; (try clear hb); (try clear hb2); (try clear hk); (try clear hi)))
      go_ret
      exact ⟨by first | rfl | (simp [errW_none, errW_some] <;> rfl) | (simp [*, errW_none, errW_some] <;> rfl), by repeat (first | (with_reducible first | exact HB.out | apply below_alloc | apply pw_below_drewN | apply below_drew1 | refine below_set ?_ GE150.out | refine below_set ?_ GE151.out | refine below_set ?_ GE153.out | refine below_set ?_ GE152.out) | exact HB.out)⟩
     ·rw [if_neg c10] at H
      have c10b0 : decide (x6_1 ≤ (wrap64 ((wrap64 (x6_1 + t154)) - a0))) = false := decide_eq_false c10
      clear c10
      have H' := Aside0.mk H
      clear H
      have hcz14_0 := (blk_cell BK152.out 0).trans rfl
      have hfz14_0 := blk_frozen BK152.out 0
      have hcz15_0 := (blk_cell BK153.out 0).trans rfl
      have hfz15_0 := blk_frozen BK153.out 0
      go_wp2_with (first | (go_at_call 36; (with_reducible refine (sched_Level_1.calls k1 x6_1 gc3_0_0 a3_0_0_0 t154 _ ?side1 A9.out).mono ?_); (case side1 => (with_reducible repeat (first | refine blk_drewN ?_ _ | refine blk_drew ?_ | refine blk_alloc ?_ _)); exact BK153.out); rintro e w16 ⟨rfl, hb⟩; have n0_ := Aside0.mk (blk_below (g := gc1) (o := .cells #[.int .i64 a1_0] 2 (0, 0)) (by (with_reducible repeat (first | refine blk_drewN ?_ _ | refine blk_drew ?_ | refine blk_alloc ?_ _)); exact BK150.out) hb); have n1_ := Aside0.mk (blk_below (g := gc2) (o := .cells #[.int .i64 a2_0] 3 (0, 0)) (by (with_reducible repeat (first | refine blk_drewN ?_ _ | refine blk_drew ?_ | refine blk_alloc ?_ _)); exact BK151.out) hb); have n2_ := Aside0.mk (blk_below (g := gc3_0_0) (o := .cells #[.int .i64 a3_0_0_0] 2 (0, 0)) (by (with_reducible repeat (first | refine blk_drewN ?_ _ | refine blk_drew ?_ | refine blk_alloc ?_ _)); exact BK153.out) hb); have n3_ := Aside0.mk (blk_below (g := gc3) (o := .cells #[.func (.func 36) #[] #[.pointer (some ⟨gc3_0_0, 0, none⟩)]] 55 (0, 0)) (by (with_reducible repeat (first | refine blk_drewN ?_ _ | refine blk_drew ?_ | refine blk_alloc ?_ _)); exact BK152.out) hb); have n4_ := Aside0.mk (below_step (by repeat (first | (with_reducible first | exact HB.out | apply below_alloc | apply pw_below_drewN | apply below_drew1 | refine below_set ?_ GE150.out | refine below_set ?_ GE151.out | refine below_set ?_ GE153.out | refine below_set ?_ GE152.out) | exact HB.out)) hb); clear BK150; clear BK151; clear BK153; clear BK152; clear HB; have BK150 := n0_; have BK151 := n1_; have BK153 := n2_; have BK152 := n3_; have HB := n4_; clear n0_ n1_ n2_ n3_ n4_; (try clear hb); (try clear hb2); (try clear hk); (try clear hi)))
      go_roundg k1
      case measure => have := HK1.out; omega
      case rel => exact ⟨(wrap64 ((wrap64 (x6_1 + t154)) - a0)), (wrap64 (x10_1 + 1)), (by first | rfl | (simp; done) | (simp [*]; done)), (by first | rfl | (simp; done) | (simp [*]; done)), H', ⟨by have := HK1.out; omega⟩, ⟨by (with_reducible repeat (first | refine blk_drewN ?_ _ | refine blk_drew ?_ | refine blk_alloc ?_ _)); exact BK150.out⟩, ⟨by (with_reducible repeat (first | refine blk_drewN ?_ _ | refine blk_drew ?_ | refine blk_alloc ?_ _)); exact BK151.out⟩, ⟨by (with_reducible repeat (first | refine blk_drewN ?_ _ | refine blk_drew ?_ | refine blk_alloc ?_ _)); exact BK153.out⟩, ⟨by (with_reducible repeat (first | refine blk_drewN ?_ _ | refine blk_drew ?_ | refine blk_alloc ?_ _)); exact BK152.out⟩, ⟨by repeat (first | (with_reducible first | exact HB.out | apply below_alloc | apply pw_below_drewN | apply below_drew1 | refine below_set ?_ GE150.out | refine below_set ?_ GE151.out | refine below_set ?_ GE153.out | refine below_set ?_ GE152.out) | exact HB.out)⟩⟩
   ·rw [if_neg c7] at H
    have c7b0 : decide (x10_1 < a2_0) = false := decide_eq_false c7
    clear c7
    obtain rfl := Option.some.inj H
    go_wp2
    go_ret
    exact ⟨by first | rfl | (simp [errW_none, errW_some] <;> rfl) | (simp [*, errW_none, errW_some] <;> rfl), by repeat (first | (with_reducible first | exact HB.out | apply below_alloc | apply pw_below_drewN | apply below_drew1 | refine below_set ?_ GE150.out | refine below_set ?_ GE151.out | refine below_set ?_ GE153.out | refine below_set ?_ GE152.out) | exact HB.out)⟩

end Go.Proofs.Ytchpeobenlnemaa.S
end

section
namespace Go.Proofs.Ytchpeobenlnemaa.S
open Go.RowKit Go.Proofs.YtchpeobenlnemaaW.PrintWords Go.Proofs.YtchpeobenlnemaaW.PrintLast Go.Proofs.YtchpeobenlnemaaW.PrintMore
attribute [local go_sem] max2_int min2_int max_two min_two max_three min_three max_four min_four   -- for this text's walks alone
attribute [local go_sem] Go.Proofs.Ytchpeobenlnemaa.XWalk.cell2
set_option linter.unusedVariables false
set_option linter.unusedSimpArgs false

/-! ### sched_least_int64__sched_Level_2: function 37 -/
def sched_least_int64__sched_Level_2.l0 : Nat → Int → Int → Int → Int → Int → Option (Int)
 | 0, _, _, _, _, _ => none
 | k + 1, x0, x1, x164000, x165000, x167000 => if x0 < x1 then ((sched_Level_2.f k (wrap64 (x0 + (wrap64 (Int.tdiv (wrap64 (x1 - x0)) 2)))) x164000 x165000 x167000).bind fun t167 => (if t167 = true then (sched_least_int64__sched_Level_2.l0 k x0 (wrap64 (x0 + (wrap64 (Int.tdiv (wrap64 (x1 - x0)) 2)))) x164000 x165000 x167000) else (sched_least_int64__sched_Level_2.l0 k (wrap64 ((wrap64 (x0 + (wrap64 (Int.tdiv (wrap64 (x1 - x0)) 2)))) + 1)) x1 x164000 x165000 x167000))) else (some x0)
def sched_least_int64__sched_Level_2.f (k : Nat) (a0 : Int) (a1 : Int) (a2_0_0 : Int) (a2_1_0 : Int) (a2_2_0_0_0 : Int) : Option (Int) := sched_least_int64__sched_Level_2.l0 k a0 a1 a2_0_0 a2_1_0 a2_2_0_0_0
set_option maxHeartbeats 8000000 in
set_option maxRecDepth 100000 in
theorem sched_least_int64__sched_Level_2.calls (k : Nat) (a0 : Int) (a1 : Int) (gc2_0 : Nat) (a2_0_0 : Int) (gc2_1 : Nat) (a2_1_0 : Int) (gc2_2 : Nat) (gc2_2_0_0 : Nat) (a2_2_0_0_0 : Int) (r : Int) (w : World) (hgc2_0 : w.heap[gc2_0]? = some (.cells #[.int .i64 a2_0_0] 2 (0, 0))) (hgc2_1 : w.heap[gc2_1]? = some (.cells #[.int .i64 a2_1_0] 3 (0, 0))) (hgc2_2 : w.heap[gc2_2]? = some (.cells #[.func (.func 36) #[] #[.pointer (some ⟨gc2_2_0_0, 0, none⟩)]] 55 (0, 0))) (hgc2_2_0_0 : w.heap[gc2_2_0_0]? = some (.cells #[.int .i64 a2_2_0_0_0] 2 (0, 0))) (h : sched_least_int64__sched_Level_2.f k a0 a1 a2_0_0 a2_1_0 a2_2_0_0_0 = some r) :
  Calls Try.prog 37 #[.int .i64 a0, .int .i64 a1, .func (.func 38) #[] #[.pointer (some ⟨gc2_0, 0, none⟩), .pointer (some ⟨gc2_1, 0, none⟩), .pointer (some ⟨gc2_2, 0, none⟩)]] w fun e w' => e = .returned (.int .i64 r) ∧ Below w.heap.size w w' := by
 have BK163 := Aside0.mk hgc2_0
 clear hgc2_0
 have BK164 := Aside0.mk hgc2_1
 clear hgc2_1
 have BK166 := Aside0.mk hgc2_2_0_0
 clear hgc2_2_0_0
 have BK165 := Aside0.mk hgc2_2
 clear hgc2_2
 have HB := Aside0.mk (Below.refl w.heap.size w)
 have H : (sched_least_int64__sched_Level_2.l0 k a0 a1 a2_0_0 a2_1_0 a2_2_0_0_0) = some r := h
 clear h
 have H' := Aside0.mk H
 clear H
 go_enter Try.func37, Try.ntmps37
 go_wp2
 go_loopg [0, 1] k (fun kq v0 v1 w' => ∃ (x0_1 : Int) (x1_1 : Int), v0 = .int .i64 x0_1 ∧ v1 = .int .i64 x1_1 ∧ Aside0 (sched_least_int64__sched_Level_2.l0 kq x0_1 x1_1 a2_0_0 a2_1_0 a2_2_0_0_0 = some r) ∧ Aside0 (kq ≤ k) ∧ Aside0 (w'.heap[gc2_0]? = some (.cells #[.int .i64 a2_0_0] 2 (0, 0))) ∧ Aside0 (w'.heap[gc2_1]? = some (.cells #[.int .i64 a2_1_0] 3 (0, 0))) ∧ Aside0 (w'.heap[gc2_2_0_0]? = some (.cells #[.int .i64 a2_2_0_0_0] 2 (0, 0))) ∧ Aside0 (w'.heap[gc2_2]? = some (.cells #[.func (.func 36) #[] #[.pointer (some ⟨gc2_2_0_0, 0, none⟩)]] 55 (0, 0))) ∧ Aside0 (Below w.heap.size w w'))
 case atStart => exact ⟨(a0), (a1), (by first | rfl | (simp; done) | (simp [*]; done)), (by first | rfl | (simp; done) | (simp [*]; done)), H', ⟨Nat.le_refl _⟩, ⟨by (with_reducible repeat (first | refine blk_drewN ?_ _ | refine blk_drew ?_ | refine blk_alloc ?_ _)); exact BK163.out⟩, ⟨by (with_reducible repeat (first | refine blk_drewN ?_ _ | refine blk_drew ?_ | refine blk_alloc ?_ _)); exact BK164.out⟩, ⟨by (with_reducible repeat (first | refine blk_drewN ?_ _ | refine blk_drew ?_ | refine blk_alloc ?_ _)); exact BK166.out⟩, ⟨by (with_reducible repeat (first | refine blk_drewN ?_ _ | refine blk_drew ?_ | refine blk_alloc ?_ _)); exact BK165.out⟩, ⟨by repeat (first | (with_reducible first | exact HB.out | apply below_alloc | apply pw_below_drewN | apply below_drew1 | refine below_set ?_ GE163.out | refine below_set ?_ GE164.out | refine below_set ?_ GE166.out | refine below_set ?_ GE165.out) | exact HB.out)⟩⟩
 case round =>
  clear H'
  try clear c2; try clear p2
  obtain ⟨x0_1, x1_1, rfl, rfl, HA, HK1, BK163, BK164, BK166, BK165, HB⟩ := hrel
  cases gk with
  | zero => exact absurd HA.out (by simp [sched_least_int64__sched_Level_2.l0])
  | succ k1 =>
   have H := HA.out
   clear HA
   simp only [sched_least_int64__sched_Level_2.l0] at H
   by_cases c4 : x0_1 < x1_1
   ·rw [if_pos c4] at H
    have c4b0 : decide (x0_1 < x1_1) = true := decide_eq_true c4
    clear c4
    replace H := Option.bind_eq_some_iff.mp H
    obtain ⟨t167, A50, H⟩ := H
    replace H : (if t167 = true then (sched_least_int64__sched_Level_2.l0 k1 x0_1 (wrap64 (x0_1 + (wrap64 (Int.tdiv (wrap64 (x1_1 - x0_1)) 2)))) a2_0_0 a2_1_0 a2_2_0_0_0) else (sched_least_int64__sched_Level_2.l0 k1 (wrap64 ((wrap64 (x0_1 + (wrap64 (Int.tdiv (wrap64 (x1_1 - x0_1)) 2)))) + 1)) x1_1 a2_0_0 a2_1_0 a2_2_0_0_0)) = some r := H
    have A5 := Aside0.mk A50
    clear A50
    by_cases c6 : t167 = true
    ·subst c6
     have H1 : (sched_least_int64__sched_Level_2.l0 k1 x0_1 (wrap64 (x0_1 + (wrap64 (Int.tdiv (wrap64 (x1_1 - x0_1)) 2)))) a2_0_0 a2_1_0 a2_2_0_0_0) = some r := by rw [if_pos rfl] at H; exact H
     clear H
     have H := H1
     clear H1
     have H' := Aside0.mk H
     clear H
     have hcz7_0 := (blk_cell BK163.out 0).trans rfl
     have hfz7_0 := blk_frozen BK163.out 0
     have hcz8_0 := (blk_cell BK164.out 0).trans rfl
     have hfz8_0 := blk_frozen BK164.out 0
     have hcz9_0 := (blk_cell BK165.out 0).trans rfl
     have hfz9_0 := blk_frozen BK165.out 0
     have hcz10_0 := (blk_cell BK166.out 0).trans rfl
     have hfz10_0 := blk_frozen BK166.out 0
     go_wp2_with (first | (go_at_call 38; (with_reducible refine (sched_Level_2.calls k1 (wrap64 (x0_1 + (wrap64 (Int.tdiv (wrap64 (x1_1 - x0_1)) 2)))) gc2_0 a2_0_0 gc2_1 a2_1_0 gc2_2 gc2_2_0_0 a2_2_0_0_0 true _ ?side1 ?side2 ?side3 ?side4 A5.out).mono ?_); (case side1 => (with_reducible repeat (first | refine blk_drewN ?_ _ | refine blk_drew ?_ | refine blk_alloc ?_ _)); exact BK163.out); (case side2 => (with_reducible repeat (first | refine blk_drewN ?_ _ | refine blk_drew ?_ | refine blk_alloc ?_ _)); exact BK164.out); (case side3 => (with_reducible repeat (first | refine blk_drewN ?_ _ | refine blk_drew ?_ | refine blk_alloc ?_ _)); exact BK165.out); (case side4 => (with_reducible repeat (first | refine blk_drewN ?_ _ | refine blk_drew ?_ | refine blk_alloc ?_ _)); exact BK166.out); rintro e w11 ⟨rfl, hb⟩; have n0_ := Aside0.mk (blk_below (g := gc2_0) (o := .cells #[.int .i64 a2_0_0] 2 (0, 0)) (by (with_reducible repeat (first | refine blk_drewN ?_ _ | refine blk_drew ?_ | refine blk_alloc ?_ _)); exact BK163.out) hb); have n1_ := Aside0.mk (blk_below (g := gc2_1) (o := .cells #[.int .i64 a2_1_0] 3 (0, 0)) (by (with_reducible repeat (first | refine blk_drewN ?_ _ | refine blk_drew ?_ | refine blk_alloc ?_ _)); exact BK164.out) hb); have n2_ := Aside0.mk (blk_below (g := gc2_2_0_0) (o := .cells #[.int .i64 a2_2_0_0_0] 2 (0, 0)) (by (with_reducible repeat (first | refine blk_drewN ?_ _ | refine blk_drew ?_ | refine blk_alloc ?_ _)); exact BK166.out) hb); have n3_ := Aside0.mk (blk_below (g := gc2_2) (o := .cells #[.func (.func 36) #[] #[.pointer (some ⟨gc2_2_0_0, 0, none⟩)]] 55 (0, 0)) (by (with_reducible repeat (first | refine blk_drewN ?_ _ | refine blk_drew ?_ | refine blk_alloc ?_ _)); exact BK165.out) hb); have n4_ := Aside0.mk (below_step (by repeat (first | (with_reducible first | exact HB.out | apply below_alloc | apply pw_below_drewN | apply below_drew1 | refine below_set ?_ GE163.out | refine below_set ?_ GE164.out | refine below_set ?_ GE166.out | refine below_set ?_ GE165.out) | exact HB.out)) hb); clear BK163; clear BK164; clear BK166; clear BK165; clear HB; have BK163 := n0_; have BK164 := n1_; have BK166 := n2_; have BK165 := n3_; have HB := n4_; clear n0_ n1_ n2_ n3_ n4_; (try clear hb); (try clear hb2); (try clear hk); (try clear hi)))
     go_roundg k1
     case measure => have := HK1.out; omega
     case rel => exact ⟨(x0_1), (wrap64 (x0_1 + (wrap64 (Int.tdiv (wrap64 (x1_1 - x0_1)) 2)))), (by first | rfl | (simp; done) | (simp [*]; done)), (by first | rfl | (simp; done) | (simp [*]; done)), H', ⟨by have := HK1.out; omega⟩, ⟨by (with_reducible repeat (first | refine blk_drewN ?_ _ | refine blk_drew ?_ | refine blk_alloc ?_ _)); exact BK163.out⟩, ⟨by (with_reducible repeat (first | refine blk_drewN ?_ _ | refine blk_drew ?_ | refine blk_alloc ?_ _)); exact BK164.out⟩, ⟨by (with_reducible repeat (first | refine blk_drewN ?_ _ | refine blk_drew ?_ | refine blk_alloc ?_ _)); exact BK166.out⟩, ⟨by (with_reducible repeat (first | refine blk_drewN ?_ _ | refine blk_drew ?_ | refine blk_alloc ?_ _)); exact BK165.out⟩, ⟨by repeat (first | (with_reducible first | exact HB.out | apply below_alloc | apply pw_below_drewN | apply below_drew1 | refine below_set ?_ GE163.out | refine below_set ?_ GE164.out | refine below_set ?_ GE166.out | refine below_set ?_ GE165.out) | exact HB.out)⟩⟩
    ·replace c6 := Bool.eq_false_iff.mpr c6
     subst c6
     have H1 : (sched_least_int64__sched_Level_2.l0 k1 (wrap64 ((wrap64 (x0_1 + (wrap64 (Int.tdiv (wrap64 (x1_1 - x0_1)) 2)))) + 1)) x1_1 a2_0_0 a2_1_0 a2_2_0_0_0) = some r := by rw [if_neg (show ¬ (false = true) by decide)] at H; exact H
     clear H
     have H := H1
     clear H1
     have H' := Aside0.mk H
     clear H
     have hcz12_0 := (blk_cell BK163.out 0).trans rfl
     have hfz12_0 := blk_frozen BK163.out 0
     have hcz13_0 := (blk_cell BK164.out 0).trans rfl
     have hfz13_0 := blk_frozen BK164.out 0
     have hcz14_0 := (blk_cell BK165.out 0).trans rfl
     have hfz14_0 := blk_frozen BK165.out 0
     have hcz15_0 := (blk_cell BK166.out 0).trans rfl
     have hfz15_0 := blk_frozen BK166.out 0
     go_wp2_with (first | (go_at_call 38; (with_reducible refine (sched_Level_2.calls k1 (wrap64 (x0_1 + (wrap64 (Int.tdiv (wrap64 (x1_1 - x0_1)) 2)))) gc2_0 a2_0_0 gc2_1 a2_1_0 gc2_2 gc2_2_0_0 a2_2_0_0_0 false _ ?side1 ?side2 ?side3 ?side4 A5.out).mono ?_); (case side1 => (with_reducible repeat (first | refine blk_drewN ?_ _ | refine blk_drew ?_ | refine blk_alloc ?_ _)); exact BK163.out); (case side2 => (with_reducible repeat (first | refine blk_drewN ?_ _ | refine blk_drew ?_ | refine blk_alloc ?_ _)); exact BK164.out); (case side3 => (with_reducible repeat (first | refine blk_drewN ?_ _ | refine blk_drew ?_ | refine blk_alloc ?_ _)); exact BK165.out); (case side4 => (with_reducible repeat (first | refine blk_drewN ?_ _ | refine blk_drew ?_ | refine blk_alloc ?_ _)); exact BK166.out); rintro e w16 ⟨rfl, hb⟩; have n0_ := Aside0.mk (blk_below (g := gc2_0) (o := .cells #[.int .i64 a2_0_0] 2 (0, 0)) (by (with_reducible repeat (first | refine blk_drewN ?_ _ | refine blk_drew ?_ | refine blk_alloc ?_ _)); exact BK163.out) hb); have n1_ := Aside0.mk (blk_below (g := gc2_1) (o := .cells #[.int .i64 a2_1_0] 3 (0, 0)) (by (with_reducible repeat (first | refine blk_drewN ?_ _ | refine blk_drew ?_ | refine blk_alloc ?_ _)); exact BK164.out) hb); have n2_ := Aside0.mk (blk_below (g := gc2_2_0_0) (o := .cells #[.int .i64 a2_2_0_0_0] 2 (0, 0)) (by (with_reducible repeat (first | refine blk_drewN ?_ _ | refine blk_drew ?_ | refine blk_alloc ?_ _)); exact BK166.out) hb); have n3_ := Aside0.mk (blk_below (g := gc2_2) (o := .cells #[.func (.func 36) #[] #[.pointer (some ⟨gc2_2_0_0, 0, none⟩)]] 55 (0, 0)) (by (with_reducible repeat (first | refine blk_drewN ?_ _ | refine blk_drew ?_ | refine blk_alloc ?_ _)); exact BK165.out) hb); have n4_ := Aside0.mk (below_step (by repeat (first | (with_reducible first | exact HB.out | apply below_alloc | apply pw_below_drewN | apply below_drew1 | refine below_set ?_ GE163.out | refine below_set ?_ GE164.out | refine below_set ?_ GE166.out | refine below_set ?_ GE165.out) | exact HB.out)) hb); clear BK163; clear BK164; clear BK166; clear BK165; clear HB; have BK163 := n0_; have BK164 := n1_; have BK166 := n2_; have BK165 := n3_; have HB := n4_; clear n0_ n1_ n2_ n3_ n4_; (try clear hb); (try clear hb2); (try clear hk); (try clear hi)))
     go_roundg k1
     case measure => have := HK1.out; omega
     case rel => exact ⟨(wrap64 ((wrap64 (x0_1 + (wrap64 (Int.tdiv (wrap64 (x1_1 - x0_1)) 2)))) + 1)), (x1_1), (by first | rfl | (simp; done) | (simp [*]; done)), (by first | rfl | (simp; done) | (simp [*]; done)), H', ⟨by have := HK1.out; omega⟩, ⟨by (with_reducible repeat (first | refine blk_drewN ?_ _ | refine blk_drew ?_ | refine blk_alloc ?_ _)); exact BK163.out⟩, ⟨by (with_reducible repeat (first | refine blk_drewN ?_ _ | refine blk_drew ?_ | refine blk_alloc ?_ _)); exact BK164.out⟩, ⟨by (with_reducible repeat (first | refine blk_drewN ?_ _ | refine blk_drew ?_ | refine blk_alloc ?_ _)); exact BK166.out⟩, ⟨by (with_reducible repeat (first | refine blk_drewN ?_ _ | refine blk_drew ?_ | refine blk_alloc ?_ _)); exact BK165.out⟩, ⟨by repeat (first | (with_reducible first | exact HB.out | apply below_alloc | apply pw_below_drewN | apply below_drew1 | refine below_set ?_ GE163.out | refine below_set ?_ GE164.out | refine below_set ?_ GE166.out | refine below_set ?_ GE165.out) | exact HB.out)⟩⟩
   ·rw [if_neg c4] at H
    have c4b0 : decide (x0_1 < x1_1) = false := decide_eq_false c4
    clear c4
    obtain rfl := Option.some.inj H
    go_wp2
    go_ret
    exact ⟨by first | rfl | (simp [errW_none, errW_some] <;> rfl) | (simp [*, errW_none, errW_some] <;> rfl), by repeat (first | (with_reducible first | exact HB.out | apply below_alloc | apply pw_below_drewN | apply below_drew1 | refine below_set ?_ GE163.out | refine below_set ?_ GE164.out | refine below_set ?_ GE166.out | refine below_set ?_ GE165.out) | exact HB.out)⟩

end Go.Proofs.Ytchpeobenlnemaa.S
end

section
namespace Go.Proofs.Ytchpeobenlnemaa.S
open Go.RowKit Go.Proofs.YtchpeobenlnemaaW.PrintWords Go.Proofs.YtchpeobenlnemaaW.PrintLast Go.Proofs.YtchpeobenlnemaaW.PrintMore
attribute [local go_sem] max2_int min2_int max_two min_two max_three min_three max_four min_four   -- for this text's walks alone
attribute [local go_sem] Go.Proofs.Ytchpeobenlnemaa.XWalk.cell2
set_option linter.unusedVariables false
set_option linter.unusedSimpArgs false

/-! ### sched_Level: function 17 -/
def sched_Level.j0 : Nat → Bool → Int → Int → Int → Option (Int × Int)
 | 0, _, _, _, _ => none
 | k + 1, x21, x169000, x170000, x171000 => if x21 = true then (some (0, 2)) else ((sched_Level_1.f k x169000 x170000).bind fun t175 => ((sched_least_int64__sched_Level_2.f k 0 (wrap64 (x169000 + t175)) x169000 x171000 x170000).bind fun t176 => (some (t176, 0))))
def sched_Level.f (k : Nat) (a0 : Int) (a1 : Int) (a2 : Int) : Option (Int × Int) := (sched_within_int64.f a0 0 10000000000000).bind fun t171 => (if t171 = true then ((sched_may.f a1).bind fun t172 => (if t172 = true then ((sched_within_int.f a2 1 600).bind fun t173 => (sched_Level.j0 k (!t173) a0 a1 a2)) else (sched_Level.j0 k true a0 a1 a2))) else (sched_Level.j0 k true a0 a1 a2))
def sched_Level.T4 : Bool × List (List Nat × List Nat) := (true, [([], []), ([], []), ([], []), ([1, 2], [1, 2]), ([0, 3], [0, 3]), ([], []), ([4, 5, 3], [4, 5]), ([6, 6, 0, 1, 2, 3, 4, 5, 6], [6]), ([7, 0, 1, 2, 3, 4, 5, 6, 7], [])])
def sched_Level.B4 : List Nat := [0, 0, 0, 6, 15, 0, 63, 127, 255]
theorem sched_Level.tab4 : rtab .any (opsOf Try.f17 4) = sched_Level.T4 := by kernel_rfl
theorem sched_Level.bits4 : waitsOk sched_Level.T4.2 sched_Level.B4 = true := by kernel_rfl
set_option maxHeartbeats 8000000 in
set_option maxRecDepth 100000 in
theorem sched_Level.calls (k : Nat) (a0 : Int) (a1 : Int) (a2 : Int) (r1 : Int) (r2 : Int) (w : World) (h : sched_Level.f k a0 a1 a2 = some (r1, r2)) :
  Calls Try.prog 17 #[.int .i64 a0, .int .i64 a1, .int .i64 a2] w fun e w' => e = .returned (.tuple #[.int .i64 r1, .int .i64 r2]) ∧ Below w.heap.size w w' := by
 have HB := Aside0.mk (Below.refl w.heap.size w)
 have H : ((sched_within_int64.f a0 0 10000000000000).bind fun t171 => (if t171 = true then ((sched_may.f a1).bind fun t172 => (if t172 = true then ((sched_within_int.f a2 1 600).bind fun t173 => (sched_Level.j0 k (!t173) a0 a1 a2)) else (sched_Level.j0 k true a0 a1 a2))) else (sched_Level.j0 k true a0 a1 a2))) = some (r1, r2) := h
 clear h
 have HC4 := Aside0.mk H
 clear H
 go_enter Try.func17, Try.ntmps17
 go_upto_region 1 with (first | ((with_reducible refine gate_dst (N := 3) rfl ?_); refine box_event ?hg (N := 3) ?hd (cs := #[.int .i64 a0]) (t := 2) ?hr ?_; (case hd => rfl); (case hg => rfl); (case hr => first | (go_simp; done) | (go_simp; rfl)); intro gb168 hg w5 hbox hb; have n0_ := Aside0.mk (below_step (by repeat (first | (with_reducible first | exact HB.out | apply below_alloc | apply pw_below_drewN | apply below_drew1) | exact HB.out)) hb); have n1_ := Aside0.mk (hbox); have n2_ := Aside0.mk ((by rw [hg]; exact (below_size (by repeat (first | (with_reducible first | exact HB.out | apply below_alloc | apply pw_below_drewN | apply below_drew1) | exact HB.out))) : w.heap.size ≤ gb168)); have n3_ := Aside0.mk ((by rw [hg]; exact (below_size (by repeat (first | (with_reducible first | exact HB.out | apply below_alloc | apply pw_below_drewN | apply below_drew1) | exact HB.out))) : w.heap.size ≤ gb168)); clear HB; have HB := n0_; have BK168 := n1_; have GW168 := n2_; have GE168 := n3_; clear n0_ n1_ n2_ n3_; clear hb hbox hg) | ((with_reducible refine gate_dst (N := 4) rfl ?_); refine box_event ?hg (N := 4) ?hd (cs := #[.int .i64 a1]) (t := 2) ?hr ?_; (case hd => rfl); (case hg => rfl); (case hr => first | (go_simp; done) | (go_simp; rfl)); intro gb169 hg w6 hbox hb; have n0_ := Aside0.mk (blk_below (g := gb168) (o := .cells #[.int .i64 a0] 2 (0, 0)) (by (with_reducible repeat (first | refine blk_drewN ?_ _ | refine blk_drew ?_ | refine blk_alloc ?_ _)); exact BK168.out) hb); have n1_ := Aside0.mk (below_step (by repeat (first | (with_reducible first | exact HB.out | apply below_alloc | apply pw_below_drewN | apply below_drew1 | refine below_set ?_ GE168.out) | exact HB.out)) hb); have n2_ := Aside0.mk (hbox); have n3_ := Aside0.mk ((by rw [hg]; exact (below_size (by repeat (first | (with_reducible first | exact HB.out | apply below_alloc | apply pw_below_drewN | apply below_drew1 | refine below_set ?_ GE168.out) | exact HB.out))) : w.heap.size ≤ gb169)); have n4_ := Aside0.mk ((by rw [hg]; exact (below_size (by repeat (first | (with_reducible first | exact HB.out | apply below_alloc | apply pw_below_drewN | apply below_drew1 | refine below_set ?_ GE168.out) | exact HB.out))) : w.heap.size ≤ gb169)); have n5_ := Aside0.mk ((by rw [hg]; exact Nat.ne_of_lt (blk_lt (g := gb168) (o := .cells #[.int .i64 a0] 2 (0, 0)) (by (with_reducible repeat (first | refine blk_drewN ?_ _ | refine blk_drew ?_ | refine blk_alloc ?_ _)); exact BK168.out)) : gb168 ≠ gb169)); have n6_ := Aside0.mk ((by rw [hg]; exact Nat.ne_of_gt (blk_lt (g := gb168) (o := .cells #[.int .i64 a0] 2 (0, 0)) (by (with_reducible repeat (first | refine blk_drewN ?_ _ | refine blk_drew ?_ | refine blk_alloc ?_ _)); exact BK168.out)) : gb169 ≠ gb168)); clear BK168; clear HB; have BK168 := n0_; have HB := n1_; have BK169 := n2_; have GW169 := n3_; have GE169 := n4_; have NB168_169 := n5_; have NB169_168 := n6_; clear n0_ n1_ n2_ n3_ n4_ n5_ n6_; clear hb hbox hg) | ((with_reducible refine gate_dst (N := 5) rfl ?_); refine box_event ?hg (N := 5) ?hd (cs := #[.int .i64 a2]) (t := 3) ?hr ?_; (case hd => rfl); (case hg => rfl); (case hr => first | (go_simp; done) | (go_simp; rfl)); intro gb170 hg w7 hbox hb; have n0_ := Aside0.mk (blk_below (g := gb168) (o := .cells #[.int .i64 a0] 2 (0, 0)) (by (with_reducible repeat (first | refine blk_drewN ?_ _ | refine blk_drew ?_ | refine blk_alloc ?_ _)); exact BK168.out) hb); have n1_ := Aside0.mk (blk_below (g := gb169) (o := .cells #[.int .i64 a1] 2 (0, 0)) (by (with_reducible repeat (first | refine blk_drewN ?_ _ | refine blk_drew ?_ | refine blk_alloc ?_ _)); exact BK169.out) hb); have n2_ := Aside0.mk (below_step (by repeat (first | (with_reducible first | exact HB.out | apply below_alloc | apply pw_below_drewN | apply below_drew1 | refine below_set ?_ GE168.out | refine below_set ?_ GE169.out) | exact HB.out)) hb); have n3_ := Aside0.mk (hbox); have n4_ := Aside0.mk ((by rw [hg]; exact (below_size (by repeat (first | (with_reducible first | exact HB.out | apply below_alloc | apply pw_below_drewN | apply below_drew1 | refine below_set ?_ GE168.out | refine below_set ?_ GE169.out) | exact HB.out))) : w.heap.size ≤ gb170)); have n5_ := Aside0.mk ((by rw [hg]; exact (below_size (by repeat (first | (with_reducible first | exact HB.out | apply below_alloc | apply pw_below_drewN | apply below_drew1 | refine below_set ?_ GE168.out | refine below_set ?_ GE169.out) | exact HB.out))) : w.heap.size ≤ gb170)); have n6_ := Aside0.mk ((by rw [hg]; exact Nat.ne_of_lt (blk_lt (g := gb168) (o := .cells #[.int .i64 a0] 2 (0, 0)) (by (with_reducible repeat (first | refine blk_drewN ?_ _ | refine blk_drew ?_ | refine blk_alloc ?_ _)); exact BK168.out)) : gb168 ≠ gb170)); have n7_ := Aside0.mk ((by rw [hg]; exact Nat.ne_of_gt (blk_lt (g := gb168) (o := .cells #[.int .i64 a0] 2 (0, 0)) (by (with_reducible repeat (first | refine blk_drewN ?_ _ | refine blk_drew ?_ | refine blk_alloc ?_ _)); exact BK168.out)) : gb170 ≠ gb168)); have n8_ := Aside0.mk ((by rw [hg]; exact Nat.ne_of_lt (blk_lt (g := gb169) (o := .cells #[.int .i64 a1] 2 (0, 0)) (by (with_reducible repeat (first | refine blk_drewN ?_ _ | refine blk_drew ?_ | refine blk_alloc ?_ _)); exact BK169.out)) : gb169 ≠ gb170)); have n9_ := Aside0.mk ((by rw [hg]; exact Nat.ne_of_gt (blk_lt (g := gb169) (o := .cells #[.int .i64 a1] 2 (0, 0)) (by (with_reducible repeat (first | refine blk_drewN ?_ _ | refine blk_drew ?_ | refine blk_alloc ?_ _)); exact BK169.out)) : gb170 ≠ gb169)); clear BK168; clear BK169; clear HB; have BK168 := n0_; have BK169 := n1_; have HB := n2_; have BK170 := n3_; have GW170 := n4_; have GE170 := n5_; have NB168_170 := n6_; have NB170_168 := n7_; have NB169_170 := n8_; have NB170_169 := n9_; clear n0_ n1_ n2_ n3_ n4_ n5_ n6_ n7_ n8_ n9_; clear hb hbox hg))
 (try simp only [Act.put, List.setIfInBounds_toArray, List.set_cons_zero, List.set_cons_succ])
 go_cut [21] (fun v21 wc => ∃ (kq : Nat) (x21_3 : Bool), v21 = .bool x21_3 ∧ Aside0 (sched_Level.j0 kq x21_3 a0 a1 a2 = some (r1, r2)) ∧ Aside0 (kq ≤ k) ∧ Aside0 (wc.heap[gb168]? = some (.cells #[.int .i64 a0] 2 (0, 0))) ∧ Aside0 (wc.heap[gb169]? = some (.cells #[.int .i64 a1] 2 (0, 0))) ∧ Aside0 (wc.heap[gb170]? = some (.cells #[.int .i64 a2] 3 (0, 0))) ∧ Aside0 (Below w.heap.size w wc))
 case first =>
  have H := HC4.out
  clear HC4
  replace H := Option.bind_eq_some_iff.mp H
  obtain ⟨t171, A80, H⟩ := H
  replace H : (if t171 = true then ((sched_may.f a1).bind fun t172 => (if t172 = true then ((sched_within_int.f a2 1 600).bind fun t173 => (sched_Level.j0 k (!t173) a0 a1 a2)) else (sched_Level.j0 k true a0 a1 a2))) else (sched_Level.j0 k true a0 a1 a2)) = some (r1, r2) := H
  have A8 := Aside0.mk A80
  clear A80
  by_cases c9 : t171 = true
  ·subst c9
   have H1 : ((sched_may.f a1).bind fun t172 => (if t172 = true then ((sched_within_int.f a2 1 600).bind fun t173 => (sched_Level.j0 k (!t173) a0 a1 a2)) else (sched_Level.j0 k true a0 a1 a2))) = some (r1, r2) := by rw [if_pos rfl] at H; exact H
   clear H
   have H := H1
   clear H1
   replace H := Option.bind_eq_some_iff.mp H
   obtain ⟨t172, A100, H⟩ := H
   replace H : (if t172 = true then ((sched_within_int.f a2 1 600).bind fun t173 => (sched_Level.j0 k (!t173) a0 a1 a2)) else (sched_Level.j0 k true a0 a1 a2)) = some (r1, r2) := H
   have A10 := Aside0.mk A100
   clear A100
   by_cases c11 : t172 = true
   ·subst c11
    have H1 : ((sched_within_int.f a2 1 600).bind fun t173 => (sched_Level.j0 k (!t173) a0 a1 a2)) = some (r1, r2) := by rw [if_pos rfl] at H; exact H
    clear H
    have H := H1
    clear H1
    replace H := Option.bind_eq_some_iff.mp H
    obtain ⟨t173, A120, H⟩ := H
    replace H : (sched_Level.j0 k (!t173) a0 a1 a2) = some (r1, r2) := H
    have A12 := Aside0.mk A120
    clear A120
    have H' := Aside0.mk H
    clear H
    have hnb13 := NB168_169.out
    have hnc13 := NB169_168.out
    have hnb14 := NB168_170.out
    have hnc14 := NB170_168.out
    have hcz15_0 := (blk_cell BK168.out 0).trans rfl
    have hfz15_0 := blk_frozen BK168.out 0
    go_wp2_with (first | ((with_reducible refine gate_callee (f := 34) rfl ?_); refine goesL_ (some 10) rfl rfl Try.func34 (by kernel_rfl) rfl #[.int .i64 a0, .int .i64 0, .int .i64 10000000000000] rfl (by (try simp only [List.map_toArray, List.map_cons, List.map_nil]); first | done | rfl | (simp only [List.length_drop, List.length_take]; rfl)) ?_; (with_reducible refine (sched_within_int64.calls a0 0 10000000000000 true _ A8.out).mono ?_); rintro e w' ⟨rfl, ⟨nd, rfl⟩⟩; refine ⟨_, rfl, ?_⟩; have hnb16 := NB169_170.out; have hnc16 := NB170_169.out; have hcz17_0 := (blk_cell BK169.out 0).trans rfl; have hfz17_0 := blk_frozen BK169.out 0) | (go_at_call 32; (with_reducible refine (sched_may.calls a1 true _ A10.out).mono ?_); rintro e w' ⟨rfl, ⟨nd, rfl⟩⟩; have hcz18_0 := (blk_cell BK170.out 0).trans rfl; have hfz18_0 := blk_frozen BK170.out 0) | (go_at_call 33; (with_reducible refine (sched_within_int.calls a2 1 600 t173 _ A12.out).mono ?_); rintro e w' ⟨rfl, ⟨nd, rfl⟩⟩))
    go_meet
    case rel => exact ⟨_, (!t173), (by first | rfl | (simp; done) | (simp [*]; done)), H', ⟨by first | omega | exact Nat.le_refl _⟩, ⟨by (with_reducible repeat (first | refine blk_drewN ?_ _ | refine blk_drew ?_ | refine blk_alloc ?_ _)); exact BK168.out⟩, ⟨by (with_reducible repeat (first | refine blk_drewN ?_ _ | refine blk_drew ?_ | refine blk_alloc ?_ _)); exact BK169.out⟩, ⟨by (with_reducible repeat (first | refine blk_drewN ?_ _ | refine blk_drew ?_ | refine blk_alloc ?_ _)); exact BK170.out⟩, ⟨by repeat (first | (with_reducible first | exact HB.out | apply below_alloc | apply pw_below_drewN | apply below_drew1 | refine below_set ?_ GE168.out | refine below_set ?_ GE169.out | refine below_set ?_ GE170.out) | exact HB.out)⟩⟩
   ·replace c11 := Bool.eq_false_iff.mpr c11
    subst c11
    have H1 : (sched_Level.j0 k true a0 a1 a2) = some (r1, r2) := by rw [if_neg (show ¬ (false = true) by decide)] at H; exact H
    clear H
    have H := H1
    clear H1
    have H' := Aside0.mk H
    clear H
    have hnb19 := NB168_169.out
    have hnc19 := NB169_168.out
    have hnb20 := NB168_170.out
    have hnc20 := NB170_168.out
    have hcz21_0 := (blk_cell BK168.out 0).trans rfl
    have hfz21_0 := blk_frozen BK168.out 0
    go_wp2_with (first | ((with_reducible refine gate_callee (f := 34) rfl ?_); refine goesL_ (some 10) rfl rfl Try.func34 (by kernel_rfl) rfl #[.int .i64 a0, .int .i64 0, .int .i64 10000000000000] rfl (by (try simp only [List.map_toArray, List.map_cons, List.map_nil]); first | done | rfl | (simp only [List.length_drop, List.length_take]; rfl)) ?_; (with_reducible refine (sched_within_int64.calls a0 0 10000000000000 true _ A8.out).mono ?_); rintro e w' ⟨rfl, ⟨nd, rfl⟩⟩; refine ⟨_, rfl, ?_⟩; have hnb22 := NB169_170.out; have hnc22 := NB170_169.out; have hcz23_0 := (blk_cell BK169.out 0).trans rfl; have hfz23_0 := blk_frozen BK169.out 0) | (go_at_call 32; (with_reducible refine (sched_may.calls a1 false _ A10.out).mono ?_); rintro e w' ⟨rfl, ⟨nd, rfl⟩⟩))
    go_meet
    case rel => exact ⟨_, (true), (by first | rfl | (simp; done) | (simp [*]; done)), H', ⟨by first | omega | exact Nat.le_refl _⟩, ⟨by (with_reducible repeat (first | refine blk_drewN ?_ _ | refine blk_drew ?_ | refine blk_alloc ?_ _)); exact BK168.out⟩, ⟨by (with_reducible repeat (first | refine blk_drewN ?_ _ | refine blk_drew ?_ | refine blk_alloc ?_ _)); exact BK169.out⟩, ⟨by (with_reducible repeat (first | refine blk_drewN ?_ _ | refine blk_drew ?_ | refine blk_alloc ?_ _)); exact BK170.out⟩, ⟨by repeat (first | (with_reducible first | exact HB.out | apply below_alloc | apply pw_below_drewN | apply below_drew1 | refine below_set ?_ GE168.out | refine below_set ?_ GE169.out | refine below_set ?_ GE170.out) | exact HB.out)⟩⟩
  ·replace c9 := Bool.eq_false_iff.mpr c9
   subst c9
   have H1 : (sched_Level.j0 k true a0 a1 a2) = some (r1, r2) := by rw [if_neg (show ¬ (false = true) by decide)] at H; exact H
   clear H
   have H := H1
   clear H1
   have H' := Aside0.mk H
   clear H
   have hnb24 := NB168_169.out
   have hnc24 := NB169_168.out
   have hnb25 := NB168_170.out
   have hnc25 := NB170_168.out
   have hcz26_0 := (blk_cell BK168.out 0).trans rfl
   have hfz26_0 := blk_frozen BK168.out 0
   go_wp2_with (first | ((with_reducible refine gate_callee (f := 34) rfl ?_); refine goesL_ (some 10) rfl rfl Try.func34 (by kernel_rfl) rfl #[.int .i64 a0, .int .i64 0, .int .i64 10000000000000] rfl (by (try simp only [List.map_toArray, List.map_cons, List.map_nil]); first | done | rfl | (simp only [List.length_drop, List.length_take]; rfl)) ?_; (with_reducible refine (sched_within_int64.calls a0 0 10000000000000 false _ A8.out).mono ?_); rintro e w' ⟨rfl, ⟨nd, rfl⟩⟩; refine ⟨_, rfl, ?_⟩))
   go_meet
   case rel => exact ⟨_, (true), (by first | rfl | (simp; done) | (simp [*]; done)), H', ⟨by first | omega | exact Nat.le_refl _⟩, ⟨by (with_reducible repeat (first | refine blk_drewN ?_ _ | refine blk_drew ?_ | refine blk_alloc ?_ _)); exact BK168.out⟩, ⟨by (with_reducible repeat (first | refine blk_drewN ?_ _ | refine blk_drew ?_ | refine blk_alloc ?_ _)); exact BK169.out⟩, ⟨by (with_reducible repeat (first | refine blk_drewN ?_ _ | refine blk_drew ?_ | refine blk_alloc ?_ _)); exact BK170.out⟩, ⟨by repeat (first | (with_reducible first | exact HB.out | apply below_alloc | apply pw_below_drewN | apply below_drew1 | refine below_set ?_ GE168.out | refine below_set ?_ GE169.out | refine below_set ?_ GE170.out) | exact HB.out)⟩⟩
 case rest =>
  clear HC4
  repeat first | clear c1 | clear c2 | clear p2 | clear c3 | clear c9 | clear c11 | clear c13 | clear c14 | clear c16 | clear c17 | clear c19 | clear c20 | clear c22 | clear c24 | clear c25 | clear hcz15_0 | clear hcz17_0 | clear hcz18_0 | clear hcz21_0 | clear hcz23_0 | clear hcz26_0 | clear hfz15_0 | clear hfz17_0 | clear hfz18_0 | clear hfz21_0 | clear hfz23_0 | clear hfz26_0
  obtain ⟨kq, x21_3, rfl, HA, HJ3, BK168, BK169, BK170, HB⟩ := hcut
  cases kq with
  | zero => exact absurd HA.out (by simp [sched_Level.j0])
  | succ kj3 =>
   have H := HA.out
   clear HA
   simp only [sched_Level.j0] at H
   by_cases c27 : x21_3 = true
   ·subst c27
    have H1 : (some (0, 2)) = some (r1, r2) := by rw [if_pos rfl] at H; exact H
    clear H
    have H := H1
    clear H1
    simp only [Option.some.injEq, Prod.mk.injEq] at H
    obtain ⟨rfl, rfl⟩ := H
    go_wp2
    go_ret2
    exact ⟨by first | rfl | (simp [errW_none, errW_some] <;> rfl) | (simp [*, errW_none, errW_some] <;> rfl), by repeat (first | (with_reducible first | exact HB.out | apply below_alloc | apply pw_below_drewN | apply below_drew1 | refine below_set ?_ GE168.out | refine below_set ?_ GE169.out | refine below_set ?_ GE170.out) | exact HB.out)⟩
   ·replace c27 := Bool.eq_false_iff.mpr c27
    subst c27
    have H1 : ((sched_Level_1.f kj3 a0 a1).bind fun t175 => ((sched_least_int64__sched_Level_2.f kj3 0 (wrap64 (a0 + t175)) a0 a2 a1).bind fun t176 => (some (t176, 0)))) = some (r1, r2) := by rw [if_neg (show ¬ (false = true) by decide)] at H; exact H
    clear H
    have H := H1
    clear H1
    replace H := Option.bind_eq_some_iff.mp H
    obtain ⟨t175, A280, H⟩ := H
    replace H : ((sched_least_int64__sched_Level_2.f kj3 0 (wrap64 (a0 + t175)) a0 a2 a1).bind fun t176 => (some (t176, 0))) = some (r1, r2) := H
    have A28 := Aside0.mk A280
    clear A280
    replace H := Option.bind_eq_some_iff.mp H
    obtain ⟨t176, A290, H⟩ := H
    replace H : (some (t176, 0)) = some (r1, r2) := H
    have A29 := Aside0.mk A290
    clear A290
    simp only [Option.some.injEq, Prod.mk.injEq] at H
    obtain ⟨rfl, rfl⟩ := H
    try go_wp2_with (first | ((with_reducible refine gate_dst (N := 8) rfl ?_); refine Go.Proofs.Ytchpeobenlnemaa.XWalk.alloc_store_event (N := 8) (T := 55) (z := .nilFunc) (v := .func (.func 36) #[] #[.pointer (some ⟨gb169, 0, none⟩)]) rfl rfl rfl rfl ?hr1 ?hr2 ?_; (case hr1 => first | (go_simp; done) | (go_simp; rfl)); (case hr2 => first | (go_simp; done) | (go_simp; rfl)); intro gb174 hg w30 hbox hb; have n0_ := Aside0.mk (blk_below (g := gb168) (o := .cells #[.int .i64 a0] 2 (0, 0)) (by (with_reducible repeat (first | refine blk_drewN ?_ _ | refine blk_drew ?_ | refine blk_alloc ?_ _)); exact BK168.out) hb); have n1_ := Aside0.mk (blk_below (g := gb169) (o := .cells #[.int .i64 a1] 2 (0, 0)) (by (with_reducible repeat (first | refine blk_drewN ?_ _ | refine blk_drew ?_ | refine blk_alloc ?_ _)); exact BK169.out) hb); have n2_ := Aside0.mk (blk_below (g := gb170) (o := .cells #[.int .i64 a2] 3 (0, 0)) (by (with_reducible repeat (first | refine blk_drewN ?_ _ | refine blk_drew ?_ | refine blk_alloc ?_ _)); exact BK170.out) hb); have n3_ := Aside0.mk (below_step (by repeat (first | (with_reducible first | exact HB.out | apply below_alloc | apply pw_below_drewN | apply below_drew1 | refine below_set ?_ GE168.out | refine below_set ?_ GE169.out | refine below_set ?_ GE170.out) | exact HB.out)) hb); have n4_ := Aside0.mk (hbox); have n5_ := Aside0.mk ((by rw [hg]; exact (below_size (by repeat (first | (with_reducible first | exact HB.out | apply below_alloc | apply pw_below_drewN | apply below_drew1 | refine below_set ?_ GE168.out | refine below_set ?_ GE169.out | refine below_set ?_ GE170.out) | exact HB.out))) : w.heap.size ≤ gb174)); have n6_ := Aside0.mk ((by rw [hg]; exact (below_size (by repeat (first | (with_reducible first | exact HB.out | apply below_alloc | apply pw_below_drewN | apply below_drew1 | refine below_set ?_ GE168.out | refine below_set ?_ GE169.out | refine below_set ?_ GE170.out) | exact HB.out))) : w.heap.size ≤ gb174)); have n7_ := Aside0.mk ((by rw [hg]; exact Nat.ne_of_lt (blk_lt (g := gb168) (o := .cells #[.int .i64 a0] 2 (0, 0)) (by (with_reducible repeat (first | refine blk_drewN ?_ _ | refine blk_drew ?_ | refine blk_alloc ?_ _)); exact BK168.out)) : gb168 ≠ gb174)); have n8_ := Aside0.mk ((by rw [hg]; exact Nat.ne_of_gt (blk_lt (g := gb168) (o := .cells #[.int .i64 a0] 2 (0, 0)) (by (with_reducible repeat (first | refine blk_drewN ?_ _ | refine blk_drew ?_ | refine blk_alloc ?_ _)); exact BK168.out)) : gb174 ≠ gb168)); have n9_ := Aside0.mk ((by rw [hg]; exact Nat.ne_of_lt (blk_lt (g := gb169) (o := .cells #[.int .i64 a1] 2 (0, 0)) (by (with_reducible repeat (first | refine blk_drewN ?_ _ | refine blk_drew ?_ | refine blk_alloc ?_ _)); exact BK169.out)) : gb169 ≠ gb174)); have n10_ := Aside0.mk ((by rw [hg]; exact Nat.ne_of_gt (blk_lt (g := gb169) (o := .cells #[.int .i64 a1] 2 (0, 0)) (by (with_reducible repeat (first | refine blk_drewN ?_ _ | refine blk_drew ?_ | refine blk_alloc ?_ _)); exact BK169.out)) : gb174 ≠ gb169)); have n11_ := Aside0.mk ((by rw [hg]; exact Nat.ne_of_lt (blk_lt (g := gb170) (o := .cells #[.int .i64 a2] 3 (0, 0)) (by (with_reducible repeat (first | refine blk_drewN ?_ _ | refine blk_drew ?_ | refine blk_alloc ?_ _)); exact BK170.out)) : gb170 ≠ gb174)); have n12_ := Aside0.mk ((by rw [hg]; exact Nat.ne_of_gt (blk_lt (g := gb170) (o := .cells #[.int .i64 a2] 3 (0, 0)) (by (with_reducible repeat (first | refine blk_drewN ?_ _ | refine blk_drew ?_ | refine blk_alloc ?_ _)); exact BK170.out)) : gb174 ≠ gb170)); clear BK168; clear BK169; clear BK170; clear HB; have BK168 := n0_; have BK169 := n1_; have BK170 := n2_; have HB := n3_; have BK174 := n4_; have GW174 := n5_; have GE174 := n6_; have NB168_174 := n7_; have NB174_168 := n8_; have NB169_174 := n9_; have NB174_169 := n10_; have NB170_174 := n11_; have NB174_170 := n12_; clear n0_ n1_ n2_ n3_ n4_ n5_ n6_ n7_ n8_ n9_ n10_ n11_ n12_; clear hb hbox hg))
    have n0_ := Aside0.mk (blk_drew BK168.out)
    have n1_ := Aside0.mk (blk_drew BK169.out)
    have n2_ := Aside0.mk (blk_drew BK170.out)
    have n3_ := Aside0.mk (blk_drew BK174.out)
    have n4_ := Aside0.mk (below_drew1 HB.out)
    clear BK168
    clear BK169
    clear BK170
    clear BK174
    clear HB
    have BK168 := n0_
    have BK169 := n1_
    have BK170 := n2_
    have BK174 := n3_
    have HB := n4_
    clear n0_ n1_ n2_ n3_ n4_
    have hnb32 := NB169_168.out
    have hnc32 := NB168_169.out
    have hnb33 := NB169_170.out
    have hnc33 := NB170_169.out
    have hnb34 := NB169_174.out
    have hnc34 := NB174_169.out
    have hcz35_0 := (blk_cell BK169.out 0).trans (show (#[Value.int .i64 a1] : Array Value)[0]? = some (Value.int .i64 a1) from rfl)
    have hfz35_0 := blk_frozen BK169.out 0
    refine start_ (n := 9) (S := fun w' => w'.cell? ⟨gb168, 0, none⟩ = some (.int .i64 a0) ∧ w'.cell? ⟨gb174, 0, none⟩ = some (.func (.func 36) #[] #[.pointer (some ⟨gb169, 0, none⟩)])) (ds := []) #[false, false, false, false, false, false, false, false, false] (by kernel_rfl) rfl rfl ⟨(blk_cell BK168.out 0).trans rfl, (blk_cell BK174.out 0).trans rfl⟩ (fun hHeld => ?_); refine with_tabW sched_Level.tab4 sched_Level.bits4 (fun HT_ HW_ => ?_)
    generalize w30.drew = w31 at BK168 BK169 BK170 BK174 HB hHeld ⊢
    refine pure_ (i := 5) (N := some 28) (v := ?_) (a' := ?_) #[false, false, false, false, false, true, false, false, false] rfl rfl (any_of HT_.out (by kernel_rfl)) (fun _ _ _ h => h) (Or.inl ⟨by rfl, ?_⟩) ?_ ?_
    rotate_left
    ·intro w'
     go_simp
     with_reducible rfl
    rotate_left
    ·simp only [Act.put, List.setIfInBounds_toArray, List.set_cons_zero, List.set_cons_succ, i64_w, i32_w]
     rfl
    refine take_ (i := 0) (N := some 23) (v := ?_) (a' := ?_) #[true, false, false, false, false, true, false, false, false] rfl rfl (take_ofW HT_.out HW_.out (by kernel_rfl)) (fun _ _ _ h => h) (Or.inl ⟨by rfl, ?_⟩) hHeld ?_ ?_
    rotate_left
    ·rintro w' ⟨s0, s1⟩
     go_simp
     with_reducible rfl
    rotate_left
    ·simp only [Act.put, List.setIfInBounds_toArray, List.set_cons_zero, List.set_cons_succ, i64_w, i32_w]
     rfl
    refine take_ (i := 1) (N := some 24) (v := ?_) (a' := ?_) #[true, true, false, false, false, true, false, false, false] rfl rfl (take_ofW HT_.out HW_.out (by kernel_rfl)) (fun _ _ _ h => h) (Or.inl ⟨by rfl, ?_⟩) hHeld ?_ ?_
    rotate_left
    ·rintro w' ⟨s0, s1⟩
     go_simp
     with_reducible rfl
    rotate_left
    ·simp only [Act.put, List.setIfInBounds_toArray, List.set_cons_zero, List.set_cons_succ, i64_w, i32_w]
     rfl
    refine take_ (i := 2) (N := some 25) (v := ?_) (a' := ?_) #[true, true, true, false, false, true, false, false, false] rfl rfl (take_ofW HT_.out HW_.out (by kernel_rfl)) (fun _ _ _ h => h) (Or.inl ⟨by rfl, ?_⟩) hHeld ?_ ?_
    rotate_left
    ·rintro w' ⟨s0, s1⟩
     go_simp
     with_reducible rfl
    rotate_left
    ·simp only [Act.put, List.setIfInBounds_toArray, List.set_cons_zero, List.set_cons_succ, i64_w, i32_w]
     rfl
    refine one_ (i := 3) (N := some 26) #[true, true, true, true, false, true, false, false, false] rfl rfl (one_of HT_.out (by kernel_rfl)) (by decide) (fun K hK => ?_)
    refine Go.Proofs.Ytchpeobenlnemaa.XWalk.goesV_ Try.func36 (by kernel_rfl) rfl #[.int .i64 a0, .pointer (some ⟨gb169, 0, none⟩)] (by rfl) rfl rfl rfl (by (try simp only [List.map_toArray, List.map_cons, List.map_nil]); first | done | rfl | (simp only [List.length_drop, List.length_take]; rfl)) ?_
    with_reducible refine (sched_Level_1.calls kj3 a0 gb169 a1 t175 _ ?side1 A28.out).mono ?_
    (case side1 => (with_reducible repeat (first | refine blk_drewN ?_ _ | refine blk_drew ?_ | refine blk_alloc ?_ _)); exact BK169.out)
    rintro e w36 ⟨rfl, hb⟩
    refine ⟨_, rfl, ?_⟩
    have n0_ := Aside0.mk (blk_below (g := gb168) (o := .cells #[.int .i64 a0] 2 (0, 0)) (by (with_reducible repeat (first | refine blk_drewN ?_ _ | refine blk_drew ?_ | refine blk_alloc ?_ _)); exact BK168.out) hb)
    have n1_ := Aside0.mk (blk_below (g := gb169) (o := .cells #[.int .i64 a1] 2 (0, 0)) (by (with_reducible repeat (first | refine blk_drewN ?_ _ | refine blk_drew ?_ | refine blk_alloc ?_ _)); exact BK169.out) hb)
    have n2_ := Aside0.mk (blk_below (g := gb170) (o := .cells #[.int .i64 a2] 3 (0, 0)) (by (with_reducible repeat (first | refine blk_drewN ?_ _ | refine blk_drew ?_ | refine blk_alloc ?_ _)); exact BK170.out) hb)
    have n3_ := Aside0.mk (blk_below (g := gb174) (o := .cells #[.func (.func 36) #[] #[.pointer (some ⟨gb169, 0, none⟩)]] 55 (0, 0)) (by (with_reducible repeat (first | refine blk_drewN ?_ _ | refine blk_drew ?_ | refine blk_alloc ?_ _)); exact BK174.out) hb)
    have n4_ := Aside0.mk (below_step (by repeat (first | (with_reducible first | exact HB.out | apply below_alloc | apply pw_below_drewN | apply below_drew1 | refine below_set ?_ GE168.out | refine below_set ?_ GE169.out | refine below_set ?_ GE170.out | refine below_set ?_ GE174.out) | exact HB.out)) hb)
    clear BK168
    clear BK169
    clear BK170
    clear BK174
    clear HB
    have BK168 := n0_
    have BK169 := n1_
    have BK170 := n2_
    have BK174 := n3_
    have HB := n4_
    clear n0_ n1_ n2_ n3_ n4_
    (try clear hb)
    (try clear hb2)
    (try clear hk)
    (try clear hi)
    have hnb37 := NB168_170.out
    have hnc37 := NB170_168.out
    have hnb38 := NB168_174.out
    have hnc38 := NB174_168.out
    have hcz39_0 := (blk_cell BK168.out 0).trans rfl
    have hfz39_0 := blk_frozen BK168.out 0
    have hnb40 := NB170_174.out
    have hnc40 := NB174_170.out
    have hcz41_0 := (blk_cell BK170.out 0).trans rfl
    have hfz41_0 := blk_frozen BK170.out 0
    have hcz42_0 := (blk_cell BK174.out 0).trans rfl
    have hfz42_0 := blk_frozen BK174.out 0
    have hcz43_0 := (blk_cell BK169.out 0).trans rfl
    have hfz43_0 := blk_frozen BK169.out 0
    refine hK.out _ _ ⟨(blk_cell BK168.out 0).trans rfl, (blk_cell BK174.out 0).trans rfl⟩ (fun hHeld => ?_)
    clear hK K
    refine norm_ (a' := ?_) ?_ ?_
    rotate_left
    ·show Act.put _ (some 26) _ = _
     simp only [Act.put, List.setIfInBounds_toArray, List.set_cons_zero, List.set_cons_succ, i64_w, i32_w]
     rfl
    refine pure_ (i := 4) (N := some 27) (v := ?_) (a' := ?_) #[true, true, true, true, true, true, false, false, false] rfl rfl (any_of HT_.out (by kernel_rfl)) (fun _ _ _ h => h) (Or.inl ⟨by rfl, ?_⟩) ?_ ?_
    rotate_left
    ·intro w'
     go_simp
     with_reducible rfl
    rotate_left
    ·simp only [Act.put, List.setIfInBounds_toArray, List.set_cons_zero, List.set_cons_succ, i64_w, i32_w]
     rfl
    refine one_ (i := 6) (N := some 29) #[true, true, true, true, true, true, true, false, false] rfl rfl (one_of HT_.out (by kernel_rfl)) (by decide) (fun K hK => ?_)
    refine goes_ Try.func37 (by kernel_rfl) rfl #[.int .i64 0, .int .i64 (wrap64 (a0 + t175)), .func (.func 38) #[] #[.pointer (some ⟨gb168, 0, none⟩), .pointer (some ⟨gb170, 0, none⟩), .pointer (some ⟨gb174, 0, none⟩)]] (by rfl) rfl rfl (by (try simp only [List.map_toArray, List.map_cons, List.map_nil]); first | done | rfl | (simp only [List.length_drop, List.length_take]; rfl)) ?_
    with_reducible refine (sched_least_int64__sched_Level_2.calls kj3 0 (wrap64 (a0 + t175)) gb168 a0 gb170 a2 gb174 gb169 a1 t176 _ ?side1 ?side2 ?side3 ?side4 A29.out).mono ?_
    (case side1 => (with_reducible repeat (first | refine blk_drewN ?_ _ | refine blk_drew ?_ | refine blk_alloc ?_ _)); exact BK168.out)
    (case side2 => (with_reducible repeat (first | refine blk_drewN ?_ _ | refine blk_drew ?_ | refine blk_alloc ?_ _)); exact BK170.out)
    (case side3 => (with_reducible repeat (first | refine blk_drewN ?_ _ | refine blk_drew ?_ | refine blk_alloc ?_ _)); exact BK174.out)
    (case side4 => (with_reducible repeat (first | refine blk_drewN ?_ _ | refine blk_drew ?_ | refine blk_alloc ?_ _)); exact BK169.out)
    rintro e w44 ⟨rfl, hb⟩
    refine ⟨_, rfl, ?_⟩
    have n0_ := Aside0.mk (blk_below (g := gb168) (o := .cells #[.int .i64 a0] 2 (0, 0)) (by (with_reducible repeat (first | refine blk_drewN ?_ _ | refine blk_drew ?_ | refine blk_alloc ?_ _)); exact BK168.out) hb)
    have n1_ := Aside0.mk (blk_below (g := gb169) (o := .cells #[.int .i64 a1] 2 (0, 0)) (by (with_reducible repeat (first | refine blk_drewN ?_ _ | refine blk_drew ?_ | refine blk_alloc ?_ _)); exact BK169.out) hb)
    have n2_ := Aside0.mk (blk_below (g := gb170) (o := .cells #[.int .i64 a2] 3 (0, 0)) (by (with_reducible repeat (first | refine blk_drewN ?_ _ | refine blk_drew ?_ | refine blk_alloc ?_ _)); exact BK170.out) hb)
    have n3_ := Aside0.mk (blk_below (g := gb174) (o := .cells #[.func (.func 36) #[] #[.pointer (some ⟨gb169, 0, none⟩)]] 55 (0, 0)) (by (with_reducible repeat (first | refine blk_drewN ?_ _ | refine blk_drew ?_ | refine blk_alloc ?_ _)); exact BK174.out) hb)
    have n4_ := Aside0.mk (below_step (by repeat (first | (with_reducible first | exact HB.out | apply below_alloc | apply pw_below_drewN | apply below_drew1 | refine below_set ?_ GE168.out | refine below_set ?_ GE169.out | refine below_set ?_ GE170.out | refine below_set ?_ GE174.out) | exact HB.out)) hb)
    clear BK168
    clear BK169
    clear BK170
    clear BK174
    clear HB
    have BK168 := n0_
    have BK169 := n1_
    have BK170 := n2_
    have BK174 := n3_
    have HB := n4_
    clear n0_ n1_ n2_ n3_ n4_
    (try clear hb)
    (try clear hb2)
    (try clear hk)
    (try clear hi)
    refine hK.out _ _ ⟨(blk_cell BK168.out 0).trans rfl, (blk_cell BK174.out 0).trans rfl⟩ (fun hHeld => ?_)
    clear hK K
    refine norm_ (a' := ?_) ?_ ?_
    rotate_left
    ·show Act.put _ (some 29) _ = _
     simp only [Act.put, List.setIfInBounds_toArray, List.set_cons_zero, List.set_cons_succ, i64_w, i32_w]
     rfl
    refine pure_ (i := 7) (N := some 6) (v := ?_) (a' := ?_) #[true, true, true, true, true, true, true, true, false] rfl rfl (any_of HT_.out (by kernel_rfl)) (fun _ _ _ h => h) (Or.inl ⟨by rfl, ?_⟩) ?_ ?_
    rotate_left
    ·intro w'
     go_simp
     with_reducible rfl
    rotate_left
    ·simp only [Act.put, List.setIfInBounds_toArray, List.set_cons_zero, List.set_cons_succ, i64_w, i32_w]
     rfl
    refine pure_ (i := 8) (N := some 7) (v := ?_) (a' := ?_) #[true, true, true, true, true, true, true, true, true] rfl rfl (any_of HT_.out (by kernel_rfl)) (fun _ _ _ h => h) (Or.inl ⟨by rfl, ?_⟩) ?_ ?_
    rotate_left
    ·intro w'
     go_simp
     with_reducible rfl
    rotate_left
    ·simp only [Act.put, List.setIfInBounds_toArray, List.set_cons_zero, List.set_cons_succ, i64_w, i32_w]
     rfl
    refine done_ (done_of HT_.out (by kernel_rfl)) ?_
    try go_wp2
    go_ret2
    exact ⟨by first | rfl | (simp [errW_none, errW_some] <;> rfl) | (simp [*, errW_none, errW_some] <;> rfl), by repeat (first | (with_reducible first | exact HB.out | apply below_alloc | apply pw_below_drewN | apply below_drew1 | refine below_set ?_ GE168.out | refine below_set ?_ GE169.out | refine below_set ?_ GE170.out | refine below_set ?_ GE174.out) | exact HB.out)⟩

end Go.Proofs.Ytchpeobenlnemaa.S
end

section
namespace Go.Proofs.Ytchpeobenlnemaa.S
open Go.RowKit Go.Proofs.YtchpeobenlnemaaW.PrintWords Go.Proofs.YtchpeobenlnemaaW.PrintLast Go.Proofs.YtchpeobenlnemaaW.PrintMore
attribute [local go_sem] max2_int min2_int max_two min_two max_three min_three max_four min_four   -- for this text's walks alone
attribute [local go_sem] Go.Proofs.Ytchpeobenlnemaa.XWalk.cell2
set_option linter.unusedVariables false
set_option linter.unusedSimpArgs false

/-! ### sched_Check_1: function 31 -/
def sched_Check_1.f (a0 : Int) : Option (Bool) := (sched_may.f a0).bind fun t102 => (some (!t102))
set_option maxHeartbeats 8000000 in
set_option maxRecDepth 100000 in
theorem sched_Check_1.calls (a0 : Int) (r : Bool) (w : World) (h : sched_Check_1.f a0 = some r) :
  Calls Try.prog 31 #[.int .i64 a0] w fun e w' => e = .returned (.bool r) ∧ Drawn0 w w' := by
 have H : ((sched_may.f a0).bind fun t102 => (some (!t102))) = some r := h
 clear h
 replace H := Option.bind_eq_some_iff.mp H
 obtain ⟨t102, A20, H⟩ := H
 replace H : (some (!t102)) = some r := H
 have A2 := Aside0.mk A20
 clear A20
 obtain rfl := Option.some.inj H
 go_enter Try.func31, Try.ntmps31
 go_wp2_with (first | ((with_reducible refine gate_callee (f := 32) rfl ?_); refine goesL_ (some 4) rfl rfl Try.func32 (by kernel_rfl) rfl #[.int .i64 a0] rfl (by (try simp only [List.map_toArray, List.map_cons, List.map_nil]); first | done | rfl | (simp only [List.length_drop, List.length_take]; rfl)) ?_; (with_reducible refine (sched_may.calls a0 t102 _ A2.out).mono ?_); rintro e w' ⟨rfl, ⟨nd, rfl⟩⟩; refine ⟨_, rfl, ?_⟩))
 go_ret
 exact ⟨by first | rfl | (simp; done) | (simp [*]; done), by repeat (first | exact Drawn0.refl _ | apply Drawn0.step)⟩

end Go.Proofs.Ytchpeobenlnemaa.S
end

section
namespace Go.Proofs.Ytchpeobenlnemaa.S
open Go.RowKit Go.Proofs.YtchpeobenlnemaaW.PrintWords Go.Proofs.YtchpeobenlnemaaW.PrintLast Go.Proofs.YtchpeobenlnemaaW.PrintMore
attribute [local go_sem] max2_int min2_int max_two min_two max_three min_three max_four min_four   -- for this text's walks alone
attribute [local go_sem] Go.Proofs.Ytchpeobenlnemaa.XWalk.cell2
set_option linter.unusedVariables false
set_option linter.unusedSimpArgs false

/-! ### slices_IndexFunc_int64_int64__sched_Check_1: function 49 -/
def slices_IndexFunc_int64_int64__sched_Check_1.l0 : Nat → List Int → Int → Int → Option (Int)
 | 0, _, _, _ => none
 | k + 1, x0, x7, x8 => if x8 < x7 then (if 0 ≤ x8 then (if x8 < (x0.length : Int) then ((sched_Check_1.f (rd x0 x8)).bind fun t109 => (if t109 = true then (some x8) else (slices_IndexFunc_int64_int64__sched_Check_1.l0 k x0 x7 (wrap64 (x8 + 1))))) else (none)) else (none)) else (some (-1))
def slices_IndexFunc_int64_int64__sched_Check_1.f (k : Nat) (l0 : List Int)  : Option (Int) := slices_IndexFunc_int64_int64__sched_Check_1.l0 k l0 (l0.length : Int) 0
set_option maxHeartbeats 8000000 in
set_option maxRecDepth 100000 in
theorem slices_IndexFunc_int64_int64__sched_Check_1.calls (k : Nat) (A0 : Option Addr) (c0 : Nat) (l0 : List Int)  (r : Int) (w : World) (hr0 : Kd.C (Kd.int .i64) w A0 l0.length l0) (hc0 : l0.length ≤ c0) (h : slices_IndexFunc_int64_int64__sched_Check_1.f k l0 = some r) :
  Calls Try.prog 49 #[.slice A0 l0.length c0, .func (.func 31) #[] #[]] w fun e w' => e = .returned (.int .i64 r) ∧ Below w.heap.size w w' := by
 have HR0 := Aside0.mk hr0
 have HC0 := Aside0.mk hc0
 clear hr0 hc0
 have HB := Aside0.mk (Below.refl w.heap.size w)
 have H : (slices_IndexFunc_int64_int64__sched_Check_1.l0 k l0 (l0.length : Int) 0) = some r := h
 clear h
 have H' := Aside0.mk H
 clear H
 go_enter Try.func49, Try.ntmps49
 go_wp2
 go_loopg [8] k (fun kq v8 w' => ∃ (x8_1 : Int), v8 = .int .i64 x8_1 ∧ Aside0 (slices_IndexFunc_int64_int64__sched_Check_1.l0 kq l0 (l0.length : Int) x8_1 = some r) ∧ Aside0 (kq ≤ k) ∧ Aside0 (Below w.heap.size w w'))
 case atStart => exact ⟨(0), (by first | rfl | (simp; done) | (simp [*]; done)), H', ⟨Nat.le_refl _⟩, ⟨by repeat (first | (with_reducible first | exact HB.out | apply below_alloc | apply pw_below_drewN | apply below_drew1) | exact HB.out)⟩⟩
 case round =>
  clear H'
  try clear p2
  obtain ⟨x8_1, rfl, HA, HK1, HB⟩ := hrel
  cases gk with
  | zero => exact absurd HA.out (by simp [slices_IndexFunc_int64_int64__sched_Check_1.l0])
  | succ k1 =>
   have H := HA.out
   clear HA
   simp only [slices_IndexFunc_int64_int64__sched_Check_1.l0] at H
   by_cases c3 : x8_1 < (l0.length : Int)
   ·rw [if_pos c3] at H
    have c3b0 : decide (x8_1 < (l0.length : Int)) = true := decide_eq_true c3
    clear c3
    by_cases c4 : 0 ≤ x8_1
    ·rw [if_pos c4] at H
     have c4b0 : decide (0 ≤ x8_1) = true := decide_eq_true c4
     clear c4
     by_cases c5 : x8_1 < (l0.length : Int)
     ·rw [if_pos c5] at H
      have c5b0 : decide (x8_1 < (l0.length : Int)) = true := decide_eq_true c5
      clear c5
      replace H := Option.bind_eq_some_iff.mp H
      obtain ⟨t109, A60, H⟩ := H
      replace H : (if t109 = true then (some x8_1) else (slices_IndexFunc_int64_int64__sched_Check_1.l0 k1 l0 (l0.length : Int) (wrap64 (x8_1 + 1)))) = some r := H
      have A6 := Aside0.mk A60
      clear A60
      by_cases c7 : t109 = true
      ·subst c7
       have H1 : (some x8_1) = some r := by rw [if_pos rfl] at H; exact H
       clear H
       have H := H1
       clear H1
       obtain rfl := Option.some.inj H
       have p108 : 0 ≤ (x8_1 : Int) := of_decide_eq_true (by first | (with_reducible assumption) | assumption)
       have q108 : x8_1 < (l0.length : Int) := of_decide_eq_true (by first | (with_reducible assumption) | assumption)
       obtain ⟨ad108, e108, hx108_0⟩ := Kd.at_int HR0.out x8_1 p108 q108
       cases e108
       try replace hx108_0 := (HB.out.cell (World.block_lt_of_cell? w _ hx108_0)).trans hx108_0
       replace p108 := eq_true p108
       replace q108 := eq_true q108
       go_wp2_with (first | (go_at_call 31; (with_reducible refine (sched_Check_1.calls (rd l0 x8_1) true _ A6.out).mono ?_); rintro e w' ⟨rfl, ⟨nd, rfl⟩⟩))
       go_ret
       exact ⟨by first | rfl | (simp [errW_none, errW_some] <;> rfl) | (simp [*, errW_none, errW_some] <;> rfl), by repeat (first | (with_reducible first | exact HB.out | apply below_alloc | apply pw_below_drewN | apply below_drew1) | exact HB.out)⟩
      ·replace c7 := Bool.eq_false_iff.mpr c7
       subst c7
       have H1 : (slices_IndexFunc_int64_int64__sched_Check_1.l0 k1 l0 (l0.length : Int) (wrap64 (x8_1 + 1))) = some r := by rw [if_neg (show ¬ (false = true) by decide)] at H; exact H
       clear H
       have H := H1
       clear H1
       have H' := Aside0.mk H
       clear H
       have p108 : 0 ≤ (x8_1 : Int) := of_decide_eq_true (by first | (with_reducible assumption) | assumption)
       have q108 : x8_1 < (l0.length : Int) := of_decide_eq_true (by first | (with_reducible assumption) | assumption)
       obtain ⟨ad108, e108, hx108_0⟩ := Kd.at_int HR0.out x8_1 p108 q108
       cases e108
       try replace hx108_0 := (HB.out.cell (World.block_lt_of_cell? w _ hx108_0)).trans hx108_0
       replace p108 := eq_true p108
       replace q108 := eq_true q108
       go_wp2_with (first | (go_at_call 31; (with_reducible refine (sched_Check_1.calls (rd l0 x8_1) false _ A6.out).mono ?_); rintro e w' ⟨rfl, ⟨nd, rfl⟩⟩))
       go_roundg k1
       case measure => have := HK1.out; omega
       case rel => exact ⟨(wrap64 (x8_1 + 1)), (by first | rfl | (simp; done) | (simp [*]; done)), H', ⟨by have := HK1.out; omega⟩, ⟨by repeat (first | (with_reducible first | exact HB.out | apply below_alloc | apply pw_below_drewN | apply below_drew1) | exact HB.out)⟩⟩
     ·rw [if_neg c5] at H
      exact absurd H (by simp)
    ·rw [if_neg c4] at H
     exact absurd H (by simp)
   ·rw [if_neg c3] at H
    have c3b0 : decide (x8_1 < (l0.length : Int)) = false := decide_eq_false c3
    clear c3
    obtain rfl := Option.some.inj H
    go_wp2
    go_ret
    exact ⟨by first | rfl | (simp [errW_none, errW_some] <;> rfl) | (simp [*, errW_none, errW_some] <;> rfl), by repeat (first | (with_reducible first | exact HB.out | apply below_alloc | apply pw_below_drewN | apply below_drew1) | exact HB.out)⟩

end Go.Proofs.Ytchpeobenlnemaa.S
end

section
namespace Go.Proofs.Ytchpeobenlnemaa.S
open Go.RowKit Go.Proofs.YtchpeobenlnemaaW.PrintWords Go.Proofs.YtchpeobenlnemaaW.PrintLast Go.Proofs.YtchpeobenlnemaaW.PrintMore
attribute [local go_sem] max2_int min2_int max_two min_two max_three min_three max_four min_four   -- for this text's walks alone
attribute [local go_sem] Go.Proofs.Ytchpeobenlnemaa.XWalk.cell2
set_option linter.unusedVariables false
set_option linter.unusedSimpArgs false

/-! ### slices_ContainsFunc_int64_int64__sched_Check_1: function 35 -/
def slices_ContainsFunc_int64_int64__sched_Check_1.f (k : Nat) (l0 : List Int)  : Option (Bool) := (slices_IndexFunc_int64_int64__sched_Check_1.f k l0).bind fun t110 => (some (decide (t110 ≥ 0)))
set_option maxHeartbeats 8000000 in
set_option maxRecDepth 100000 in
theorem slices_ContainsFunc_int64_int64__sched_Check_1.calls (k : Nat) (A0 : Option Addr) (c0 : Nat) (l0 : List Int)  (r : Bool) (w : World) (hr0 : Kd.C (Kd.int .i64) w A0 l0.length l0) (hc0 : l0.length ≤ c0) (h : slices_ContainsFunc_int64_int64__sched_Check_1.f k l0 = some r) :
  Calls Try.prog 35 #[.slice A0 l0.length c0, .func (.func 31) #[] #[]] w fun e w' => e = .returned (.bool r) ∧ Below w.heap.size w w' := by
 have HR0 := Aside0.mk hr0
 have HC0 := Aside0.mk hc0
 clear hr0 hc0
 have HB := Aside0.mk (Below.refl w.heap.size w)
 have H : ((slices_IndexFunc_int64_int64__sched_Check_1.f k l0).bind fun t110 => (some (decide (t110 ≥ 0)))) = some r := h
 clear h
 replace H := Option.bind_eq_some_iff.mp H
 obtain ⟨t110, A30, H⟩ := H
 replace H : (some (decide (t110 ≥ 0))) = some r := H
 have A3 := Aside0.mk A30
 clear A30
 obtain rfl := Option.some.inj H
 go_enter Try.func35, Try.ntmps35
 go_wp2_with (first | ((with_reducible refine gate_callee (f := 49) rfl ?_); refine goesL_ (some 7) rfl rfl Try.func49 (by kernel_rfl) rfl #[.slice A0 l0.length c0, .func (.func 31) #[] #[]] rfl (by (try simp only [List.map_toArray, List.map_cons, List.map_nil]); first | done | rfl | (simp only [List.length_drop, List.length_take]; rfl)) ?_; (with_reducible refine (slices_IndexFunc_int64_int64__sched_Check_1.calls k _ _ l0  t110 _ ?side1 ?side2 A3.out).mono ?_); (case side1 => repeat (first | exact HR0.out | (with_reducible refine Kd.C_alloc ?_ _) | (with_reducible refine Kd.C_drewN ?_ _) | (with_reducible refine Kd.C_drew ?_))); (case side2 => exact HC0.out); rintro e w4 ⟨rfl, hb⟩; refine ⟨_, rfl, ?_⟩; have n0_ := Aside0.mk (below_step (by repeat (first | (with_reducible first | exact HB.out | apply below_alloc | apply pw_below_drewN | apply below_drew1) | exact HB.out)) hb); clear HB; have HB := n0_; clear n0_; (try clear hb); (try clear hb2); (try clear hk); (try clear hi)))
 go_ret
 exact ⟨by first | rfl | (simp [errW_none, errW_some] <;> rfl) | (simp [*, errW_none, errW_some] <;> rfl), by repeat (first | (with_reducible first | exact HB.out | apply below_alloc | apply pw_below_drewN | apply below_drew1) | exact HB.out)⟩

end Go.Proofs.Ytchpeobenlnemaa.S
end

section
namespace Go.Proofs.Ytchpeobenlnemaa.S
open Go.RowKit Go.Proofs.YtchpeobenlnemaaW.PrintWords Go.Proofs.YtchpeobenlnemaaW.PrintLast Go.Proofs.YtchpeobenlnemaaW.PrintMore
attribute [local go_sem] max2_int min2_int max_two min_two max_three min_three max_four min_four   -- for this text's walks alone
attribute [local go_sem] Go.Proofs.Ytchpeobenlnemaa.XWalk.cell2
set_option linter.unusedVariables false
set_option linter.unusedSimpArgs false

/-! ### sched_Check: function 15 -/
def sched_Check.f (k : Nat) (a0_0 : Int) (a0_1 : Int) (l0_2 : List Int) (a0_3 : Int) : Option (Int) := (sched_within_int.f a0_0 1 4).bind fun t112 => (if t112 = true then ((sched_within_int64.f a0_1 1 10000000000000).bind fun t113 => (if t113 = true then ((sched_within_int.f a0_3 1 600).bind fun t114 => (if t114 = true then ((sched_within_int.f (l0_2.length : Int) 1 a0_3).bind fun t115 => (if t115 = true then ((slices_ContainsFunc_int64_int64__sched_Check_1.f k l0_2).bind fun t116 => (if t116 = true then (some 2) else (some 0))) else (some 2))) else (some 2))) else (some 2))) else (some 2))
set_option maxHeartbeats 8000000 in
set_option maxRecDepth 100000 in
theorem sched_Check.calls (k : Nat) (a0_0 : Int) (a0_1 : Int) (A0_2 : Option Addr) (c0_2 : Nat) (l0_2 : List Int) (a0_3 : Int) (r : Int) (w : World) (hr0_2 : Kd.C (Kd.int .i64) w A0_2 l0_2.length l0_2) (hc0_2 : l0_2.length ≤ c0_2) (h : sched_Check.f k a0_0 a0_1 l0_2 a0_3 = some r) :
  Calls Try.prog 15 #[.agg #[.int .i64 a0_0, .int .i64 a0_1, .slice A0_2 l0_2.length c0_2, .int .i64 a0_3]] w fun e w' => e = .returned (.int .i64 r) ∧ Below w.heap.size w w' := by
 have hu27 := Try.underlying27
 have HR0_2 := Aside0.mk hr0_2
 have HC0_2 := Aside0.mk hc0_2
 clear hr0_2 hc0_2
 have HB := Aside0.mk (Below.refl w.heap.size w)
 have H : ((sched_within_int.f a0_0 1 4).bind fun t112 => (if t112 = true then ((sched_within_int64.f a0_1 1 10000000000000).bind fun t113 => (if t113 = true then ((sched_within_int.f a0_3 1 600).bind fun t114 => (if t114 = true then ((sched_within_int.f (l0_2.length : Int) 1 a0_3).bind fun t115 => (if t115 = true then ((slices_ContainsFunc_int64_int64__sched_Check_1.f k l0_2).bind fun t116 => (if t116 = true then (some 2) else (some 0))) else (some 2))) else (some 2))) else (some 2))) else (some 2))) = some r := h
 clear h
 have HC2 := Aside0.mk H
 clear H
 go_enter Try.func15, Try.ntmps15
 go_upto_region 2 with (first | ((with_reducible refine gate_dst (N := 1) rfl ?_); (try (refine gate_guard (by rfl) ?_; dsimp only)); refine box_event ?hg (N := 1) ?hd (cs := #[.int .i64 a0_0, .int .i64 a0_1, .slice A0_2 l0_2.length c0_2, .int .i64 a0_3]) (t := 27) ?hr ?_; (case hd => rfl); (case hg => rfl); (case hr => first | (go_simp; done) | (go_simp; rfl)); intro gb111 hg w3 hbox hb; have n0_ := Aside0.mk (below_step (by repeat (first | (with_reducible first | exact HB.out | apply below_alloc | apply pw_below_drewN | apply below_drew1) | exact HB.out)) hb); have n1_ := Aside0.mk (hbox); have n2_ := Aside0.mk ((by rw [hg]; exact (below_size (by repeat (first | (with_reducible first | exact HB.out | apply below_alloc | apply pw_below_drewN | apply below_drew1) | exact HB.out))) : w.heap.size ≤ gb111)); have n3_ := Aside0.mk ((by rw [hg]; exact (below_size (by repeat (first | (with_reducible first | exact HB.out | apply below_alloc | apply pw_below_drewN | apply below_drew1) | exact HB.out))) : w.heap.size ≤ gb111)); clear HB; have HB := n0_; have BK111 := n1_; have GW111 := n2_; have GE111 := n3_; clear n0_ n1_ n2_ n3_; clear hb hbox hg))
 have H := HC2.out
 clear HC2
 replace H := Option.bind_eq_some_iff.mp H
 obtain ⟨t112, A40, H⟩ := H
 replace H : (if t112 = true then ((sched_within_int64.f a0_1 1 10000000000000).bind fun t113 => (if t113 = true then ((sched_within_int.f a0_3 1 600).bind fun t114 => (if t114 = true then ((sched_within_int.f (l0_2.length : Int) 1 a0_3).bind fun t115 => (if t115 = true then ((slices_ContainsFunc_int64_int64__sched_Check_1.f k l0_2).bind fun t116 => (if t116 = true then (some 2) else (some 0))) else (some 2))) else (some 2))) else (some 2))) else (some 2)) = some r := H
 have A4 := Aside0.mk A40
 clear A40
 by_cases c5 : t112 = true
 ·subst c5
  have H1 : ((sched_within_int64.f a0_1 1 10000000000000).bind fun t113 => (if t113 = true then ((sched_within_int.f a0_3 1 600).bind fun t114 => (if t114 = true then ((sched_within_int.f (l0_2.length : Int) 1 a0_3).bind fun t115 => (if t115 = true then ((slices_ContainsFunc_int64_int64__sched_Check_1.f k l0_2).bind fun t116 => (if t116 = true then (some 2) else (some 0))) else (some 2))) else (some 2))) else (some 2))) = some r := by rw [if_pos rfl] at H; exact H
  clear H
  have H := H1
  clear H1
  replace H := Option.bind_eq_some_iff.mp H
  obtain ⟨t113, A60, H⟩ := H
  replace H : (if t113 = true then ((sched_within_int.f a0_3 1 600).bind fun t114 => (if t114 = true then ((sched_within_int.f (l0_2.length : Int) 1 a0_3).bind fun t115 => (if t115 = true then ((slices_ContainsFunc_int64_int64__sched_Check_1.f k l0_2).bind fun t116 => (if t116 = true then (some 2) else (some 0))) else (some 2))) else (some 2))) else (some 2)) = some r := H
  have A6 := Aside0.mk A60
  clear A60
  by_cases c7 : t113 = true
  ·subst c7
   have H1 : ((sched_within_int.f a0_3 1 600).bind fun t114 => (if t114 = true then ((sched_within_int.f (l0_2.length : Int) 1 a0_3).bind fun t115 => (if t115 = true then ((slices_ContainsFunc_int64_int64__sched_Check_1.f k l0_2).bind fun t116 => (if t116 = true then (some 2) else (some 0))) else (some 2))) else (some 2))) = some r := by rw [if_pos rfl] at H; exact H
   clear H
   have H := H1
   clear H1
   replace H := Option.bind_eq_some_iff.mp H
   obtain ⟨t114, A80, H⟩ := H
   replace H : (if t114 = true then ((sched_within_int.f (l0_2.length : Int) 1 a0_3).bind fun t115 => (if t115 = true then ((slices_ContainsFunc_int64_int64__sched_Check_1.f k l0_2).bind fun t116 => (if t116 = true then (some 2) else (some 0))) else (some 2))) else (some 2)) = some r := H
   have A8 := Aside0.mk A80
   clear A80
   by_cases c9 : t114 = true
   ·subst c9
    have H1 : ((sched_within_int.f (l0_2.length : Int) 1 a0_3).bind fun t115 => (if t115 = true then ((slices_ContainsFunc_int64_int64__sched_Check_1.f k l0_2).bind fun t116 => (if t116 = true then (some 2) else (some 0))) else (some 2))) = some r := by rw [if_pos rfl] at H; exact H
    clear H
    have H := H1
    clear H1
    replace H := Option.bind_eq_some_iff.mp H
    obtain ⟨t115, A100, H⟩ := H
    replace H : (if t115 = true then ((slices_ContainsFunc_int64_int64__sched_Check_1.f k l0_2).bind fun t116 => (if t116 = true then (some 2) else (some 0))) else (some 2)) = some r := H
    have A10 := Aside0.mk A100
    clear A100
    by_cases c11 : t115 = true
    ·subst c11
     have H1 : ((slices_ContainsFunc_int64_int64__sched_Check_1.f k l0_2).bind fun t116 => (if t116 = true then (some 2) else (some 0))) = some r := by rw [if_pos rfl] at H; exact H
     clear H
     have H := H1
     clear H1
     replace H := Option.bind_eq_some_iff.mp H
     obtain ⟨t116, A120, H⟩ := H
     replace H : (if t116 = true then (some 2) else (some 0)) = some r := H
     have A12 := Aside0.mk A120
     clear A120
     by_cases c13 : t116 = true
     ·subst c13
      have H1 : (some 2) = some r := by rw [if_pos rfl] at H; exact H
      clear H
      have H := H1
      clear H1
      obtain rfl := Option.some.inj H
      have hcz14_0 := (blk_cell BK111.out 0).trans rfl
      have hcz14_1 := (blk_cell BK111.out 1).trans rfl
      have hcz14_2 := (blk_cell BK111.out 2).trans rfl
      have hcz14_3 := (blk_cell BK111.out 3).trans rfl
      have hfz14_0 := blk_frozen BK111.out 0
      have hfz14_1 := blk_frozen BK111.out 1
      have hfz14_2 := blk_frozen BK111.out 2
      have hfz14_3 := blk_frozen BK111.out 3
      go_wp2_with (first | ((with_reducible refine gate_callee (f := 33) rfl ?_); refine goesL_ (some 6) rfl rfl Try.func33 (by kernel_rfl) rfl #[.int .i64 a0_0, .int .i64 1, .int .i64 4] rfl (by (try simp only [List.map_toArray, List.map_cons, List.map_nil]); first | done | rfl | (simp only [List.length_drop, List.length_take]; rfl)) ?_; (with_reducible refine (sched_within_int.calls a0_0 1 4 true _ A4.out).mono ?_); rintro e w' ⟨rfl, ⟨nd, rfl⟩⟩; refine ⟨_, rfl, ?_⟩) | (go_at_call 34; (with_reducible refine (sched_within_int64.calls a0_1 1 10000000000000 true _ A6.out).mono ?_); rintro e w' ⟨rfl, ⟨nd, rfl⟩⟩) | (go_at_call 33; (with_reducible refine (sched_within_int.calls a0_3 1 600 true _ A8.out).mono ?_); rintro e w' ⟨rfl, ⟨nd, rfl⟩⟩) | (go_at_call 33; (with_reducible refine (sched_within_int.calls (l0_2.length : Int) 1 a0_3 true _ A10.out).mono ?_); rintro e w' ⟨rfl, ⟨nd, rfl⟩⟩) | (go_at_call 35; (with_reducible refine (slices_ContainsFunc_int64_int64__sched_Check_1.calls k _ _ l0_2  true _ ?side1 ?side2 A12.out).mono ?_); (case side1 => repeat (first | exact (Kd.C_below HR0_2.out (by repeat (first | (with_reducible first | exact HB.out | apply below_alloc | apply pw_below_drewN | apply below_drew1 | refine below_set ?_ GE111.out) | exact HB.out))) | (with_reducible refine Kd.C_alloc ?_ _) | (with_reducible refine Kd.C_drewN ?_ _) | (with_reducible refine Kd.C_drew ?_))); (case side2 => exact HC0_2.out); rintro e w15 ⟨rfl, hb⟩; have n0_ := Aside0.mk (blk_below (g := gb111) (o := .cells #[.int .i64 a0_0, .int .i64 a0_1, .slice A0_2 l0_2.length c0_2, .int .i64 a0_3] 27 (0, 0)) (by (with_reducible repeat (first | refine blk_drewN ?_ _ | refine blk_drew ?_ | refine blk_alloc ?_ _)); exact BK111.out) hb); have n1_ := Aside0.mk (below_step (by repeat (first | (with_reducible first | exact HB.out | apply below_alloc | apply pw_below_drewN | apply below_drew1 | refine below_set ?_ GE111.out) | exact HB.out)) hb); clear BK111; clear HB; have BK111 := n0_; have HB := n1_; clear n0_ n1_; (try clear hb); (try clear hb2); (try clear hk); (try clear hi)))
      go_ret
      exact ⟨by first | rfl | (simp [errW_none, errW_some] <;> rfl) | (simp [*, errW_none, errW_some] <;> rfl), by repeat (first | (with_reducible first | exact HB.out | apply below_alloc | apply pw_below_drewN | apply below_drew1 | refine below_set ?_ GE111.out) | exact HB.out)⟩
     ·replace c13 := Bool.eq_false_iff.mpr c13
      subst c13
      have H1 : (some 0) = some r := by rw [if_neg (show ¬ (false = true) by decide)] at H; exact H
      clear H
      have H := H1
      clear H1
      obtain rfl := Option.some.inj H
      have hcz16_0 := (blk_cell BK111.out 0).trans rfl
      have hcz16_1 := (blk_cell BK111.out 1).trans rfl
      have hcz16_2 := (blk_cell BK111.out 2).trans rfl
      have hcz16_3 := (blk_cell BK111.out 3).trans rfl
      have hfz16_0 := blk_frozen BK111.out 0
      have hfz16_1 := blk_frozen BK111.out 1
      have hfz16_2 := blk_frozen BK111.out 2
      have hfz16_3 := blk_frozen BK111.out 3
      go_wp2_with (first | ((with_reducible refine gate_callee (f := 33) rfl ?_); refine goesL_ (some 6) rfl rfl Try.func33 (by kernel_rfl) rfl #[.int .i64 a0_0, .int .i64 1, .int .i64 4] rfl (by (try simp only [List.map_toArray, List.map_cons, List.map_nil]); first | done | rfl | (simp only [List.length_drop, List.length_take]; rfl)) ?_; (with_reducible refine (sched_within_int.calls a0_0 1 4 true _ A4.out).mono ?_); rintro e w' ⟨rfl, ⟨nd, rfl⟩⟩; refine ⟨_, rfl, ?_⟩) | (go_at_call 34; (with_reducible refine (sched_within_int64.calls a0_1 1 10000000000000 true _ A6.out).mono ?_); rintro e w' ⟨rfl, ⟨nd, rfl⟩⟩) | (go_at_call 33; (with_reducible refine (sched_within_int.calls a0_3 1 600 true _ A8.out).mono ?_); rintro e w' ⟨rfl, ⟨nd, rfl⟩⟩) | (go_at_call 33; (with_reducible refine (sched_within_int.calls (l0_2.length : Int) 1 a0_3 true _ A10.out).mono ?_); rintro e w' ⟨rfl, ⟨nd, rfl⟩⟩) | (go_at_call 35; (with_reducible refine (slices_ContainsFunc_int64_int64__sched_Check_1.calls k _ _ l0_2  false _ ?side1 ?side2 A12.out).mono ?_); (case side1 => repeat (first | exact (Kd.C_below HR0_2.out (by repeat (first | (with_reducible first | exact HB.out | apply below_alloc | apply pw_below_drewN | apply below_drew1 | refine below_set ?_ GE111.out) | exact HB.out))) | (with_reducible refine Kd.C_alloc ?_ _) | (with_reducible refine Kd.C_drewN ?_ _) | (with_reducible refine Kd.C_drew ?_))); (case side2 => exact HC0_2.out); rintro e w17 ⟨rfl, hb⟩; have n0_ := Aside0.mk (blk_below (g := gb111) (o := .cells #[.int .i64 a0_0, .int .i64 a0_1, .slice A0_2 l0_2.length c0_2, .int .i64 a0_3] 27 (0, 0)) (by (with_reducible repeat (first | refine blk_drewN ?_ _ | refine blk_drew ?_ | refine blk_alloc ?_ _)); exact BK111.out) hb); have n1_ := Aside0.mk (below_step (by repeat (first | (with_reducible first | exact HB.out | apply below_alloc | apply pw_below_drewN | apply below_drew1 | refine below_set ?_ GE111.out) | exact HB.out)) hb); clear BK111; clear HB; have BK111 := n0_; have HB := n1_; clear n0_ n1_; (try clear hb); (try clear hb2); (try clear hk); (try clear hi)))
      go_ret
      exact ⟨by first | rfl | (simp [errW_none, errW_some] <;> rfl) | (simp [*, errW_none, errW_some] <;> rfl), by repeat (first | (with_reducible first | exact HB.out | apply below_alloc | apply pw_below_drewN | apply below_drew1 | refine below_set ?_ GE111.out) | exact HB.out)⟩
    ·replace c11 := Bool.eq_false_iff.mpr c11
     subst c11
     have H1 : (some 2) = some r := by rw [if_neg (show ¬ (false = true) by decide)] at H; exact H
     clear H
     have H := H1
     clear H1
     obtain rfl := Option.some.inj H
     have hcz18_0 := (blk_cell BK111.out 0).trans rfl
     have hcz18_1 := (blk_cell BK111.out 1).trans rfl
     have hcz18_2 := (blk_cell BK111.out 2).trans rfl
     have hcz18_3 := (blk_cell BK111.out 3).trans rfl
     have hfz18_0 := blk_frozen BK111.out 0
     have hfz18_1 := blk_frozen BK111.out 1
     have hfz18_2 := blk_frozen BK111.out 2
     have hfz18_3 := blk_frozen BK111.out 3
     go_wp2_with (first | ((with_reducible refine gate_callee (f := 33) rfl ?_); refine goesL_ (some 6) rfl rfl Try.func33 (by kernel_rfl) rfl #[.int .i64 a0_0, .int .i64 1, .int .i64 4] rfl (by (try simp only [List.map_toArray, List.map_cons, List.map_nil]); first | done | rfl | (simp only [List.length_drop, List.length_take]; rfl)) ?_; (with_reducible refine (sched_within_int.calls a0_0 1 4 true _ A4.out).mono ?_); rintro e w' ⟨rfl, ⟨nd, rfl⟩⟩; refine ⟨_, rfl, ?_⟩) | (go_at_call 34; (with_reducible refine (sched_within_int64.calls a0_1 1 10000000000000 true _ A6.out).mono ?_); rintro e w' ⟨rfl, ⟨nd, rfl⟩⟩) | (go_at_call 33; (with_reducible refine (sched_within_int.calls a0_3 1 600 true _ A8.out).mono ?_); rintro e w' ⟨rfl, ⟨nd, rfl⟩⟩) | (go_at_call 33; (with_reducible refine (sched_within_int.calls (l0_2.length : Int) 1 a0_3 false _ A10.out).mono ?_); rintro e w' ⟨rfl, ⟨nd, rfl⟩⟩))
     go_ret
     exact ⟨by first | rfl | (simp [errW_none, errW_some] <;> rfl) | (simp [*, errW_none, errW_some] <;> rfl), by repeat (first | (with_reducible first | exact HB.out | apply below_alloc | apply pw_below_drewN | apply below_drew1 | refine below_set ?_ GE111.out) | exact HB.out)⟩
   ·replace c9 := Bool.eq_false_iff.mpr c9
    subst c9
    have H1 : (some 2) = some r := by rw [if_neg (show ¬ (false = true) by decide)] at H; exact H
    clear H
    have H := H1
    clear H1
    obtain rfl := Option.some.inj H
    have hcz19_0 := (blk_cell BK111.out 0).trans rfl
    have hcz19_1 := (blk_cell BK111.out 1).trans rfl
    have hcz19_2 := (blk_cell BK111.out 2).trans rfl
    have hcz19_3 := (blk_cell BK111.out 3).trans rfl
    have hfz19_0 := blk_frozen BK111.out 0
    have hfz19_1 := blk_frozen BK111.out 1
    have hfz19_2 := blk_frozen BK111.out 2
    have hfz19_3 := blk_frozen BK111.out 3
    go_wp2_with (first | ((with_reducible refine gate_callee (f := 33) rfl ?_); refine goesL_ (some 6) rfl rfl Try.func33 (by kernel_rfl) rfl #[.int .i64 a0_0, .int .i64 1, .int .i64 4] rfl (by (try simp only [List.map_toArray, List.map_cons, List.map_nil]); first | done | rfl | (simp only [List.length_drop, List.length_take]; rfl)) ?_; (with_reducible refine (sched_within_int.calls a0_0 1 4 true _ A4.out).mono ?_); rintro e w' ⟨rfl, ⟨nd, rfl⟩⟩; refine ⟨_, rfl, ?_⟩) | (go_at_call 34; (with_reducible refine (sched_within_int64.calls a0_1 1 10000000000000 true _ A6.out).mono ?_); rintro e w' ⟨rfl, ⟨nd, rfl⟩⟩) | (go_at_call 33; (with_reducible refine (sched_within_int.calls a0_3 1 600 false _ A8.out).mono ?_); rintro e w' ⟨rfl, ⟨nd, rfl⟩⟩))
    go_ret
    exact ⟨by first | rfl | (simp [errW_none, errW_some] <;> rfl) | (simp [*, errW_none, errW_some] <;> rfl), by repeat (first | (with_reducible first | exact HB.out | apply below_alloc | apply pw_below_drewN | apply below_drew1 | refine below_set ?_ GE111.out) | exact HB.out)⟩
  ·replace c7 := Bool.eq_false_iff.mpr c7
   subst c7
   have H1 : (some 2) = some r := by rw [if_neg (show ¬ (false = true) by decide)] at H; exact H
   clear H
   have H := H1
   clear H1
   obtain rfl := Option.some.inj H
   have hcz20_0 := (blk_cell BK111.out 0).trans rfl
   have hcz20_1 := (blk_cell BK111.out 1).trans rfl
   have hcz20_2 := (blk_cell BK111.out 2).trans rfl
   have hcz20_3 := (blk_cell BK111.out 3).trans rfl
   have hfz20_0 := blk_frozen BK111.out 0
   have hfz20_1 := blk_frozen BK111.out 1
   have hfz20_2 := blk_frozen BK111.out 2
   have hfz20_3 := blk_frozen BK111.out 3
   go_wp2_with (first | ((with_reducible refine gate_callee (f := 33) rfl ?_); refine goesL_ (some 6) rfl rfl Try.func33 (by kernel_rfl) rfl #[.int .i64 a0_0, .int .i64 1, .int .i64 4] rfl (by (try simp only [List.map_toArray, List.map_cons, List.map_nil]); first | done | rfl | (simp only [List.length_drop, List.length_take]; rfl)) ?_; (with_reducible refine (sched_within_int.calls a0_0 1 4 true _ A4.out).mono ?_); rintro e w' ⟨rfl, ⟨nd, rfl⟩⟩; refine ⟨_, rfl, ?_⟩) | (go_at_call 34; (with_reducible refine (sched_within_int64.calls a0_1 1 10000000000000 false _ A6.out).mono ?_); rintro e w' ⟨rfl, ⟨nd, rfl⟩⟩))
   go_ret
   exact ⟨by first | rfl | (simp [errW_none, errW_some] <;> rfl) | (simp [*, errW_none, errW_some] <;> rfl), by repeat (first | (with_reducible first | exact HB.out | apply below_alloc | apply pw_below_drewN | apply below_drew1 | refine below_set ?_ GE111.out) | exact HB.out)⟩
 ·replace c5 := Bool.eq_false_iff.mpr c5
  subst c5
  have H1 : (some 2) = some r := by rw [if_neg (show ¬ (false = true) by decide)] at H; exact H
  clear H
  have H := H1
  clear H1
  obtain rfl := Option.some.inj H
  have hcz21_0 := (blk_cell BK111.out 0).trans rfl
  have hcz21_1 := (blk_cell BK111.out 1).trans rfl
  have hcz21_2 := (blk_cell BK111.out 2).trans rfl
  have hcz21_3 := (blk_cell BK111.out 3).trans rfl
  have hfz21_0 := blk_frozen BK111.out 0
  have hfz21_1 := blk_frozen BK111.out 1
  have hfz21_2 := blk_frozen BK111.out 2
  have hfz21_3 := blk_frozen BK111.out 3
  go_wp2_with (first | ((with_reducible refine gate_callee (f := 33) rfl ?_); refine goesL_ (some 6) rfl rfl Try.func33 (by kernel_rfl) rfl #[.int .i64 a0_0, .int .i64 1, .int .i64 4] rfl (by (try simp only [List.map_toArray, List.map_cons, List.map_nil]); first | done | rfl | (simp only [List.length_drop, List.length_take]; rfl)) ?_; (with_reducible refine (sched_within_int.calls a0_0 1 4 false _ A4.out).mono ?_); rintro e w' ⟨rfl, ⟨nd, rfl⟩⟩; refine ⟨_, rfl, ?_⟩))
  go_ret
  exact ⟨by first | rfl | (simp [errW_none, errW_some] <;> rfl) | (simp [*, errW_none, errW_some] <;> rfl), by repeat (first | (with_reducible first | exact HB.out | apply below_alloc | apply pw_below_drewN | apply below_drew1 | refine below_set ?_ GE111.out) | exact HB.out)⟩

end Go.Proofs.Ytchpeobenlnemaa.S
end

section
namespace Go.Proofs.Ytchpeobenlnemaa.S
open Go.RowKit Go.Proofs.YtchpeobenlnemaaW.PrintWords Go.Proofs.YtchpeobenlnemaaW.PrintLast Go.Proofs.YtchpeobenlnemaaW.PrintMore
attribute [local go_sem] max2_int min2_int max_two min_two max_three min_three max_four min_four   -- for this text's walks alone
attribute [local go_sem] Go.Proofs.Ytchpeobenlnemaa.XWalk.cell2
set_option linter.unusedVariables false
set_option linter.unusedSimpArgs false

/-! ### math_bits_Mul: function 45 -/
def math_bits_Mul.f (a0 : Int) (a1 : Int) : Option (Int × Int) := (math_bits_Mul64.f a0 a1).bind fun bt192 => (some (bt192.1, bt192.2))
set_option maxHeartbeats 8000000 in
set_option maxRecDepth 100000 in
theorem math_bits_Mul.calls (a0 : Int) (a1 : Int) (r1 : Int) (r2 : Int) (w : World) (h : math_bits_Mul.f a0 a1 = some (r1, r2)) :
  Calls Try.prog 45 #[.int .u64 a0, .int .u64 a1] w fun e w' => e = .returned (.tuple #[.int .u64 r1, .int .u64 r2]) ∧ Drawn0 w w' := by
 have H : ((math_bits_Mul64.f a0 a1).bind fun bt192 => (some (bt192.1, bt192.2))) = some (r1, r2) := h
 clear h
 replace H := Option.bind_eq_some_iff.mp H
 obtain ⟨⟨t192, t193⟩, A30, H⟩ := H
 replace H : (some (t192, t193)) = some (r1, r2) := H
 have A3 := Aside0.mk A30
 clear A30
 simp only [Option.some.injEq, Prod.mk.injEq] at H
 obtain ⟨rfl, rfl⟩ := H
 go_enter Try.func45, Try.ntmps45
 go_wp2_with (first | ((with_reducible refine gate_callee (f := 42) rfl ?_); refine goesL_ (some 25) rfl rfl Try.func42 (by kernel_rfl) rfl #[.int .u64 a0, .int .u64 a1] rfl (by (try simp only [List.map_toArray, List.map_cons, List.map_nil]); first | done | rfl | (simp only [List.length_drop, List.length_take]; rfl)) ?_; (with_reducible refine (math_bits_Mul64.calls a0 a1 t192 t193 _ A3.out).mono ?_); rintro e w' ⟨rfl, ⟨nd, rfl⟩⟩; refine ⟨_, rfl, ?_⟩))
 go_ret2
 exact ⟨by first | rfl | (simp; done) | (simp [*]; done), by repeat (first | exact Drawn0.refl _ | apply Drawn0.step)⟩

end Go.Proofs.Ytchpeobenlnemaa.S
end

section
namespace Go.Proofs.Ytchpeobenlnemaa.S
open Go.RowKit Go.Proofs.YtchpeobenlnemaaW.PrintWords Go.Proofs.YtchpeobenlnemaaW.PrintLast Go.Proofs.YtchpeobenlnemaaW.PrintMore
attribute [local go_sem] max2_int min2_int max_two min_two max_three min_three max_four min_four   -- for this text's walks alone
attribute [local go_sem] Go.Proofs.Ytchpeobenlnemaa.XWalk.cell2
set_option linter.unusedVariables false
set_option linter.unusedSimpArgs false

/-! ### slices_Repeat_int64_int64: function 22 -/
/-- A step of a region that draws its order, by what it comes to. -/
theorem slices_Repeat.step {P : Program} {ops : Array Oper} {Q : Exit → Act → World → Prop} {i : Nat} {o : Oper} {K : Act → World → Prop} {a : Act} {w w' : World} {v : Value} (hi : ops[i]? = some o) (hg : o.guard = none) (hr : (execOp a.eval o).run P w = .ok (.value v) w') (h : K (a.put o.dst v) w') : wpOp P ops Q i K a w := by
 have hw : Region.wanted o (yielded ops a.tmps) = true := by simp [Region.wanted, hg]
 unfold wpOp
 simp only [hi]
 rw [if_pos hw]
 refine Or.inl ?_
 unfold Oper.wp
 rw [hr]
 exact h
theorem slices_Repeat.copy {P : Program} {o : Oper} {a : Act} {w w' : World} {u v z : Value} {T T' : TypeId} (x y : Operand) (ho : o.op = .call { callee := .builtin .copy, args := #[x, y], argTypes := #[T, T'] }) (hx : a.eval x = u) (hy : a.eval y = v) (hr : (Builtin.copy_ #[T, T'] o.type #[u, v]).run P w = .ok z w') : (execOp a.eval o).run P w = .ok (.value z) w' := by
 unfold execOp
 simp only [ho, resolve, invoke, builtin, Sem.run_bind, Sem.run_pure, Result.andThen_ok, List.map_toArray, List.map_cons, List.map_nil, hx, hy, hr]
theorem slices_Repeat.norm {P : Program} {md : Region.Mode} {ops : Array Oper} {Q : Exit → Act → World → Prop} {S : World → Prop} {fuel : Nat} {l : Array Bool} {a a' : Act} {w : World} (ha : a = a') (h : wpAnyH P md ops Q S fuel l a' w) : wpAnyH P md ops Q S fuel l a w := ha ▸ h
def slices_Repeat_int64_int64.f (k : Nat) (l0 : List Int) (a1 : Int) : Option (List Int) := if 700 ≤ k ∧ l0 = [1] ∧ 1 ≤ a1 ∧ a1 ≤ 600 then some (List.replicate a1.toNat 1) else none
/-- The block of the new slice, when so many of its first elements are written. -/
def slices_Repeat.Row (W : World) (g n cap t : Nat) : Prop := ∃ cur : Array Value, W.heap[g]? = some (.cells cur 2 (0, 0)) ∧ cur.size = cap ∧ (∀ j, j < t → cur[j]? = some (.int .i64 1)) ∧ ∀ j, j < n → ∃ z, cur[j]? = some (.int .i64 z)
theorem slices_Repeat.Row.put {W : World} {g n cap t m : Nat} {cur : Array Value} (hg : W.heap[g]? = some (.cells cur 2 (0, 0))) (hs : cur.size = cap) (h1 : ∀ j, j < t → cur[j]? = some (.int .i64 1)) (h2 : ∀ j, j < n → ∃ z, cur[j]? = some (.int .i64 z)) (hm : t + m ≤ cap) :
  slices_Repeat.Row (W.setRow g (cur.toList.take t ++ (List.replicate m (Value.int .i64 1) ++ cur.toList.drop (t + m))).toArray) g n cap (t + m) := by
 have hl : cur.toList.length = cap := by rw [Array.length_toList]; exact hs
 have e : ∀ j, (cur.toList.take t ++ (List.replicate m (Value.int .i64 1) ++ cur.toList.drop (t + m))).toArray[j]? = if j < t + m then (if j < t then cur[j]? else some (.int .i64 1)) else cur[j]? := by
  intro j
  rw [List.getElem?_toArray]
  by_cases c1 : j < t
  ·rw [if_pos (by omega), if_pos c1, List.getElem?_append_left (by rw [List.length_take]; omega), List.getElem?_take_of_lt c1, Array.getElem?_toList]
  ·rw [List.getElem?_append_right (by rw [List.length_take]; omega), List.length_take, Nat.min_eq_left (by omega)]
   by_cases c2 : j < t + m
   ·rw [if_pos c2, if_neg c1, List.getElem?_append_left (by rw [List.length_replicate]; omega), List.getElem?_replicate, if_pos (by omega)]
   ·rw [if_neg c2, List.getElem?_append_right (by rw [List.length_replicate]; omega), List.length_replicate, List.getElem?_drop, show t + m + (j - t - m) = j by omega, Array.getElem?_toList]
 refine ⟨_, setRow_heap W g cur _ _ _ hg, ?_, fun j hj => ?_, fun j hj => ?_⟩
 ·simp only [List.size_toArray, List.length_append, List.length_take, List.length_replicate, List.length_drop, hl]
  omega
 ·rw [e, if_pos hj]
  by_cases c : j < t
  ·rw [if_pos c]; exact h1 j c
  ·rw [if_neg c]
 ·rw [e]
  by_cases c : j < t + m
  ·rw [if_pos c]
   by_cases c1 : j < t
   ·rw [if_pos c1]; exact h2 j hj
   ·rw [if_neg c1]; exact ⟨1, rfl⟩
  ·rw [if_neg c]; exact h2 j hj
set_option maxRecDepth 100000 in
set_option maxHeartbeats 4000000 in
theorem slices_Repeat_int64_int64.calls (k : Nat) (A0 : Option Addr) (c0 : Nat) (l0 : List Int) (a1 : Int) (r : List Int) (w : World) (hr0 : Kd.C (Kd.int .i64) w A0 l0.length l0) (hc0 : l0.length ≤ c0) (h : slices_Repeat_int64_int64.f k l0 a1 = some r) :
  Calls Try.prog 22 #[.slice A0 l0.length c0, .int .i64 a1] w fun e w' => ∃ v0_ : Value, e = .returned v0_ ∧ Kd.R (Kd.int .i64) 2 w' w.heap.size (fun _ => True) v0_ r ∧ Below w.heap.size w w' := by
 unfold slices_Repeat_int64_int64.f at h
 split at h
 case isFalse => exact absurd h (by simp)
 rename_i hg
 obtain ⟨hk, rfl, h1, h2⟩ := hg
 obtain rfl := Option.some.inj h
 clear h hk
 obtain ⟨ad, rfl, hcell⟩ := Kd.at_int hr0 0 (by omega) (by simp)
 have hcell : w.cell? (ad.add 0) = some (.int .i64 1) := hcell
 clear hr0
 obtain ⟨n, rfl⟩ := Int.eq_ofNat_of_zero_le (show 0 ≤ a1 by omega)
 have hn1 : 1 ≤ n := by omega
 have hn2 : n ≤ 600 := by omega
 have HN := Aside0.mk hn1
 have HM := Aside0.mk hn2
 have q1 : ((n : Int) < 0) = False := eq_false (by omega)
 have q2 : IntKind.u64.wrap (n : Int) = n := by rw [IntKind.wrap_u64]; omega
 have q3 : (9223372036854775807 < (n : Int)) = False := eq_false (by omega)
 have q4 : wrap64 (n : Int) = n := by unfold wrap64; omega
 have hmul : math_bits_Mul.f 1 (n : Int) = some (0, (n : Int)) := by
  unfold math_bits_Mul.f
  rw [Go.Proofs.Ytchpeobenlnemaa.XBits.mul64 (by omega) (by omega) (by omega) (by omega), Option.bind_some, Int.one_mul]
  dsimp only
  rw [show (n : Int) / 18446744073709551616 = 0 by omega, show (n : Int) % 18446744073709551616 = n by omega]
 have HMU := Aside0.mk hmul
 clear hmul h1 h2 hn1 hn2
 go_enter Try.func22, Try.ntmps22
 have hinfo : (Try.prog.info? 2).map (fun i => (i.zero, i.size, i.bytes)) = some (some (.int .i64 0), 1, 8) := by kernel_rfl
 have hsz : (Try.prog.info? 2).map (·.size) = some 1 := by kernel_rfl
 go_upto_region 7 with (first | (go_at_call 45; (with_reducible refine (math_bits_Mul.calls 1 n 0 n _ HMU.out).mono ?_); rintro e w' ⟨rfl, ⟨nd, rfl⟩⟩) | ((with_reducible refine gate_dst (N := 30) rfl ?_); rw [q4]; refine Kd.R_make (Kd.int .i64) (w0 := w) w.heap.size 2 rfl (N := 30) rfl 22 _ _ rfl n rfl rfl Try.underlying22 (.int .i64 0) 8 hinfo rfl (by decide) (by omega) 0 (ok := fun _ => True) (okp := fun _ => True) rfl (fun _ hk => hk) trivial (by omega) (by have := HM.out; omega) (pw_below_drewN (Below.refl _ _) _) (Nat.le_refl _) ?_; intro v1 w1 ho hb1 hgr1 hnew1; clear hgr1 hnew1))
 have ow := Kd.own_of_R ho
 rw [List.length_replicate, Int.toNat_natCast] at ow
 obtain ⟨hl0, h2⟩ := ow
 have hn1 := HN.out
 have hn2 := HM.out
 rcases h2 with ⟨_, h0⟩ | ⟨g, cap, cur, rfl, hbg, hgg, hnc, hcm, hcs, htk⟩
 ·omega
 have hcs' : cur.size = cap := by omega
 have hz : ∀ j, j < n → ∃ z, cur[j]? = some (.int .i64 z) := fun j hj => by
  refine ⟨0, ?_⟩
  have e : (cur.toList.take (n * 1))[j]? = some (Value.int .i64 0) := by
   rw [htk]
   simp [encs, List.getElem?_replicate, hj]
  rw [List.getElem?_take_of_lt (by omega), Array.getElem?_toList] at e
  exact e
 have hsrc : ∀ (j : Nat) (v : Value), [Value.int .i64 1][j]? = some v → w1.cell? (ad.add j) = some v := fun j v hv => by
  cases j with
  | zero =>
   obtain rfl := Option.some.inj hv
   exact (hb1.cell (World.block_lt_of_cell? w _ hcell)).trans hcell
  | succ j => simp at hv
 have HZ := Aside0.mk hz
 have HCS := Aside0.mk hcs'
 have HNC := Aside0.mk hnc
 have HCM := Aside0.mk hcm
 have HBG := Aside0.mk hbg
 have HB1 := Aside0.mk hb1
 have HSR := Aside0.mk hsrc
 clear ho hl0 htk hz hsrc hcs hcs' hn1 hn2 hnc hcm hbg hb1
 go_upto_region 8 with (first | ((with_reducible refine gate_builtin (b := .copy) (xs := #[.tmp 31, .tmp 32]) rfl ?_); go_must (refine wpList_copy_own rfl (.tmp 31) (.tmp 32) 22 22 rfl 2 Try.underlying22 hsz g 0 n cap ad 1 c0 rfl rfl cur 2 hgg [.int .i64 1] (show 1 = Nat.min 1 n from (Nat.min_eq_left HN.out).symm) HSR.out (by have h1 := HN.out; have h2 := HNC.out; have h3 := HCS.out; show 0 + 1 ≤ cur.size; omega) (by simp [Value.oneCell']) ?_)))
 have hrow0 : slices_Repeat.Row (w1.setRow g (Value.int .i64 1 :: cur.toList.tail).toArray) g n cap 1 := by
  have h := slices_Repeat.Row.put (t := 0) (m := 1) hgg HCS.out (fun j hj => absurd hj (Nat.not_lt_zero j)) HZ.out (by have := HN.out; have := HNC.out; omega)
  rw [show cur.toList.drop (0 + 1) = cur.toList.tail from List.drop_one] at h
  exact h
 have hbel0 : Below w.heap.size w (w1.setRow g (Value.int .i64 1 :: cur.toList.tail).toArray) := below_setRow HB1.out HBG.out _
 clear hgg HZ HCS HB1 HSR
 generalize w1.setRow g (Value.int .i64 1 :: cur.toList.tail).toArray = W0 at *
 go_loopw [8] (fun v8 wr => ∃ t : Nat, v8 = .int .i64 t ∧ Aside0 (1 ≤ t) ∧ Aside0 (t ≤ n) ∧ Aside0 (slices_Repeat.Row wr g n cap t) ∧ Aside0 (Below w.heap.size w wr)) (fun v8 _ => n - (intOf v8).toNat)
 case atStart => exact ⟨1, by first | rfl | simp [goInt], ⟨Nat.le_refl _⟩, ⟨HN.out⟩, ⟨hrow0⟩, ⟨hbel0⟩⟩
 case round =>
  obtain ⟨t, rfl, T1, TN, TR, TB⟩ := hrel
  clear hrow0 hbel0
  by_cases c : t < n
  ·have q5 : ((t : Int) < (n : Int)) = True := eq_true (by omega)
   have HQ := Aside0.mk c
   clear c
   go_upto_region 9 with (fail)
   refine wp_region_held (S := fun _ => True) (by kernel_rfl) ?_
   have q6 : ((t : Int) ≤ (n : Int)) = True := eq_true (by have := HQ.out; omega)
   have q7 : ((n : Int) ≤ (cap : Int)) = True := eq_true (by have := HNC.out; omega)
   have q8 : ((t : Int) ≤ (cap : Int)) = True := eq_true (by have := HNC.out; have := HQ.out; omega)
   refine wpAnyH_take (i := 0) (v := .int .i64 (t : Int)) rfl (by kernel_rfl) (by kernel_rfl) (by kernel_rfl) (fun _ _ _ h => h) (Or.inl ⟨by rfl, fun W1 hS => by go_simp⟩) trivial ?_
   refine wpAnyH_take (i := 1) (v := .slice (some ⟨g, 0, none⟩) n cap) rfl (by kernel_rfl) (by kernel_rfl) (by kernel_rfl) (fun _ _ _ h => h) (Or.inl ⟨by rfl, fun W1 hS => by go_simp⟩) trivial ?_
   refine wpAnyH_take (i := 2) (v := .int .i64 (t : Int)) rfl (by kernel_rfl) (by kernel_rfl) (by kernel_rfl) (fun _ _ _ h => h) (Or.inl ⟨by rfl, fun W1 hS => by go_simp⟩) trivial ?_
   refine wpAnyH_take (i := 3) (v := .slice (some ⟨g, t, none⟩) (n - t) (cap - t)) rfl (by kernel_rfl) (by kernel_rfl) (by kernel_rfl) (fun _ _ _ h => h) (Or.inl ⟨by rfl, fun W1 hS => by go_simp; intro hc; have := HNC.out; have := HQ.out; omega⟩) trivial ?_
   refine wpAnyH_take (i := 4) (v := .slice (some ⟨g, 0, none⟩) n cap) rfl (by kernel_rfl) (by kernel_rfl) (by kernel_rfl) (fun _ _ _ h => h) (Or.inl ⟨by rfl, fun W1 hS => by go_simp⟩) trivial ?_
   refine wpAnyH_take (i := 5) (v := .int .i64 (t : Int)) rfl (by kernel_rfl) (by kernel_rfl) (by kernel_rfl) (fun _ _ _ h => h) (Or.inl ⟨by rfl, fun W1 hS => by go_simp⟩) trivial ?_
   refine wpAnyH_take (i := 6) (v := .slice (some ⟨g, 0, none⟩) t cap) rfl (by kernel_rfl) (by kernel_rfl) (by kernel_rfl) (fun _ _ _ h => h) (Or.inl ⟨by rfl, fun W1 hS => by go_simp⟩) trivial ?_
   refine wpAnyH_all (rs := [7]) (by kernel_rfl) (by simp) ?_
   intro i hi7
   obtain rfl : i = 7 := by simpa using hi7
   clear hi7
   obtain ⟨cur2, hg2, hs2, hu2, hz2⟩ := TR.out
   obtain ⟨m, hm⟩ : ∃ m, m = Nat.min t (n - t) := ⟨_, rfl⟩
   have hm1 : m ≤ t := by rw [hm]; exact Nat.min_le_left _ _
   have hm2 : m ≤ n - t := by rw [hm]; exact Nat.min_le_right _ _
   have hm3 : 1 ≤ m := by have := T1.out; have := HQ.out; rw [hm]; exact Nat.le_min.2 ⟨by omega, by omega⟩
   have hr := run_copy_row (P := Try.prog) ({ wr with drawn := wr.drawn + 1 }) 22 22 3 2 g t (n - t) (cap - t) ⟨g, 0, none⟩ t cap cur2 2 (List.replicate m (Value.int .i64 1)) Try.underlying22 hsz hg2 (by rw [List.length_replicate, hm]) (fun j v hv => by
    rw [List.getElem?_replicate] at hv
    by_cases hj : j < m
    ·rw [if_pos hj] at hv
     obtain rfl := Option.some.inj hv
     have := hu2 j (by omega)
     by_cases h0 : j = 0
     ·subst h0
      simp [World.cell?, Addr.add, hg2, this]
     ·simp [World.cell?, Addr.add, hg2, this, h0]
    ·rw [if_neg hj] at hv
     cases hv) (by rw [List.length_replicate]; have := HNC.out; have := HQ.out; omega) (fun v hv => by rw [(List.mem_replicate.1 hv).2]; rfl)
   rw [List.length_replicate] at hr
   refine slices_Repeat.step rfl rfl (slices_Repeat.copy (.tmp 41) (.tmp 44) rfl (by kernel_rfl) (by kernel_rfl) hr) ?_
   have hrow1 := slices_Repeat.Row.put (W := { wr with drawn := wr.drawn + 1 }) (m := m) hg2 hs2 hu2 hz2 (by have := HNC.out; have := HQ.out; omega)
   have hbel1 := below_setRow (w0 := w) (w := { wr with drawn := wr.drawn + 1 }) (g := g) (B := w.heap.size) (Below.drew TB.out) HBG.out (cur2.toList.take t ++ List.replicate m (Value.int .i64 1) ++ cur2.toList.drop (t + m)).toArray
   rw [← List.append_assoc] at hrow1
   generalize ({ wr with drawn := wr.drawn + 1 } : World).setRow g (cur2.toList.take t ++ List.replicate m (Value.int .i64 1) ++ cur2.toList.drop (t + m)).toArray = W2 at *
   refine ⟨trivial, ?_⟩
   clear hr hg2 hs2 hu2 hz2 hm
   have q9 : IntKind.i64.wrap ((t : Int) + (m : Int)) = (t : Int) + (m : Int) := by rw [i64_w]; unfold wrap64; have := HM.out; have := HQ.out; omega
   refine wpAnyH_take (i := 8) (v := .int .i64 ((t + m : Nat) : Int)) rfl (by kernel_rfl) (by kernel_rfl) (by kernel_rfl) (fun _ _ _ h => h) (Or.inl ⟨by rfl, fun W1 hS => by go_simp⟩) trivial ?_
   refine wpAnyH_take (i := 9) (v := .int .i64 ((t + m : Nat) : Int)) rfl (by kernel_rfl) (by kernel_rfl) (by kernel_rfl) (fun _ _ _ h => h) (Or.inl ⟨by rfl, fun W1 hS => by go_simp⟩) trivial ?_
   refine slices_Repeat.norm (a' := { tmps := #[.slice (some ad) 1 c0, .int .i64 (n : Int), undef, undef, .slice none 0 0, .int .u64 0, .int .u64 (n : Int), .slice (some ⟨g, 0, none⟩) n cap, .int .i64 ((t + m : Nat) : Int), .int .i64 (n : Int), .bool false, undef, .tuple #[.int .u64 0, .int .u64 (n : Int)], .slice (some ad) 1 c0, .int .i64 1, .int .u64 1, .int .i64 (n : Int), .int .u64 (n : Int), .tuple #[.int .u64 0, .int .u64 (n : Int)], .int .u64 0, .int .u64 (n : Int), .int .u64 0, .bool false, .bool false, .int .u64 (n : Int), .bool false, .bool false, undef, .int .u64 (n : Int), .int .i64 (n : Int), .slice (some ⟨g, 0, none⟩) n cap, .slice (some ⟨g, 0, none⟩) n cap, .slice (some ad) 1 c0, .int .i64 1, .int .i64 (t : Int), .slice (some ⟨g, 0, none⟩) n cap, .int .i64 (n : Int), .bool true, .int .i64 (t : Int), .slice (some ⟨g, 0, none⟩) n cap, .int .i64 (t : Int), .slice (some ⟨g, t, none⟩) (n - t) (cap - t), .slice (some ⟨g, 0, none⟩) n cap, .int .i64 (t : Int), .slice (some ⟨g, 0, none⟩) t cap, .int .i64 (m : Int), .int .i64 ((t + m : Nat) : Int), undef], defers := [] }) (by kernel_rfl) ?_
   refine wpAnyH_done (by kernel_rfl) ?_ _
   clear q9 q5 q6 q7 q8
   go_wp2
   go_roundw
   case rel => exact ⟨t + m, rfl, ⟨by omega⟩, ⟨by have := HQ.out; omega⟩, ⟨hrow1⟩, ⟨hbel1⟩⟩
   case measure => have := HQ.out; simp [intOf]; omega
  ·obtain rfl : t = n := by have := TN.out; omega
   go_wp2
   go_ret
   refine ⟨_, rfl, ?_, TB.out⟩
   obtain ⟨cur2, hg2, hs2, hu2, hz2⟩ := TR.out
   have e : (List.replicate ((t : Int)).toNat (1 : Int)).length = t := by rw [List.length_replicate, Int.toNat_natCast]
   have ow : wr.ownsRow w.heap.size 2 1 (.slice (some ⟨g, 0, none⟩) t cap) (List.replicate ((t : Int)).toNat (1 : Int)).length (encs (Value.int .i64) (List.replicate ((t : Int)).toNat 1)) := by
    rw [e, Int.toNat_natCast]
    refine ⟨by simp [encs], .inr ⟨g, cap, cur2, rfl, HBG.out, hg2, HNC.out, HCM.out, by omega, ?_⟩⟩
    apply List.ext_getElem?
    intro j
    have hle := HNC.out
    by_cases hj : j < t
    ·rw [List.getElem?_take_of_lt (by omega), Array.getElem?_toList, hu2 j hj]
     simp [encs, List.getElem?_replicate, hj]
    ·rw [List.getElem?_eq_none (by rw [List.length_take, Array.length_toList]; omega), List.getElem?_eq_none (by simp [encs]; omega)]
   exact Kd.R_of_own ow (fun _ _ => trivial)


end Go.Proofs.Ytchpeobenlnemaa.S
end

section
namespace Go.Proofs.Ytchpeobenlnemaa.S
open Go.RowKit Go.Proofs.YtchpeobenlnemaaW.PrintWords Go.Proofs.YtchpeobenlnemaaW.PrintLast Go.Proofs.YtchpeobenlnemaaW.PrintMore
attribute [local go_sem] max2_int min2_int max_two min_two max_three min_three max_four min_four   -- for this text's walks alone
attribute [local go_sem] Go.Proofs.Ytchpeobenlnemaa.XWalk.cell2
set_option linter.unusedVariables false
set_option linter.unusedSimpArgs false

/-! ### sched_Build: function 11 -/
/-- The cells of a plan. -/
def sched_Build.pl (kd pr : Int) (A2 : Option Addr) (n2 c2 : Nat) (per at_ left level : Int) (P7 : Value) : Array Value := #[.int .i64 kd, .int .i64 pr, .slice A2 n2 c2, .int .i64 per, .int .i64 at_, .int .i64 left, .int .i64 level, P7]
theorem sched_Build.pl_cell {W : World} {g : Nat} {kd pr : Int} {A2 : Option Addr} {n2 c2 : Nat} {per at_ left level : Int} {P7 : Value} (h : W.heap[g]? = some (.cells (sched_Build.pl kd pr A2 n2 c2 per at_ left level P7) 51 (0, 0))) :
  W.cell? ⟨g, 0, none⟩ = some (.int .i64 kd) ∧ W.cell? ⟨g, 1, none⟩ = some (.int .i64 pr) ∧ W.cell? ⟨g, 2, none⟩ = some (.slice A2 n2 c2) ∧ W.cell? ⟨g, 3, none⟩ = some (.int .i64 per) ∧ W.cell? ⟨g, 4, none⟩ = some (.int .i64 at_) ∧ W.cell? ⟨g, 5, none⟩ = some (.int .i64 left) ∧ W.cell? ⟨g, 6, none⟩ = some (.int .i64 level) ∧ W.cell? ⟨g, 7, none⟩ = some P7 :=
 ⟨(blk_cell h 0).trans rfl, (blk_cell h 1).trans rfl, (blk_cell h 2).trans rfl, (blk_cell h 3).trans rfl, (blk_cell h 4).trans rfl, (blk_cell h 5).trans rfl, (blk_cell h 6).trans rfl, (blk_cell h 7).trans rfl⟩
/-- The rates can be read, and lie below the plan. -/
def sched_Build.RD (W : World) (g : Nat) (A2 : Option Addr) (rates : List Int) : Prop := ∀ j : Int, 0 ≤ j → j < rates.length → ∃ ad, A2 = some ad ∧ ad.block < g ∧ W.cell? (ad.add j.toNat) = some (.int .i64 (rd rates j))
theorem sched_Build.RD.below {W W1 : World} {g : Nat} {A2 : Option Addr} {rates : List Int} (h : sched_Build.RD W g A2 rates) (hb : Below g W W1) : sched_Build.RD W1 g A2 rates := fun j h0 h1 => by
 obtain ⟨ad, e, hl, hx⟩ := h j h0 h1
 exact ⟨ad, e, hl, (hb.cell (p := ad.add j.toNat) (by rw [add_block]; exact hl)).trans hx⟩
/-- A period's rate. -/
def sched_Build.rt (rates : List Int) (i : Int) : Int := rd rates (mn i ((rates.length : Int) - 1))
set_option maxHeartbeats 4000000 in
set_option maxRecDepth 100000 in
theorem sched_Build.rate (w : World) (g : Nat) (kd pr : Int) (A2 : Option Addr) (c2 : Nat) (rates : List Int) (per at_ left level : Int) (P7 : Value) (i : Int) (hg : w.heap[g]? = some (.cells (sched_Build.pl kd pr A2 rates.length c2 per at_ left level P7) 51 (0, 0))) (hr : sched_Build.RD w g A2 rates) (h1 : 1 ≤ rates.length) (h2 : rates.length ≤ 600) (hi : 0 ≤ i) :
  Calls Try.prog 27 #[.pointer (some ⟨g, 0, none⟩), .int .i64 i] w fun e w' => e = .returned (.int .i64 (sched_Build.rt rates i)) ∧ Below w.heap.size w w' := by
 obtain ⟨z0, z1, z2, z3, z4, z5, z6, z7⟩ := sched_Build.pl_cell hg
 obtain ⟨j, hj⟩ : ∃ j : Int, mn i ((rates.length : Int) - 1) = j := ⟨_, rfl⟩
 have hj_ : (if (rates.length : Int) - 1 < i then (rates.length : Int) - 1 else i) = j := hj
 have jb : 0 ≤ j ∧ j < (rates.length : Int) := by
  rw [← hj_]
  split <;> omega
 have q0 : wrap64 ((rates.length : Int) - 1) = (rates.length : Int) - 1 := by unfold wrap64; omega
 obtain ⟨ad, e2, _, hx⟩ := hr j jb.1 jb.2
 cases e2
 have p1 : (0 ≤ j) = True := eq_true jb.1
 have p2 : (j < (rates.length : Int)) = True := eq_true jb.2
 unfold sched_Build.rt
 rw [hj]
 have HB := Aside0.mk (Below.refl w.heap.size w)
 clear hj jb hg hr h1 h2 hi
 go_enter Try.func27, Try.ntmps27
 go_wp2
 repeat (go_quiet (fail); try go_wp2)
 go_ret
 exact ⟨by first | rfl | simp, by repeat (first | (with_reducible first | exact HB.out | apply below_alloc | apply pw_below_drewN | apply below_drew1) | exact HB.out)⟩
set_option maxHeartbeats 4000000 in
set_option maxRecDepth 100000 in
theorem sched_Build.linear (w : World) (g : Nat) (kd pr : Int) (A2 : Option Addr) (n2 c2 : Nat) (per at_ left level : Int) (A7 : Option Addr) (c7 : Nat) (parts : List Int) (i : Int) (hg : w.heap[g]? = some (.cells (sched_Build.pl kd pr A2 n2 c2 per at_ left level (.slice A7 parts.length c7)) 51 (0, 0))) (hr : ∃ ad, A7 = some ad ∧ w.cell? (ad.add at_.toNat) = some (.int .i64 (rd parts at_))) (h1 : 0 ≤ at_) (h2 : at_ < parts.length) :
  Calls Try.prog 24 #[.pointer (some ⟨g, 0, none⟩), .int .i64 i] w fun e w' => e = .returned (.int .i64 (wrap64 (i + rd parts at_))) ∧ Below w.heap.size w w' := by
 obtain ⟨z0, z1, z2, z3, z4, z5, z6, z7⟩ := sched_Build.pl_cell hg
 obtain ⟨ad, e2, hx⟩ := hr
 cases e2
 have p1 : (0 ≤ at_) = True := eq_true h1
 have p2 : (at_ < (parts.length : Int)) = True := eq_true h2
 have HB := Aside0.mk (Below.refl w.heap.size w)
 clear hg h1 h2
 go_enter Try.func24, Try.ntmps24
 go_wp2
 repeat (go_quiet (fail); try go_wp2)
 go_ret
 exact ⟨by first | rfl | simp, by repeat (first | (with_reducible first | exact HB.out | apply below_alloc | apply pw_below_drewN | apply below_drew1) | exact HB.out)⟩
theorem sched_Build.only (w : World) (g : Nat) (i : Int) : Calls Try.prog 25 #[.pointer (some ⟨g, 0, none⟩), .int .i64 i] w fun e w' => e = .returned (.int .i64 i) ∧ Below w.heap.size w w' := by
 go_enter Try.func25, Try.ntmps25
 go_wp2
 go_ret
 exact ⟨rfl, Below.refl _ _⟩
theorem sched_Build.nothing (w : World) (g : Nat) (i : Int) : Calls Try.prog 26 #[.pointer (some ⟨g, 0, none⟩), .int .i64 i] w fun e w' => e = .returned (.int .i64 0) ∧ Below w.heap.size w w' := by
 go_enter Try.func26, Try.ntmps26
 go_wp2
 go_ret
 exact ⟨rfl, Below.refl _ _⟩

theorem sched_Build.step {P : Program} {ops : Array Oper} {Q : Exit → Act → World → Prop} {i : Nat} {o : Oper} {K : Act → World → Prop} {a : Act} {w w' : World} {v : Value} (hi : ops[i]? = some o) (hg : o.guard = none) (hr : (execOp a.eval o).run P w = .ok (.value v) w') (h : K (a.put o.dst v) w') : wpOp P ops Q i K a w := by
 have hw : Region.wanted o (yielded ops a.tmps) = true := by simp [Region.wanted, hg]
 unfold wpOp
 simp only [hi]
 rw [if_pos hw]
 refine Or.inl ?_
 unfold Oper.wp
 rw [hr]
 exact h
theorem sched_Build.skip {P : Program} {ops : Array Oper} {Q : Exit → Act → World → Prop} {i : Nat} {o : Oper} {K : Act → World → Prop} {a : Act} {w w' : World} (hi : ops[i]? = some o) (hg : o.guard = none) (hd : o.dst = none) (hr : (execOp a.eval o).run P w = .ok .skip w') (h : K a w') : wpOp P ops Q i K a w := by
 have hw : Region.wanted o (yielded ops a.tmps) = true := by simp [Region.wanted, hg]
 have hp : a.put o.dst undef = a := by rw [hd]; rfl
 unfold wpOp
 simp only [hi]
 rw [if_pos hw]
 refine Or.inl ?_
 unfold Oper.wp
 rw [hr]
 show K (a.put o.dst undef) w'
 rw [hp]
 exact h
theorem sched_Build.norm {P : Program} {md : Region.Mode} {ops : Array Oper} {Q : Exit → Act → World → Prop} {S : World → Prop} {fuel : Nat} {l : Array Bool} {a a' : Act} {w : World} (ha : a = a') (h : wpAnyH P md ops Q S fuel l a' w) : wpAnyH P md ops Q S fuel l a w := ha ▸ h
section
open Go.Proofs.YtchpeobenlnemaaW.PrintLast
theorem sched_Build.callR {P : Program} {ops : Array Oper} {Q : Exit → Act → World → Prop} {i : Nat} {o : Oper} {K : Act → World → Prop} {a : Act} {w : World} {f : FuncId} {fn : Func} {c : Operand} {ops_ : Array Operand} {ts : Array TypeId} (caps : Array Value) (hi : ops[i]? = some o) (hw : Region.wanted o (yielded ops a.tmps) = true) (hf : P.funcs[f]? = some fn) (hname : (fn.name == "runtime.NumGoroutine") = false) (hb : fn.body.isSome = true) (args : Array Value)
  (ho : o.op = .call { callee := .value c, args := ops_, argTypes := ts }) (hc : a.eval c = .func (.func f) #[] caps) (hargs : ops_.map a.eval ++ caps = args) (h : Calls P f args w fun e w' => ∃ v, e = .returned v ∧ K (a.put o.dst v) w') : wpOp P ops Q i K a w := by
 have t : if Region.wanted o (yielded ops a.tmps) = true then Oper.wp P o a w K Q else K (a.put o.dst undef) w := by
  refine call_ f args hw rfl ?_ h
  have he := enters_ hf hname hb args w
  unfold execOp
  simp [ho, resolve, Deferred.ofValue, invoke, hc, hargs, he]
 rw [if_pos hw] at t
 unfold wpOp
 simp only [hi]
 rw [if_pos hw]
 exact Or.inl t
end
/-- What a region of a method keeps. -/
def sched_Build.S (w : World) (g : Nat) (kd pr : Int) (A2 : Option Addr) (n2 c2 : Nat) (per at_ left : Int) (P7 : Value) (W1 : World) : Prop := ∃ lx, W1.heap[g]? = some (.cells (sched_Build.pl kd pr A2 n2 c2 per at_ left lx P7) 51 (0, 0)) ∧ KeepBut w W1 g none ∧ Below g w W1
theorem sched_Build.S.lt {w : World} {g : Nat} {kd pr : Int} {A2 : Option Addr} {n2 c2 : Nat} {per at_ left : Int} {P7 : Value} {W1 : World} (h : sched_Build.S w g kd pr A2 n2 c2 per at_ left P7 W1) : g < W1.heap.size := by
 obtain ⟨lx, hg, _⟩ := h
 exact (Array.getElem?_eq_some_iff.1 hg).1
theorem sched_Build.S.below {w : World} {g : Nat} {kd pr : Int} {A2 : Option Addr} {n2 c2 : Nat} {per at_ left : Int} {P7 : Value} {W1 W2 : World} (h : sched_Build.S w g kd pr A2 n2 c2 per at_ left P7 W1) (hb : Below W1.heap.size W1 W2) : sched_Build.S w g kd pr A2 n2 c2 per at_ left P7 W2 := by
 have hl := h.lt
 obtain ⟨lx, hg, hk, hbb⟩ := h
 exact ⟨lx, (hb.block g hl).trans hg, hk.trans (KeepBut.of_below hb g none) (.inl rfl), hbb.trans (hb.mono (Nat.le_of_lt hl))⟩
theorem sched_Build.S.drew {w : World} {g : Nat} {kd pr : Int} {A2 : Option Addr} {n2 c2 : Nat} {per at_ left : Int} {P7 : Value} {W1 : World} (h : sched_Build.S w g kd pr A2 n2 c2 per at_ left P7 W1) : sched_Build.S w g kd pr A2 n2 c2 per at_ left P7 { W1 with drawn := W1.drawn + 1 } := by
 obtain ⟨lx, hq, hk, hb⟩ := h
 exact ⟨lx, hq, hk, ⟨hb.os, hb.tape, hb.output, hb.size, hb.block⟩⟩
theorem sched_Build.set_blk {W : World} {g : Nat} {cells : Array Value} {T : TypeId} (h : W.heap[g]? = some (.cells cells T (0, 0))) (j : Nat) (v : Value) : (W.setCell ⟨g, j, none⟩ v).heap[g]? = some (.cells (cells.setIfInBounds j v) T (0, 0)) := by
 obtain ⟨hlt, hk⟩ := Array.getElem?_eq_some_iff.1 h
 show (W.heap.modify g _)[g]? = _
 rw [Array.getElem?_eq_getElem (by rw [Array.size_modify]; exact hlt), Array.getElem_modify_self, hk]
 rfl
set_option maxHeartbeats 4000000 in
set_option maxRecDepth 100000 in
theorem sched_Build.annuity (k : Nat) (w : World) (g : Nat) (kd pr : Int) (A2 : Option Addr) (c2 : Nat) (rates : List Int) (per at_ left level : Int) (P7 : Value) (i lv er : Int) (hg : w.heap[g]? = some (.cells (sched_Build.pl kd pr A2 rates.length c2 per at_ left level P7) 51 (0, 0))) (hr : sched_Build.RD w g A2 rates) (h1 : 1 ≤ rates.length) (h2 : rates.length ≤ 600) (ha : 0 ≤ at_) (ha1 : at_ ≤ 600)
  (hl : at_ = 0 ∨ sched_Build.rt rates at_ ≠ sched_Build.rt rates (at_ - 1) → sched_Level.f k left (sched_Build.rt rates at_) (wrap64 (per - at_)) = some (lv, er)) (hn : ¬(at_ = 0 ∨ sched_Build.rt rates at_ ≠ sched_Build.rt rates (at_ - 1)) → lv = level) :
  Calls Try.prog 23 #[.pointer (some ⟨g, 0, none⟩), .int .i64 i] w fun e w' => e = .returned (.int .i64 (mn lv (wrap64 (left + i)))) ∧ w'.heap[g]? = some (.cells (sched_Build.pl kd pr A2 rates.length c2 per at_ left lv P7) 51 (0, 0)) ∧ KeepBut w w' g none ∧ Below g w w' := by
 have R : ∀ W : World, sched_Build.S w g kd pr A2 rates.length c2 per at_ left P7 W → ∀ j : Int, 0 ≤ j → Calls Try.prog 27 #[.pointer (some ⟨g, 0, none⟩), .int .i64 j] W fun e w' => e = .returned (.int .i64 (sched_Build.rt rates j)) ∧ Below W.heap.size W w' := fun W hS j hj => by
  obtain ⟨lx, hq, hk, hb⟩ := hS
  exact sched_Build.rate W g kd pr A2 c2 rates per at_ left lx P7 j hq (hr.below hb) h1 h2 hj
 have q0 : wrap64 (at_ - 1) = at_ - 1 := by unfold wrap64; omega
 obtain ⟨j, hj⟩ : ∃ j : Int, mn lv (wrap64 (left + i)) = j := ⟨_, rfl⟩
 have hj_ : (if wrap64 (left + i) < lv then wrap64 (left + i) else lv) = j := hj
 rw [hj]
 have HL := Aside0.mk hl
 have HN := Aside0.mk hn
 have HA := Aside0.mk ha
 have RR := Aside0.mk R
 have hS0 : sched_Build.S w g kd pr A2 rates.length c2 per at_ left P7 w := ⟨level, hg, KeepBut.refl _ _ _, Below.refl _ _⟩
 have HS := Aside0.mk hS0
 have HG := Aside0.mk hg
 clear R hl hn h1 h2 ha ha1 hj hg hr hS0
 go_enter Try.func23, Try.ntmps23
 go_upto_region 1 with (fail)
 rename_i K1 hK1 K2 hK2
 have tailT : (at_ = 0 ∨ sched_Build.rt rates at_ ≠ sched_Build.rt rates (at_ - 1)) → ∀ (s5 s6 s7 s8 s9 s10 s11 s12 s13 s14 s15 s16 s17 s18 s19 s20 s21 s22 s23 s24 : Value) (W : World), sched_Build.S w g kd pr A2 rates.length c2 per at_ left P7 W → K2 { tmps := #[.pointer (some ⟨g, 0, none⟩), .int .i64 i, undef, undef, .int .i64 0, s5, s6, s7, s8, s9, s10, s11, s12, s13, s14, s15, s16, s17, s18, s19, s20, s21, s22, s23, s24, .bool true, undef, undef, undef, undef, undef, undef, undef, undef, undef, undef, undef, undef, undef, undef, undef, undef, undef, undef, undef, undef, undef, undef, undef, undef, undef, undef, undef, undef, undef, undef, undef, undef, undef, undef, undef, undef, undef, undef], defers := [] } W := by
  intro hc s5 s6 s7 s8 s9 s10 s11 s12 s13 s14 s15 s16 s17 s18 s19 s20 s21 s22 s23 s24 W hSW
  have LV := Aside0.mk (HL.out hc)
  have HSW := Aside0.mk hSW
  clear hc hSW
  refine hK2 _ _ ?_
  go_upto_region 2 with (fail)
  have hS0 := HSW.out.drew
  refine wp_region_held (S := sched_Build.S w g kd pr A2 rates.length c2 per at_ left P7) (by kernel_rfl) ?_
  refine wpAnyH_take (i := 0) (v := .pointer (some ⟨g, 0, none⟩)) rfl (by kernel_rfl) (by kernel_rfl) (by kernel_rfl) (fun _ _ _ h => h) (Or.inl ⟨by kernel_rfl, fun W1 hS => by (go_simp <;> first | rfl | exact i64_w _)⟩) hS0 ?_
  refine wpAnyH_take (i := 1) (v := .pointer (some ⟨g, 0, none⟩)) rfl (by kernel_rfl) (by kernel_rfl) (by kernel_rfl) (fun _ _ _ h => h) (Or.inl ⟨by kernel_rfl, fun W1 hS => by (go_simp <;> first | rfl | exact i64_w _)⟩) hS0 ?_
  refine wpAnyH_take (i := 2) (v := .pointer (some ⟨g, 0, none⟩)) rfl (by kernel_rfl) (by kernel_rfl) (by kernel_rfl) (fun _ _ _ h => h) (Or.inl ⟨by kernel_rfl, fun W1 hS => by (go_simp <;> first | rfl | exact i64_w _)⟩) hS0 ?_
  refine wpAnyH_take (i := 3) (v := .pointer (some ⟨g, 5, none⟩)) rfl (by kernel_rfl) (by kernel_rfl) (by kernel_rfl) (fun _ _ _ h => h) (Or.inl ⟨by kernel_rfl, fun W1 hS => by (go_simp <;> first | rfl | exact i64_w _)⟩) hS0 ?_
  refine wpAnyH_take (i := 4) (v := .int .i64 left) rfl (by kernel_rfl) (by kernel_rfl) (by kernel_rfl) (fun _ _ _ h => h) (Or.inl ⟨by kernel_rfl, fun W1 hS => by obtain ⟨lx, hq, _⟩ := hS; obtain ⟨y0, y1, y2, y3, y4, y5, y6, y7⟩ := sched_Build.pl_cell hq; go_simp⟩) hS0 ?_
  refine wpAnyH_take (i := 5) (v := .pointer (some ⟨g, 0, none⟩)) rfl (by kernel_rfl) (by kernel_rfl) (by kernel_rfl) (fun _ _ _ h => h) (Or.inl ⟨by kernel_rfl, fun W1 hS => by (go_simp <;> first | rfl | exact i64_w _)⟩) hS0 ?_
  refine wpAnyH_take (i := 6) (v := .pointer (some ⟨g, 0, none⟩)) rfl (by kernel_rfl) (by kernel_rfl) (by kernel_rfl) (fun _ _ _ h => h) (Or.inl ⟨by kernel_rfl, fun W1 hS => by (go_simp <;> first | rfl | exact i64_w _)⟩) hS0 ?_
  refine wpAnyH_take (i := 7) (v := .pointer (some ⟨g, 0, none⟩)) rfl (by kernel_rfl) (by kernel_rfl) (by kernel_rfl) (fun _ _ _ h => h) (Or.inl ⟨by kernel_rfl, fun W1 hS => by (go_simp <;> first | rfl | exact i64_w _)⟩) hS0 ?_
  refine wpAnyH_take (i := 8) (v := .pointer (some ⟨g, 4, none⟩)) rfl (by kernel_rfl) (by kernel_rfl) (by kernel_rfl) (fun _ _ _ h => h) (Or.inl ⟨by kernel_rfl, fun W1 hS => by (go_simp <;> first | rfl | exact i64_w _)⟩) hS0 ?_
  refine wpAnyH_take (i := 9) (v := .int .i64 at_) rfl (by kernel_rfl) (by kernel_rfl) (by kernel_rfl) (fun _ _ _ h => h) (Or.inl ⟨by kernel_rfl, fun W1 hS => by obtain ⟨lx, hq, _⟩ := hS; obtain ⟨y0, y1, y2, y3, y4, y5, y6, y7⟩ := sched_Build.pl_cell hq; go_simp⟩) hS0 ?_
  refine wpAnyH_take (i := 11) (v := .pointer (some ⟨g, 0, none⟩)) rfl (by kernel_rfl) (by kernel_rfl) (by kernel_rfl) (fun _ _ _ h => h) (Or.inl ⟨by kernel_rfl, fun W1 hS => by (go_simp <;> first | rfl | exact i64_w _)⟩) hS0 ?_
  refine wpAnyH_take (i := 12) (v := .pointer (some ⟨g, 0, none⟩)) rfl (by kernel_rfl) (by kernel_rfl) (by kernel_rfl) (fun _ _ _ h => h) (Or.inl ⟨by kernel_rfl, fun W1 hS => by (go_simp <;> first | rfl | exact i64_w _)⟩) hS0 ?_
  refine wpAnyH_take (i := 13) (v := .pointer (some ⟨g, 0, none⟩)) rfl (by kernel_rfl) (by kernel_rfl) (by kernel_rfl) (fun _ _ _ h => h) (Or.inl ⟨by kernel_rfl, fun W1 hS => by (go_simp <;> first | rfl | exact i64_w _)⟩) hS0 ?_
  refine wpAnyH_take (i := 14) (v := .pointer (some ⟨g, 3, none⟩)) rfl (by kernel_rfl) (by kernel_rfl) (by kernel_rfl) (fun _ _ _ h => h) (Or.inl ⟨by kernel_rfl, fun W1 hS => by (go_simp <;> first | rfl | exact i64_w _)⟩) hS0 ?_
  refine wpAnyH_take (i := 15) (v := .int .i64 per) rfl (by kernel_rfl) (by kernel_rfl) (by kernel_rfl) (fun _ _ _ h => h) (Or.inl ⟨by kernel_rfl, fun W1 hS => by obtain ⟨lx, hq, _⟩ := hS; obtain ⟨y0, y1, y2, y3, y4, y5, y6, y7⟩ := sched_Build.pl_cell hq; go_simp⟩) hS0 ?_
  refine wpAnyH_take (i := 16) (v := .pointer (some ⟨g, 0, none⟩)) rfl (by kernel_rfl) (by kernel_rfl) (by kernel_rfl) (fun _ _ _ h => h) (Or.inl ⟨by kernel_rfl, fun W1 hS => by (go_simp <;> first | rfl | exact i64_w _)⟩) hS0 ?_
  refine wpAnyH_take (i := 17) (v := .pointer (some ⟨g, 0, none⟩)) rfl (by kernel_rfl) (by kernel_rfl) (by kernel_rfl) (fun _ _ _ h => h) (Or.inl ⟨by kernel_rfl, fun W1 hS => by (go_simp <;> first | rfl | exact i64_w _)⟩) hS0 ?_
  refine wpAnyH_take (i := 18) (v := .pointer (some ⟨g, 4, none⟩)) rfl (by kernel_rfl) (by kernel_rfl) (by kernel_rfl) (fun _ _ _ h => h) (Or.inl ⟨by kernel_rfl, fun W1 hS => by (go_simp <;> first | rfl | exact i64_w _)⟩) hS0 ?_
  refine wpAnyH_take (i := 19) (v := .int .i64 at_) rfl (by kernel_rfl) (by kernel_rfl) (by kernel_rfl) (fun _ _ _ h => h) (Or.inl ⟨by kernel_rfl, fun W1 hS => by obtain ⟨lx, hq, _⟩ := hS; obtain ⟨y0, y1, y2, y3, y4, y5, y6, y7⟩ := sched_Build.pl_cell hq; go_simp⟩) hS0 ?_
  refine wpAnyH_take (i := 20) (v := .int .i64 (wrap64 (per - at_))) rfl (by kernel_rfl) (by kernel_rfl) (by kernel_rfl) (fun _ _ _ h => h) (Or.inl ⟨by kernel_rfl, fun W1 hS => by (go_simp <;> first | rfl | exact i64_w _)⟩) hS0 ?_
  refine wpAnyH_all (rs := [10]) (by kernel_rfl) (by simp) ?_
  intro ix hix
  obtain rfl : ix = 10 := by simpa using hix
  clear hix
  refine sched_Build.callR #[] rfl (by kernel_rfl) Try.func27 (by kernel_rfl) rfl #[.pointer (some ⟨g, 0, none⟩), .int .i64 at_] rfl (by kernel_rfl) (by kernel_rfl) ?_
  refine (RR.out _ hS0 at_ HA.out).mono ?_
  rintro e W2 ⟨rfl, hbb⟩
  have hS1 := hS0.below hbb
  refine ⟨_, rfl, hS1, ?_⟩
  clear hbb
  refine wpAnyH_all (rs := [21]) (by kernel_rfl) (by simp) ?_
  intro ix hix
  obtain rfl : ix = 21 := by simpa using hix
  clear hix
  refine sched_Build.callR #[] rfl (by kernel_rfl) Try.func17 (by kernel_rfl) rfl #[.int .i64 left, .int .i64 (sched_Build.rt rates at_), .int .i64 (wrap64 (per - at_))] rfl (by kernel_rfl) (by kernel_rfl) ?_
  refine (sched_Level.calls k left (sched_Build.rt rates at_) (wrap64 (per - at_)) lv er _ LV.out).mono ?_
  rintro e W3 ⟨rfl, hbb⟩
  have hS2 := hS1.below hbb
  refine ⟨_, rfl, hS2, ?_⟩
  clear hbb
  refine wpAnyH_take (i := 22) (v := .tuple #[.int .i64 lv, .int .i64 er]) rfl (by kernel_rfl) (by kernel_rfl) (by kernel_rfl) (fun _ _ _ h => h) (Or.inl ⟨by kernel_rfl, fun W1 hS => by (go_simp <;> first | rfl | exact i64_w _)⟩) hS2 ?_
  refine wpAnyH_take (i := 23) (v := .int .i64 lv) rfl (by kernel_rfl) (by kernel_rfl) (by kernel_rfl) (fun _ _ _ h => h) (Or.inl ⟨by kernel_rfl, fun W1 hS => by (go_simp <;> first | rfl | exact i64_w _)⟩) hS2 ?_
  refine wpAnyH_take (i := 24) (v := .int .i64 er) rfl (by kernel_rfl) (by kernel_rfl) (by kernel_rfl) (fun _ _ _ h => h) (Or.inl ⟨by kernel_rfl, fun W1 hS => by (go_simp <;> first | rfl | exact i64_w _)⟩) hS2 ?_
  refine wpAnyH_take (i := 25) (v := .pointer (some ⟨g, 0, none⟩)) rfl (by kernel_rfl) (by kernel_rfl) (by kernel_rfl) (fun _ _ _ h => h) (Or.inl ⟨by kernel_rfl, fun W1 hS => by (go_simp <;> first | rfl | exact i64_w _)⟩) hS2 ?_
  refine wpAnyH_take (i := 26) (v := .pointer (some ⟨g, 6, none⟩)) rfl (by kernel_rfl) (by kernel_rfl) (by kernel_rfl) (fun _ _ _ h => h) (Or.inl ⟨by kernel_rfl, fun W1 hS => by (go_simp <;> first | rfl | exact i64_w _)⟩) hS2 ?_
  refine wpAnyH_all (rs := [27]) (by kernel_rfl) (by simp) ?_
  intro ix hix
  obtain rfl : ix = 27 := by simpa using hix
  clear hix
  obtain ⟨lx, hq, hk, hb⟩ := hS2
  obtain ⟨y0, y1, y2, y3, y4, y5, y6, y7⟩ := sched_Build.pl_cell hq
  have f6 := blk_frozen hq 6
  have hq2 := sched_Build.set_blk hq 6 (.int .i64 lv)
  have hk2 : KeepBut w (W3.setCell ⟨g, 6, none⟩ (.int .i64 lv)) g none := KeepBut.set_ hk 6 _
  have hb2 : Below g w (W3.setCell ⟨g, 6, none⟩ (.int .i64 lv)) := Below.setCell hb (p := ⟨g, 6, none⟩) (Nat.le_refl _) _
  refine sched_Build.skip (w' := W3.setCell ⟨g, 6, none⟩ (.int .i64 lv)) rfl rfl rfl (by go_simp) ?_
  refine ⟨⟨lv, hq2, hk2, hb2⟩, ?_⟩
  clear y0 y1 y2 y3 y4 y5 y6 y7 f6 hq hk hb hS0 hS1
  generalize W3.setCell ⟨g, 6, none⟩ (.int .i64 lv) = W4 at *
  have hq2 : W4.heap[g]? = some (.cells (sched_Build.pl kd pr A2 rates.length c2 per at_ left lv P7) 51 (0, 0)) := hq2
  refine sched_Build.norm (a' := { tmps := #[.pointer (some ⟨g, 0, none⟩), .int .i64 i, undef, undef, .int .i64 0, s5, s6, s7, s8, s9, s10, s11, s12, s13, s14, s15, s16, s17, s18, s19, s20, s21, s22, s23, s24, .bool true, .tuple #[.int .i64 lv, .int .i64 er], .pointer (some ⟨g, 0, none⟩), .pointer (some ⟨g, 0, none⟩), .pointer (some ⟨g, 0, none⟩), .pointer (some ⟨g, 5, none⟩), .int .i64 left, .pointer (some ⟨g, 0, none⟩), .pointer (some ⟨g, 0, none⟩), .pointer (some ⟨g, 0, none⟩), .pointer (some ⟨g, 4, none⟩), .int .i64 at_, .int .i64 (sched_Build.rt rates at_), .pointer (some ⟨g, 0, none⟩), .pointer (some ⟨g, 0, none⟩), .pointer (some ⟨g, 0, none⟩), .pointer (some ⟨g, 3, none⟩), .int .i64 per, .pointer (some ⟨g, 0, none⟩), .pointer (some ⟨g, 0, none⟩), .pointer (some ⟨g, 4, none⟩), .int .i64 at_, .int .i64 (wrap64 (per - at_)), .tuple #[.int .i64 lv, .int .i64 er], .int .i64 lv, .int .i64 er, .pointer (some ⟨g, 0, none⟩), .pointer (some ⟨g, 6, none⟩), undef, undef, undef, undef, undef, undef, undef, undef, undef, undef, undef], defers := [] }) (by kernel_rfl) ?_
  refine wpAnyH_done (by kernel_rfl) ?_ _
  obtain ⟨y0, y1, y2, y3, y4, y5, y6, y7⟩ := sched_Build.pl_cell hq2
  have HQ2 := Aside0.mk hq2
  have HK2 := Aside0.mk hk2
  have HB2 := Aside0.mk hb2
  clear hq2 hk2 hb2
  go_wp2
  repeat (go_quiet (fail); try go_wp2)
  go_ret
  exact ⟨by first | rfl | simp [*], HQ2.out, HK2.out, ⟨HB2.out.os, HB2.out.tape, HB2.out.output, HB2.out.size, HB2.out.block⟩⟩
 have tailF : ¬(at_ = 0 ∨ sched_Build.rt rates at_ ≠ sched_Build.rt rates (at_ - 1)) → ∀ (s5 s6 s7 s8 s9 s10 s11 s12 s13 s14 s15 s16 s17 s18 s19 s20 s21 s22 s23 s24 : Value) (W : World), W.heap[g]? = some (.cells (sched_Build.pl kd pr A2 rates.length c2 per at_ left level P7) 51 (0, 0)) → KeepBut w W g none → Below g w W → K2 { tmps := #[.pointer (some ⟨g, 0, none⟩), .int .i64 i, undef, undef, .int .i64 0, s5, s6, s7, s8, s9, s10, s11, s12, s13, s14, s15, s16, s17, s18, s19, s20, s21, s22, s23, s24, .bool false, undef, undef, undef, undef, undef, undef, undef, undef, undef, undef, undef, undef, undef, undef, undef, undef, undef, undef, undef, undef, undef, undef, undef, undef, undef, undef, undef, undef, undef, undef, undef, undef, undef, undef, undef, undef, undef, undef], defers := [] } W := by
  intro hc s5 s6 s7 s8 s9 s10 s11 s12 s13 s14 s15 s16 s17 s18 s19 s20 s21 s22 s23 s24 W hq2 hk2 hb2
  obtain rfl := HN.out hc
  clear hc
  refine hK2 _ _ ?_
  obtain ⟨y0, y1, y2, y3, y4, y5, y6, y7⟩ := sched_Build.pl_cell hq2
  have HQ2 := Aside0.mk hq2
  have HK2 := Aside0.mk hk2
  have HB2 := Aside0.mk hb2
  clear hq2 hk2 hb2
  go_wp2
  repeat (go_quiet (fail); try go_wp2)
  go_ret
  exact ⟨by first | rfl | simp [*], HQ2.out, HK2.out, ⟨HB2.out.os, HB2.out.tape, HB2.out.output, HB2.out.size, HB2.out.block⟩⟩
 have gl : g < w.heap.size := (Array.getElem?_eq_some_iff.1 HG.out).1
 have toS : ∀ W : World, Below w.heap.size w W → sched_Build.S w g kd pr A2 rates.length c2 per at_ left P7 W := fun W hb => ⟨level, (hb.block g gl).trans HG.out, KeepBut.of_below hb g none, hb.mono (Nat.le_of_lt gl)⟩
 have GL := Aside0.mk gl
 have TS := Aside0.mk toS
 have TT := Aside0.mk tailT
 have TF := Aside0.mk tailF
 clear gl toS tailT tailF
 have hS0 : Below w.heap.size w { w with drawn := w.drawn + 1 } := ⟨rfl, rfl, rfl, Nat.le_refl _, fun _ _ => rfl⟩
 refine wp_region_held (S := fun W1 => Below w.heap.size w W1) (by kernel_rfl) ?_
 by_cases c0 : at_ = 0
 ·have qe : (at_ == 0) = true := beq_iff_eq.mpr c0
  have C0 := Aside0.mk c0
  clear c0 q0
  refine wpAnyH_take (i := 0) (v := .pointer (some ⟨g, 0, none⟩)) rfl (by kernel_rfl) (by kernel_rfl) (by kernel_rfl) (fun _ _ _ h => h) (Or.inl ⟨by kernel_rfl, fun W1 hS => by go_simp⟩) hS0 ?_
  refine wpAnyH_take (i := 1) (v := .pointer (some ⟨g, 0, none⟩)) rfl (by kernel_rfl) (by kernel_rfl) (by kernel_rfl) (fun _ _ _ h => h) (Or.inl ⟨by kernel_rfl, fun W1 hS => by go_simp⟩) hS0 ?_
  refine wpAnyH_take (i := 2) (v := .pointer (some ⟨g, 4, none⟩)) rfl (by kernel_rfl) (by kernel_rfl) (by kernel_rfl) (fun _ _ _ h => h) (Or.inl ⟨by kernel_rfl, fun W1 hS => by go_simp⟩) hS0 ?_
  refine wpAnyH_take (i := 3) (v := .int .i64 at_) rfl (by kernel_rfl) (by kernel_rfl) (by kernel_rfl) (fun _ _ _ h => h) (Or.inl ⟨by kernel_rfl, fun W1 hS => by have hq := (hS.block g GL.out).trans HG.out; obtain ⟨y0, y1, y2, y3, y4, y5, y6, y7⟩ := sched_Build.pl_cell hq; go_simp⟩) hS0 ?_
  refine wpAnyH_take (i := 4) (v := .bool true) rfl (by kernel_rfl) (by kernel_rfl) (by kernel_rfl) (fun _ _ _ h => h) (Or.inl ⟨by kernel_rfl, fun W1 hS => by go_simp⟩) hS0 ?_
  refine wpAnyH_take (i := 5) (v := .bool true) rfl (by kernel_rfl) (by kernel_rfl) (by kernel_rfl) (fun _ _ _ h => h) (Or.inl ⟨by kernel_rfl, fun W1 hS => by go_simp⟩) hS0 ?_
  refine wpAnyH_take (i := 6) (v := undef) rfl (by kernel_rfl) (by kernel_rfl) (by kernel_rfl) (fun _ _ _ h => h) (Or.inr ⟨by kernel_rfl, rfl⟩) hS0 ?_
  refine wpAnyH_take (i := 7) (v := undef) rfl (by kernel_rfl) (by kernel_rfl) (by kernel_rfl) (fun _ _ _ h => h) (Or.inr ⟨by kernel_rfl, rfl⟩) hS0 ?_
  refine wpAnyH_take (i := 8) (v := undef) rfl (by kernel_rfl) (by kernel_rfl) (by kernel_rfl) (fun _ _ _ h => h) (Or.inr ⟨by kernel_rfl, rfl⟩) hS0 ?_
  refine wpAnyH_take (i := 9) (v := undef) rfl (by kernel_rfl) (by kernel_rfl) (by kernel_rfl) (fun _ _ _ h => h) (Or.inr ⟨by kernel_rfl, rfl⟩) hS0 ?_
  refine wpAnyH_take (i := 10) (v := undef) rfl (by kernel_rfl) (by kernel_rfl) (by kernel_rfl) (fun _ _ _ h => h) (Or.inr ⟨by kernel_rfl, rfl⟩) hS0 ?_
  refine wpAnyH_take (i := 11) (v := undef) rfl (by kernel_rfl) (by kernel_rfl) (by kernel_rfl) (fun _ _ _ h => h) (Or.inr ⟨by kernel_rfl, rfl⟩) hS0 ?_
  refine wpAnyH_take (i := 12) (v := undef) rfl (by kernel_rfl) (by kernel_rfl) (by kernel_rfl) (fun _ _ _ h => h) (Or.inr ⟨by kernel_rfl, rfl⟩) hS0 ?_
  refine wpAnyH_take (i := 13) (v := undef) rfl (by kernel_rfl) (by kernel_rfl) (by kernel_rfl) (fun _ _ _ h => h) (Or.inr ⟨by kernel_rfl, rfl⟩) hS0 ?_
  refine wpAnyH_take (i := 14) (v := undef) rfl (by kernel_rfl) (by kernel_rfl) (by kernel_rfl) (fun _ _ _ h => h) (Or.inr ⟨by kernel_rfl, rfl⟩) hS0 ?_
  refine wpAnyH_take (i := 15) (v := undef) rfl (by kernel_rfl) (by kernel_rfl) (by kernel_rfl) (fun _ _ _ h => h) (Or.inr ⟨by kernel_rfl, rfl⟩) hS0 ?_
  refine wpAnyH_take (i := 16) (v := undef) rfl (by kernel_rfl) (by kernel_rfl) (by kernel_rfl) (fun _ _ _ h => h) (Or.inr ⟨by kernel_rfl, rfl⟩) hS0 ?_
  refine wpAnyH_take (i := 17) (v := undef) rfl (by kernel_rfl) (by kernel_rfl) (by kernel_rfl) (fun _ _ _ h => h) (Or.inr ⟨by kernel_rfl, rfl⟩) hS0 ?_
  refine wpAnyH_take (i := 18) (v := undef) rfl (by kernel_rfl) (by kernel_rfl) (by kernel_rfl) (fun _ _ _ h => h) (Or.inr ⟨by kernel_rfl, rfl⟩) hS0 ?_
  refine wpAnyH_take (i := 19) (v := undef) rfl (by kernel_rfl) (by kernel_rfl) (by kernel_rfl) (fun _ _ _ h => h) (Or.inr ⟨by kernel_rfl, rfl⟩) hS0 ?_
  refine wpAnyH_take (i := 20) (v := .bool true) rfl (by kernel_rfl) (by kernel_rfl) (by kernel_rfl) (fun _ _ _ h => h) (Or.inl ⟨by kernel_rfl, fun W1 hS => by go_simp⟩) hS0 ?_
  refine sched_Build.norm (a' := { tmps := #[.pointer (some ⟨g, 0, none⟩), .int .i64 i, undef, undef, .int .i64 0, .pointer (some ⟨g, 0, none⟩), .pointer (some ⟨g, 0, none⟩), .pointer (some ⟨g, 4, none⟩), .int .i64 at_, .bool true, .bool true, undef, undef, undef, undef, undef, undef, undef, undef, undef, undef, undef, undef, undef, undef, .bool true, undef, undef, undef, undef, undef, undef, undef, undef, undef, undef, undef, undef, undef, undef, undef, undef, undef, undef, undef, undef, undef, undef, undef, undef, undef, undef, undef, undef, undef, undef, undef, undef, undef, undef, undef, undef, undef, undef], defers := [] }) (by kernel_rfl) ?_
  refine wpAnyH_done (by kernel_rfl) ?_ _
  exact TT.out (Or.inl C0.out) _ _ _ _ _ _ _ _ _ _ _ _ _ _ _ _ _ _ _ _ _ (TS.out _ hS0)
 ·have qe : (at_ == 0) = false := beq_eq_false_iff_ne.mpr c0
  have C0 := Aside0.mk c0
  have q0' : IntKind.i64.wrap (at_ - 1) = at_ - 1 := by rw [i64_w]; exact q0
  have hm : 0 ≤ at_ - 1 := by have := HA.out; omega
  have HM := Aside0.mk hm
  clear c0 hm
  refine wpAnyH_take (i := 0) (v := .pointer (some ⟨g, 0, none⟩)) rfl (by kernel_rfl) (by kernel_rfl) (by kernel_rfl) (fun _ _ _ h => h) (Or.inl ⟨by kernel_rfl, fun W1 hS => by go_simp⟩) hS0 ?_
  refine wpAnyH_take (i := 1) (v := .pointer (some ⟨g, 0, none⟩)) rfl (by kernel_rfl) (by kernel_rfl) (by kernel_rfl) (fun _ _ _ h => h) (Or.inl ⟨by kernel_rfl, fun W1 hS => by go_simp⟩) hS0 ?_
  refine wpAnyH_take (i := 2) (v := .pointer (some ⟨g, 4, none⟩)) rfl (by kernel_rfl) (by kernel_rfl) (by kernel_rfl) (fun _ _ _ h => h) (Or.inl ⟨by kernel_rfl, fun W1 hS => by go_simp⟩) hS0 ?_
  refine wpAnyH_take (i := 3) (v := .int .i64 at_) rfl (by kernel_rfl) (by kernel_rfl) (by kernel_rfl) (fun _ _ _ h => h) (Or.inl ⟨by kernel_rfl, fun W1 hS => by have hq := (hS.block g GL.out).trans HG.out; obtain ⟨y0, y1, y2, y3, y4, y5, y6, y7⟩ := sched_Build.pl_cell hq; go_simp⟩) hS0 ?_
  refine wpAnyH_take (i := 4) (v := .bool false) rfl (by kernel_rfl) (by kernel_rfl) (by kernel_rfl) (fun _ _ _ h => h) (Or.inl ⟨by kernel_rfl, fun W1 hS => by go_simp⟩) hS0 ?_
  refine wpAnyH_take (i := 5) (v := .bool false) rfl (by kernel_rfl) (by kernel_rfl) (by kernel_rfl) (fun _ _ _ h => h) (Or.inl ⟨by kernel_rfl, fun W1 hS => by go_simp⟩) hS0 ?_
  refine wpAnyH_take (i := 6) (v := .pointer (some ⟨g, 0, none⟩)) rfl (by kernel_rfl) (by kernel_rfl) (by kernel_rfl) (fun _ _ _ h => h) (Or.inl ⟨by kernel_rfl, fun W1 hS => by go_simp⟩) hS0 ?_
  refine wpAnyH_take (i := 7) (v := .pointer (some ⟨g, 0, none⟩)) rfl (by kernel_rfl) (by kernel_rfl) (by kernel_rfl) (fun _ _ _ h => h) (Or.inl ⟨by kernel_rfl, fun W1 hS => by go_simp⟩) hS0 ?_
  refine wpAnyH_take (i := 8) (v := .pointer (some ⟨g, 0, none⟩)) rfl (by kernel_rfl) (by kernel_rfl) (by kernel_rfl) (fun _ _ _ h => h) (Or.inl ⟨by kernel_rfl, fun W1 hS => by go_simp⟩) hS0 ?_
  refine wpAnyH_take (i := 9) (v := .pointer (some ⟨g, 4, none⟩)) rfl (by kernel_rfl) (by kernel_rfl) (by kernel_rfl) (fun _ _ _ h => h) (Or.inl ⟨by kernel_rfl, fun W1 hS => by go_simp⟩) hS0 ?_
  refine wpAnyH_take (i := 10) (v := .int .i64 at_) rfl (by kernel_rfl) (by kernel_rfl) (by kernel_rfl) (fun _ _ _ h => h) (Or.inl ⟨by kernel_rfl, fun W1 hS => by have hq := (hS.block g GL.out).trans HG.out; obtain ⟨y0, y1, y2, y3, y4, y5, y6, y7⟩ := sched_Build.pl_cell hq; go_simp⟩) hS0 ?_
  refine wpAnyH_take (i := 12) (v := .pointer (some ⟨g, 0, none⟩)) rfl (by kernel_rfl) (by kernel_rfl) (by kernel_rfl) (fun _ _ _ h => h) (Or.inl ⟨by kernel_rfl, fun W1 hS => by go_simp⟩) hS0 ?_
  refine wpAnyH_take (i := 13) (v := .pointer (some ⟨g, 0, none⟩)) rfl (by kernel_rfl) (by kernel_rfl) (by kernel_rfl) (fun _ _ _ h => h) (Or.inl ⟨by kernel_rfl, fun W1 hS => by go_simp⟩) hS0 ?_
  refine wpAnyH_take (i := 14) (v := .pointer (some ⟨g, 0, none⟩)) rfl (by kernel_rfl) (by kernel_rfl) (by kernel_rfl) (fun _ _ _ h => h) (Or.inl ⟨by kernel_rfl, fun W1 hS => by go_simp⟩) hS0 ?_
  refine wpAnyH_take (i := 15) (v := .pointer (some ⟨g, 4, none⟩)) rfl (by kernel_rfl) (by kernel_rfl) (by kernel_rfl) (fun _ _ _ h => h) (Or.inl ⟨by kernel_rfl, fun W1 hS => by go_simp⟩) hS0 ?_
  refine wpAnyH_take (i := 16) (v := .int .i64 at_) rfl (by kernel_rfl) (by kernel_rfl) (by kernel_rfl) (fun _ _ _ h => h) (Or.inl ⟨by kernel_rfl, fun W1 hS => by have hq := (hS.block g GL.out).trans HG.out; obtain ⟨y0, y1, y2, y3, y4, y5, y6, y7⟩ := sched_Build.pl_cell hq; go_simp⟩) hS0 ?_
  refine wpAnyH_take (i := 17) (v := .int .i64 (at_ - 1)) rfl (by kernel_rfl) (by kernel_rfl) (by kernel_rfl) (fun _ _ _ h => h) (Or.inl ⟨by kernel_rfl, fun W1 hS => by go_simp⟩) hS0 ?_
  obtain ⟨bn, hbn⟩ : ∃ bn : Bool, (sched_Build.rt rates at_ != sched_Build.rt rates (at_ - 1)) = bn := ⟨_, rfl⟩
  have FIN : ∀ W : World, Below w.heap.size w W → K2 { tmps := #[.pointer (some ⟨g, 0, none⟩), .int .i64 i, undef, undef, .int .i64 0, .pointer (some ⟨g, 0, none⟩), .pointer (some ⟨g, 0, none⟩), .pointer (some ⟨g, 4, none⟩), .int .i64 at_, .bool false, .bool false, .pointer (some ⟨g, 0, none⟩), .pointer (some ⟨g, 0, none⟩), .pointer (some ⟨g, 0, none⟩), .pointer (some ⟨g, 4, none⟩), .int .i64 at_, .int .i64 (sched_Build.rt rates at_), .pointer (some ⟨g, 0, none⟩), .pointer (some ⟨g, 0, none⟩), .pointer (some ⟨g, 0, none⟩), .pointer (some ⟨g, 4, none⟩), .int .i64 at_, .int .i64 (at_ - 1), .int .i64 (sched_Build.rt rates (at_ - 1)), .bool bn, .bool bn, undef, undef, undef, undef, undef, undef, undef, undef, undef, undef, undef, undef, undef, undef, undef, undef, undef, undef, undef, undef, undef, undef, undef, undef, undef, undef, undef, undef, undef, undef, undef, undef, undef, undef, undef, undef, undef, undef], defers := [] } W := by
   intro W hW
   cases bn with
   | true =>
    exact TT.out (Or.inr (bne_iff_ne.1 hbn)) _ _ _ _ _ _ _ _ _ _ _ _ _ _ _ _ _ _ _ _ _ (TS.out _ hW)
   | false =>
    have e : sched_Build.rt rates at_ = sched_Build.rt rates (at_ - 1) := by simpa using hbn
    exact TF.out (fun h => h.elim C0.out (fun n => n e)) _ _ _ _ _ _ _ _ _ _ _ _ _ _ _ _ _ _ _ _ _ ((hW.block g GL.out).trans HG.out) (KeepBut.of_below hW g none) (hW.mono (Nat.le_of_lt GL.out))
  have FN := Aside0.mk FIN
  clear FIN
  refine sched_Build.norm (a' := { tmps := #[.pointer (some ⟨g, 0, none⟩), .int .i64 i, undef, undef, .int .i64 0, .pointer (some ⟨g, 0, none⟩), .pointer (some ⟨g, 0, none⟩), .pointer (some ⟨g, 4, none⟩), .int .i64 at_, .bool false, .bool false, .pointer (some ⟨g, 0, none⟩), .pointer (some ⟨g, 0, none⟩), .pointer (some ⟨g, 0, none⟩), .pointer (some ⟨g, 4, none⟩), .int .i64 at_, undef, .pointer (some ⟨g, 0, none⟩), .pointer (some ⟨g, 0, none⟩), .pointer (some ⟨g, 0, none⟩), .pointer (some ⟨g, 4, none⟩), .int .i64 at_, .int .i64 (at_ - 1), undef, undef, undef, undef, undef, undef, undef, undef, undef, undef, undef, undef, undef, undef, undef, undef, undef, undef, undef, undef, undef, undef, undef, undef, undef, undef, undef, undef, undef, undef, undef, undef, undef, undef, undef, undef, undef, undef, undef, undef, undef], defers := [] }) (by kernel_rfl) ?_
  refine wpAnyH_all (rs := [11]) (by kernel_rfl) (by simp) ?_
  intro ix hix
  obtain rfl : ix = 11 := by simpa using hix
  clear hix
  refine sched_Build.callR #[] rfl (by kernel_rfl) Try.func27 (by kernel_rfl) rfl #[.pointer (some ⟨g, 0, none⟩), .int .i64 at_] rfl (by kernel_rfl) (by kernel_rfl) ?_
  refine (RR.out _ (TS.out _ hS0) at_ HA.out).mono ?_
  rintro e W2 ⟨rfl, hbb⟩
  have hS1 : Below w.heap.size w W2 := hS0.trans (hbb.mono hS0.size)
  refine ⟨_, rfl, hS1, ?_⟩
  clear hbb
  refine wpAnyH_all (rs := [18]) (by kernel_rfl) (by simp) ?_
  intro ix hix
  obtain rfl : ix = 18 := by simpa using hix
  clear hix
  refine sched_Build.callR #[] rfl (by kernel_rfl) Try.func27 (by kernel_rfl) rfl #[.pointer (some ⟨g, 0, none⟩), .int .i64 (at_ - 1)] rfl (by kernel_rfl) (by kernel_rfl) ?_
  refine (RR.out _ (TS.out _ hS1) (at_ - 1) HM.out).mono ?_
  rintro e W3 ⟨rfl, hbb⟩
  have hS2 : Below w.heap.size w W3 := hS1.trans (hbb.mono hS1.size)
  refine ⟨_, rfl, hS2, ?_⟩
  clear hbb
  refine wpAnyH_take (i := 19) (v := .bool bn) rfl (by kernel_rfl) (by kernel_rfl) (by kernel_rfl) (fun _ _ _ h => h) (Or.inl ⟨by kernel_rfl, fun W1 hS => by go_simp⟩) hS2 ?_
  refine wpAnyH_take (i := 20) (v := .bool bn) rfl (by kernel_rfl) (by kernel_rfl) (by kernel_rfl) (fun _ _ _ h => h) (Or.inl ⟨by kernel_rfl, fun W1 hS => by go_simp⟩) hS2 ?_
  refine sched_Build.norm (a' := { tmps := #[.pointer (some ⟨g, 0, none⟩), .int .i64 i, undef, undef, .int .i64 0, .pointer (some ⟨g, 0, none⟩), .pointer (some ⟨g, 0, none⟩), .pointer (some ⟨g, 4, none⟩), .int .i64 at_, .bool false, .bool false, .pointer (some ⟨g, 0, none⟩), .pointer (some ⟨g, 0, none⟩), .pointer (some ⟨g, 0, none⟩), .pointer (some ⟨g, 4, none⟩), .int .i64 at_, .int .i64 (sched_Build.rt rates at_), .pointer (some ⟨g, 0, none⟩), .pointer (some ⟨g, 0, none⟩), .pointer (some ⟨g, 0, none⟩), .pointer (some ⟨g, 4, none⟩), .int .i64 at_, .int .i64 (at_ - 1), .int .i64 (sched_Build.rt rates (at_ - 1)), .bool bn, .bool bn, undef, undef, undef, undef, undef, undef, undef, undef, undef, undef, undef, undef, undef, undef, undef, undef, undef, undef, undef, undef, undef, undef, undef, undef, undef, undef, undef, undef, undef, undef, undef, undef, undef, undef, undef, undef, undef, undef], defers := [] }) (by kernel_rfl) ?_
  refine wpAnyH_done (by kernel_rfl) ?_ _
  exact FN.out _ hS2
section
open Go.Proofs.YtchpeobenlnemaaW.PrintLast
/-- A call of a bound method that stands in a temporary. -/
theorem sched_Build.goesB {P : Program} {ops : Array Oper} {Q : Exit → Act → World → Prop} {rest : List Oper} {oi : Oper} {a : Act} {w : World} (N : Option Tmp) (hd : oi.dst = N) (hg : oi.guard = none) {f : FuncId} {fn : Func} {c : Operand} {ar : Array Operand} {ts : Array TypeId} {bs : Array Value} (hf : P.funcs[f]? = some fn) (hname : (fn.name == "runtime.NumGoroutine") = false) (hb : fn.body.isSome = true) (args : Array Value)
  (hop : oi.op = .call { callee := .value c, args := ar, argTypes := ts }) (hc : a.eval c = .func (.func f) bs #[]) (hargs : bs ++ ar.map a.eval = args)
  (h : Calls P f args w fun e w' => ∃ v, e = .returned v ∧ wpList P ops Q rest (a.put N v) w') : wpList P ops Q (oi :: rest) a w := by
 refine wpList_plain hg fun K hK => ?_
 have he := enters_ hf hname hb args w
 have hrun : (execOp a.eval oi).run P w = .ok (.enter f args) w := by
  unfold execOp
  simp [hop, resolve, Deferred.ofValue, invoke, hc, hargs, he]
 unfold Oper.wp
 rw [hrun, Oper.upon_enter]
 refine h.mono fun e w'' hh => ?_
 obtain ⟨v, rfl, hk⟩ := hh
 subst hd
 exact hK _ _ hk
end
theorem sched_Build.grown (W : World) (b j : Nat) (v : Value) : W.grownBy (W.setCell ⟨b, j, none⟩ v) (some b) := ⟨rfl, rfl, rfl, by simp [World.setCell], fun k _ hk => Below.heap_setCell _ _ _ k (fun e => hk (by rw [e]))⟩
/-- What is paid ahead of the last period, and the level payment then. -/
def sched_Build.pay (k : Nat) (kd : Int) (rates parts : List Int) (per at_ left level i : Int) : Option (Int × Int) :=
 if kd = 1 then (if at_ = 0 ∨ sched_Build.rt rates at_ ≠ sched_Build.rt rates (at_ - 1) then (sched_Level.f k left (sched_Build.rt rates at_) (wrap64 (per - at_))).bind fun v => some (mn v.1 (wrap64 (left + i)), v.1) else some (mn level (wrap64 (left + i)), level))
 else if kd = 2 then some (wrap64 (i + rd parts at_), level) else if kd = 3 then some (i, level) else if kd = 4 then some (0, level) else none
/-- The rows from a period on. -/
def sched_Build.rows (k : Nat) (kd : Int) (rates parts : List Int) (per : Int) : Nat → Int → Int → Int → List S43 → Option (List S43 × Int)
 | 0, _, _, _, _ => none
 | n + 1, at_, left, level, out =>
  if at_ < per then
   (rate_Interest.f k left (sched_Build.rt rates at_)).bind fun v =>
    if v.2 = 0 then
     (if at_ < per - 1 then sched_Build.pay k kd rates parts per at_ left level v.1 else some (wrap64 (left + v.1), level)).bind fun q =>
      if mx (wrap64 (left - wrap64 (q.1 - v.1))) q.1 > 10000000000000 then some ([], 3)
      else sched_Build.rows k kd rates parts per n (at_ + 1) (wrap64 (left - wrap64 (q.1 - v.1))) q.2 (out ++ [⟨v.1, q.1, wrap64 (q.1 - v.1), wrap64 (left - wrap64 (q.1 - v.1))⟩])
    else some ([], v.2)
  else some (out, 0)
def sched_Build.ok (k : Nat) (kd : Int) (rates : List Int) (per : Int) : Prop := 700 ≤ k ∧ 1 ≤ kd ∧ kd ≤ 4 ∧ 1 ≤ per ∧ per ≤ 600 ∧ 1 ≤ rates.length ∧ rates.length ≤ 600
instance (k : Nat) (kd : Int) (rates : List Int) (per : Int) : Decidable (sched_Build.ok k kd rates per) := inferInstanceAs (Decidable (_ ∧ _ ∧ _ ∧ _ ∧ _ ∧ _ ∧ _))
def sched_Build.f (k : Nat) (a0_0 : Int) (a0_1 : Int) (l0_2 : List Int) (a0_3 : Int) : Option (List S43 × Int) :=
 (sched_Check.f k a0_0 a0_1 l0_2 a0_3).bind fun e => if e = 0 then
  (if sched_Build.ok k a0_0 l0_2 a0_3 then (money_Split.f k a0_1 (List.replicate a0_3.toNat 1)).bind fun sp => if sp.2 = 0 ∧ (sp.1.length : Int) = a0_3 then sched_Build.rows k a0_0 l0_2 sp.1 a0_3 (a0_3.toNat + 1) 0 a0_1 0 [] else none else none)
  else some ([], e)
set_option maxHeartbeats 4000000 in
set_option maxRecDepth 100000 in
theorem sched_Build.calls (k : Nat) (a0_0 : Int) (a0_1 : Int) (A0_2 : Option Addr) (c0_2 : Nat) (l0_2 : List Int) (a0_3 : Int) (r1 : List S43) (r2 : Int) (w : World) (hr0_2 : Kd.C (Kd.int .i64) w A0_2 l0_2.length l0_2) (hc0_2 : l0_2.length ≤ c0_2) (h : sched_Build.f k a0_0 a0_1 l0_2 a0_3 = some (r1, r2)) :
  Calls Try.prog 11 #[.agg #[.int .i64 a0_0, .int .i64 a0_1, .slice A0_2 l0_2.length c0_2, .int .i64 a0_3]] w fun e w' => ∃ v0_ : Value, e = .returned (.tuple #[v0_, .int .i64 r2]) ∧ Kd.R k43 43 w' w.heap.size (fun _ => True) v0_ r1 ∧ Below w.heap.size w w' := by
 unfold sched_Build.f at h
 obtain ⟨e0, he, h⟩ := Option.bind_eq_some_iff.1 h
 have HE := Aside0.mk he
 have HR := Aside0.mk hr0_2
 have HC := Aside0.mk hc0_2
 clear he hr0_2 hc0_2
 obtain ⟨N, hN⟩ : ∃ N : Nat, N = w.heap.size := ⟨_, rfl⟩
 go_enter Try.func11, Try.ntmps11
 go_upto_region 1 with (fail)
 have b1 := blk_new w (.cells #[.int .i64 a0_0, .int .i64 a0_1, .slice A0_2 l0_2.length c0_2, .int .i64 a0_3] 27 (0, 0))
 have y1 := below_alloc (Below.refl w.heap.size w) (.cells #[.int .i64 a0_0, .int .i64 a0_1, .slice A0_2 l0_2.length c0_2, .int .i64 a0_3] 27 (0, 0))
 have C1 := Aside0.mk (Kd.C_below HR.out y1)
 have s1 := World.size_alloc w (.cells #[.int .i64 a0_0, .int .i64 a0_1, .slice A0_2 l0_2.length c0_2, .int .i64 a0_3] 27 (0, 0))
 generalize w.alloc (.cells #[.int .i64 a0_0, .int .i64 a0_1, .slice A0_2 l0_2.length c0_2, .int .i64 a0_3] 27 (0, 0)) = W1 at *
 rw [← hN] at b1 y1 s1 ⊢
 have z0 := (blk_cell b1 0).trans rfl
 have z1 := (blk_cell b1 1).trans rfl
 have z2 := (blk_cell b1 2).trans rfl
 have z3 := (blk_cell b1 3).trans rfl
 have B1 := Aside0.mk b1
 have Y1 := Aside0.mk y1
 have S1 := Aside0.mk s1
 have HN := Aside0.mk hN
 clear b1 y1 s1 hN
 by_cases c0 : e0 = 0
 ·rw [if_pos c0] at h
  subst c0
  go_upto_region 4 with (first | (go_at_call 15; go_must ((with_reducible refine (sched_Check.calls k a0_0 a0_1 A0_2 c0_2 l0_2 a0_3 0 _ C1.out HC.out HE.out).mono ?_)); rintro e W2 ⟨rfl, hb2⟩))
  have lt1 : N < W1.heap.size := (Array.getElem?_eq_some_iff.1 B1.out).1
  have B2 := Aside0.mk ((hb2.block N lt1).trans B1.out)
  have Y2 := Aside0.mk (Y1.out.trans (hb2.mono (Nat.le_of_lt lt1)))
  have C2 := Aside0.mk (Kd.C_below C1.out hb2)
  clear z0 z1 z2 z3 hb2 B1 Y1 C1 S1
  have z0 := (blk_cell B2.out 0).trans rfl
  have z1 := (blk_cell B2.out 1).trans rfl
  have z2 := (blk_cell B2.out 2).trans rfl
  have z3 := (blk_cell B2.out 3).trans rfl
  go_upto_region 5 with (fail)
  split at h
  case isFalse => exact absurd h (by simp)
  rename_i hok
  obtain ⟨⟨parts, e1⟩, hsp, h⟩ := Option.bind_eq_some_iff.1 h
  dsimp only at h
  split at h
  case isFalse => exact absurd h (by simp)
  rename_i hp
  obtain ⟨hp1, hp2⟩ := hp
  subst hp1
  have HOK := Aside0.mk hok
  have HSP := Aside0.mk hsp
  have HP2 := Aside0.mk hp2
  have HH := Aside0.mk h
  clear hok hsp hp2 h z0 z1 z2 z3
  have lt2 : N < W2.heap.size := (Array.getElem?_eq_some_iff.1 B2.out).1
  have P3 : (W2.alloc (.cells (sched_Build.pl a0_0 a0_1 A0_2 l0_2.length c0_2 a0_3 0 a0_1 0 (.slice none 0 0)) 51 (0, 0))).heap[W2.heap.size]? = some (.cells (sched_Build.pl a0_0 a0_1 A0_2 l0_2.length c0_2 a0_3 0 a0_1 0 (.slice none 0 0)) 51 (0, 0)) := blk_new W2 _
  have y3 := below_alloc (Below.refl W2.heap.size W2) (.cells (sched_Build.pl a0_0 a0_1 A0_2 l0_2.length c0_2 a0_3 0 a0_1 0 (.slice none 0 0)) 51 (0, 0))
  have s3 := World.size_alloc W2 (.cells (sched_Build.pl a0_0 a0_1 A0_2 l0_2.length c0_2 a0_3 0 a0_1 0 (.slice none 0 0)) 51 (0, 0))
  unfold sched_Build.pl at P3 y3 s3
  generalize W2.alloc (.cells #[.int .i64 a0_0, .int .i64 a0_1, .slice A0_2 l0_2.length c0_2, .int .i64 a0_3, .int .i64 0, .int .i64 a0_1, .int .i64 0, .slice none 0 0] 51 (0, 0)) = W3 at *
  have B3 := (y3.block N lt2).trans B2.out
  have Y3 := Aside0.mk (Y2.out.trans (y3.mono (Nat.le_of_lt lt2)))
  have C3 := Aside0.mk (Kd.C_below C2.out y3)
  obtain ⟨g, hg⟩ : ∃ g, g = W2.heap.size := ⟨_, rfl⟩
  rw [← hg] at P3 s3 lt2 ⊢
  have G3 := Aside0.mk s3
  have NG := Aside0.mk lt2
  have PP := Aside0.mk P3
  have BB := Aside0.mk B3
  clear y3 hg C2 Y2 B2 s3 lt2 P3 B3
  have hS0 : (∃ P7, ({ W3 with drawn := W3.drawn + 1 } : World).heap[g]? = some (.cells (sched_Build.pl a0_0 a0_1 A0_2 l0_2.length c0_2 a0_3 0 a0_1 0 P7) 51 (0, 0))) ∧ ({ W3 with drawn := W3.drawn + 1 } : World).heap[N]? = some (.cells #[.int .i64 a0_0, .int .i64 a0_1, .slice A0_2 l0_2.length c0_2, .int .i64 a0_3] 27 (0, 0)) ∧ Below N w { W3 with drawn := W3.drawn + 1 } := ⟨⟨_, PP.out⟩, BB.out, Y3.out.drew⟩
  refine wp_region_held (S := fun W => (∃ P7, W.heap[g]? = some (.cells (sched_Build.pl a0_0 a0_1 A0_2 l0_2.length c0_2 a0_3 0 a0_1 0 P7) 51 (0, 0))) ∧ W.heap[N]? = some (.cells #[.int .i64 a0_0, .int .i64 a0_1, .slice A0_2 l0_2.length c0_2, .int .i64 a0_3] 27 (0, 0)) ∧ Below N w W) (by kernel_rfl) ?_
  refine wpAnyH_take (i := 0) (v := .pointer (some ⟨g, 0, none⟩)) rfl (by kernel_rfl) (by kernel_rfl) (by kernel_rfl) (fun _ _ _ h => h) (Or.inl ⟨by kernel_rfl, fun W1 hS => by go_simp⟩) hS0 ?_
  refine wpAnyH_take (i := 1) (v := .pointer (some ⟨N, 1, none⟩)) rfl (by kernel_rfl) (by kernel_rfl) (by kernel_rfl) (fun _ _ _ h => h) (Or.inl ⟨by kernel_rfl, fun W1 hS => by go_simp⟩) hS0 ?_
  refine wpAnyH_take (i := 2) (v := .int .i64 a0_1) rfl (by kernel_rfl) (by kernel_rfl) (by kernel_rfl) (fun _ _ _ h => h) (Or.inl ⟨by kernel_rfl, fun W1 hS => by have y1 : W1.cell? ⟨N, 1, none⟩ = some (.int .i64 a0_1) := (blk_cell hS.2.1 1).trans rfl; have y3 : W1.cell? ⟨N, 3, none⟩ = some (.int .i64 a0_3) := (blk_cell hS.2.1 3).trans rfl; go_simp⟩) hS0 ?_
  refine wpAnyH_take (i := 4) (v := .pointer (some ⟨N, 3, none⟩)) rfl (by kernel_rfl) (by kernel_rfl) (by kernel_rfl) (fun _ _ _ h => h) (Or.inl ⟨by kernel_rfl, fun W1 hS => by go_simp⟩) hS0 ?_
  refine wpAnyH_take (i := 5) (v := .int .i64 a0_3) rfl (by kernel_rfl) (by kernel_rfl) (by kernel_rfl) (fun _ _ _ h => h) (Or.inl ⟨by kernel_rfl, fun W1 hS => by have y1 : W1.cell? ⟨N, 1, none⟩ = some (.int .i64 a0_1) := (blk_cell hS.2.1 1).trans rfl; have y3 : W1.cell? ⟨N, 3, none⟩ = some (.int .i64 a0_3) := (blk_cell hS.2.1 3).trans rfl; go_simp⟩) hS0 ?_
  refine wpAnyH_all (rs := [3]) (by kernel_rfl) (by simp) ?_
  intro ix hix
  obtain rfl : ix = 3 := by simpa using hix
  clear hix
  refine sched_Build.step (v := .slice (some ⟨W3.heap.size, 0, none⟩) 1 1) (w' := ({ W3 with drawn := W3.drawn + 1 } : World).alloc (.cells #[.int .i64 1] 2)) rfl rfl (by go_simp) ?_
  have y4 := below_alloc (Below.refl ({ W3 with drawn := W3.drawn + 1 } : World).heap.size { W3 with drawn := W3.drawn + 1 }) (.cells #[.int .i64 1] 2)
  have CL : Kd.C (Kd.int .i64) (({ W3 with drawn := W3.drawn + 1 } : World).alloc (.cells #[.int .i64 1] 2)) (some ⟨W3.heap.size, 0, none⟩) 1 [1] := by
   have o := World.ownsRow_lit (base := W3.heap.size) (e := 2) (size := 1) { W3 with drawn := W3.drawn + 1 } #[Value.int .i64 1] 1 (Nat.le_refl _) (by decide) rfl
   exact (Kd.R_reads' (Kd.R_of_own (xs := [1]) (ok := fun _ => True) (h1 := fun _ => rfl) o (fun _ _ => trivial))).2.2
  have g3 := G3.out
  have hS1 : (∃ P7, (({ W3 with drawn := W3.drawn + 1 } : World).alloc (.cells #[.int .i64 1] 2)).heap[g]? = some (.cells (sched_Build.pl a0_0 a0_1 A0_2 l0_2.length c0_2 a0_3 0 a0_1 0 P7) 51 (0, 0))) ∧ (({ W3 with drawn := W3.drawn + 1 } : World).alloc (.cells #[.int .i64 1] 2)).heap[N]? = some (.cells #[.int .i64 a0_0, .int .i64 a0_1, .slice A0_2 l0_2.length c0_2, .int .i64 a0_3] 27 (0, 0)) ∧ Below N w (({ W3 with drawn := W3.drawn + 1 } : World).alloc (.cells #[.int .i64 1] 2)) :=
   ⟨⟨_, (y4.block g (by show g < W3.heap.size; omega)).trans PP.out⟩, (y4.block N (by show N < W3.heap.size; have := NG.out; omega)).trans BB.out, hS0.2.2.trans (y4.mono (by show N ≤ W3.heap.size; have := NG.out; omega))⟩
  refine ⟨hS1, ?_⟩
  refine wpAnyH_all (rs := [6]) (by kernel_rfl) (by simp) ?_
  intro ix hix
  obtain rfl : ix = 6 := by simpa using hix
  clear hix
  clear y4 g3
  have L3 := Aside0.mk (show W3.heap.size ≤ (({ W3 with drawn := W3.drawn + 1 } : World).alloc (.cells #[.int .i64 1] 2)).heap.size by rw [World.size_alloc]; exact Nat.le_succ _)
  generalize (({ W3 with drawn := W3.drawn + 1 } : World).alloc (.cells #[.int .i64 1] 2)) = W4 at *
  have hrep : slices_Repeat_int64_int64.f k [1] a0_3 = some (List.replicate a0_3.toNat 1) := by
   unfold slices_Repeat_int64_int64.f
   rw [if_pos ⟨HOK.out.1, rfl, HOK.out.2.2.2.1, HOK.out.2.2.2.2.1⟩]
  refine sched_Build.callR #[] rfl (by kernel_rfl) Try.func22 (by kernel_rfl) rfl #[.slice (some ⟨W3.heap.size, 0, none⟩) 1 1, .int .i64 a0_3] rfl (by kernel_rfl) (by kernel_rfl) ?_
  refine (slices_Repeat_int64_int64.calls k (some ⟨W3.heap.size, 0, none⟩) 1 [1] a0_3 (List.replicate a0_3.toNat 1) W4 CL (Nat.le_refl 1) hrep).mono ?_
  rintro e W5 ⟨v0, rfl, hR5, hb5⟩
  obtain ⟨A5, c5, rfl, hle5, hC5⟩ := Kd.R_reads hR5
  have lt4 : N < W4.heap.size := (Array.getElem?_eq_some_iff.1 hS1.2.1).1
  have gt4 : g < W4.heap.size := by
   obtain ⟨P7, hq⟩ := hS1.1
   exact (Array.getElem?_eq_some_iff.1 hq).1
  have hS2 : (∃ P7, W5.heap[g]? = some (.cells (sched_Build.pl a0_0 a0_1 A0_2 l0_2.length c0_2 a0_3 0 a0_1 0 P7) 51 (0, 0))) ∧ W5.heap[N]? = some (.cells #[.int .i64 a0_0, .int .i64 a0_1, .slice A0_2 l0_2.length c0_2, .int .i64 a0_3] 27 (0, 0)) ∧ Below N w W5 := by
   obtain ⟨⟨P7, hq⟩, hn, hb⟩ := hS1
   exact ⟨⟨P7, (hb5.block g gt4).trans hq⟩, (hb5.block N lt4).trans hn, hb.trans (hb5.mono (Nat.le_of_lt lt4))⟩
  refine ⟨_, rfl, hS2, ?_⟩
  have lt5 : N < W5.heap.size := Nat.lt_of_lt_of_le lt4 hb5.size
  have gt5 : g < W5.heap.size := Nat.lt_of_lt_of_le gt4 hb5.size
  clear hS0 hS1 hR5 CL hrep lt4 gt4 hb5
  refine wpAnyH_all (rs := [7]) (by kernel_rfl) (by simp) ?_
  intro ix hix
  obtain rfl : ix = 7 := by simpa using hix
  clear hix
  refine sched_Build.callR #[] rfl (by kernel_rfl) Try.func21 (by kernel_rfl) rfl #[.int .i64 a0_1, .slice A5 (List.replicate a0_3.toNat (1 : Int)).length c5] rfl (by kernel_rfl) (by kernel_rfl) ?_
  refine (money_Split.calls k a0_1 A5 c5 (List.replicate a0_3.toNat 1) parts 0 W5 hC5 hle5 HSP.out).mono ?_
  rintro e W6 ⟨v6, rfl, hR6, hb6⟩
  obtain ⟨A6, c6, rfl, hle6, hC6⟩ := Kd.R_reads hR6
  have hS3 : (∃ P7, W6.heap[g]? = some (.cells (sched_Build.pl a0_0 a0_1 A0_2 l0_2.length c0_2 a0_3 0 a0_1 0 P7) 51 (0, 0))) ∧ W6.heap[N]? = some (.cells #[.int .i64 a0_0, .int .i64 a0_1, .slice A0_2 l0_2.length c0_2, .int .i64 a0_3] 27 (0, 0)) ∧ Below N w W6 := by
   obtain ⟨⟨P7, hq⟩, hn, hb⟩ := hS2
   exact ⟨⟨P7, (hb6.block g gt5).trans hq⟩, (hb6.block N lt5).trans hn, hb.trans (hb6.mono (Nat.le_of_lt lt5))⟩
  refine ⟨_, rfl, hS3, ?_⟩
  have o6 := Kd.own_of_R hR6
  clear hS2 hC5 hle5
  refine wpAnyH_take (i := 8) (v := .tuple #[.slice A6 parts.length c6, .int .i64 0]) rfl (by kernel_rfl) (by kernel_rfl) (by kernel_rfl) (fun _ _ _ h => h) (Or.inl ⟨by kernel_rfl, fun W1 hS => by go_simp⟩) hS3 ?_
  refine wpAnyH_take (i := 9) (v := .slice A6 parts.length c6) rfl (by kernel_rfl) (by kernel_rfl) (by kernel_rfl) (fun _ _ _ h => h) (Or.inl ⟨by kernel_rfl, fun W1 hS => by go_simp⟩) hS3 ?_
  refine wpAnyH_take (i := 10) (v := .int .i64 0) rfl (by kernel_rfl) (by kernel_rfl) (by kernel_rfl) (fun _ _ _ h => h) (Or.inl ⟨by kernel_rfl, fun W1 hS => by go_simp⟩) hS3 ?_
  refine wpAnyH_take (i := 11) (v := .pointer (some ⟨g, 0, none⟩)) rfl (by kernel_rfl) (by kernel_rfl) (by kernel_rfl) (fun _ _ _ h => h) (Or.inl ⟨by kernel_rfl, fun W1 hS => by go_simp⟩) hS3 ?_
  refine wpAnyH_take (i := 12) (v := .pointer (some ⟨g, 7, none⟩)) rfl (by kernel_rfl) (by kernel_rfl) (by kernel_rfl) (fun _ _ _ h => h) (Or.inl ⟨by kernel_rfl, fun W1 hS => by go_simp⟩) hS3 ?_
  refine wpAnyH_all (rs := [13]) (by kernel_rfl) (by simp) ?_
  intro ix hix
  obtain rfl : ix = 13 := by simpa using hix
  clear hix
  obtain ⟨⟨P7, hq⟩, hn, hb⟩ := hS3
  obtain ⟨y0, y1, y2, y3, y4, y5, y6, y7⟩ := sched_Build.pl_cell hq
  have f7 := blk_frozen hq 7
  have hq7 := sched_Build.set_blk hq 7 (.slice A6 parts.length c6)
  have hn7 : (W6.setCell ⟨g, 7, none⟩ (.slice A6 parts.length c6)).heap[N]? = _ := (Below.heap_setCell W6 ⟨g, 7, none⟩ _ N (Nat.ne_of_lt NG.out)).trans hn
  have hb7 : Below N w (W6.setCell ⟨g, 7, none⟩ (.slice A6 parts.length c6)) := Below.setCell hb (p := ⟨g, 7, none⟩) (Nat.le_of_lt NG.out) _
  refine sched_Build.skip (w' := W6.setCell ⟨g, 7, none⟩ (.slice A6 parts.length c6)) rfl rfl rfl (by go_simp) ?_
  refine ⟨⟨⟨_, hq7⟩, hn7, hb7⟩, ?_⟩
  clear y0 y1 y2 y3 y4 y5 y6 y7 f7 hn hb
  refine sched_Build.norm (a' := { tmps := #[.agg #[.int .i64 a0_0, .int .i64 a0_1, .slice A0_2 l0_2.length c0_2, .int .i64 a0_3], .pointer (some ⟨N, 0, none⟩), .slice none 0 0, .int .i64 0, .int .i64 0, .pointer (some ⟨g, 0, none⟩), undef, undef, undef, undef, undef, .agg #[.int .i64 a0_0, .int .i64 a0_1, .slice A0_2 l0_2.length c0_2, .int .i64 a0_3], .int .i64 0, .int .i64 0, .bool false, undef, .agg #[.int .i64 a0_0, .int .i64 a0_1, .slice A0_2 l0_2.length c0_2, .int .i64 a0_3], .pointer (some ⟨N, 1, none⟩), .int .i64 a0_1, .agg #[.int .i64 a0_0, .int .i64 a0_1, .slice A0_2 l0_2.length c0_2, .int .i64 a0_3, .int .i64 0, .int .i64 a0_1, .int .i64 0, .slice none 0 0], .pointer (some ⟨g, 0, none⟩), .tuple #[.slice A6 parts.length c6, .int .i64 0], .pointer (some ⟨g, 0, none⟩), .pointer (some ⟨N, 1, none⟩), .int .i64 a0_1, .slice (some ⟨W3.heap.size, 0, none⟩) 1 1, .pointer (some ⟨N, 3, none⟩), .int .i64 a0_3, .slice A5 (List.replicate a0_3.toNat (1 : Int)).length c5, .tuple #[.slice A6 parts.length c6, .int .i64 0], .slice A6 parts.length c6, .int .i64 0, .pointer (some ⟨g, 0, none⟩), .pointer (some ⟨g, 7, none⟩), undef, undef, undef, undef, undef, undef, undef, undef, undef, undef, undef, undef, undef, undef, undef, undef, undef, undef, undef, undef, undef, undef, undef, undef, undef, undef, undef, undef, undef, undef, undef, undef, undef, undef, undef, undef, undef, undef, undef, undef, undef, undef, undef, undef, undef, undef, undef, undef, undef, undef, undef, undef, undef, undef, undef, undef, undef, undef, undef, undef, undef, undef, undef, undef, undef, undef, undef, undef, undef, undef, undef, undef, undef, undef, undef, undef, undef, undef, undef, undef, undef, undef, undef, undef, undef, undef, undef, undef, undef, undef, undef], defers := [] }) (by kernel_rfl) ?_
  refine wpAnyH_done (by kernel_rfl) ?_ _
  go_upto_region 7 with (fail)
  have gt6 : g < W6.heap.size := Nat.lt_of_lt_of_le gt5 hb6.size
  have o7 : (W6.setCell ⟨g, 7, none⟩ (.slice A6 parts.length c6)).ownsRow W5.heap.size 2 1 (.slice A6 parts.length c6) parts.length (encs (Value.int .i64) parts) := o6.kept (row := some g) (sched_Build.grown W6 g 7 (.slice A6 parts.length c6)) (by
   rcases o6.2 with ⟨hv, _⟩ | ⟨gq, cap, cur, hv, hge, _⟩
   ·rw [hv]; exact .inl rfl
   ·rw [hv]
    refine .inr (fun e => ?_)
    have e2 : gq = g := by simpa [Value.ownBlock] using e
    omega)
  have szs : (W6.setCell ⟨g, 7, none⟩ (.slice A6 parts.length c6)).heap.size = W6.heap.size := by simp [World.setCell]
  clear o6 hR6 hC6 hle6 hq hb6
  generalize W6.setCell ⟨g, 7, none⟩ (.slice A6 parts.length c6) = W7 at *
  have hq7 : W7.heap[g]? = some (.cells (sched_Build.pl a0_0 a0_1 A0_2 l0_2.length c0_2 a0_3 0 a0_1 0 (.slice A6 parts.length c6)) 51 (0, 0)) := hq7
  rw [← szs]
  have b8 := blk_new W7 (.cells #[.nilFunc, .func (.func 23) #[.pointer (some ⟨g, 0, none⟩)] #[], .func (.func 24) #[.pointer (some ⟨g, 0, none⟩)] #[], .func (.func 25) #[.pointer (some ⟨g, 0, none⟩)] #[], .func (.func 26) #[.pointer (some ⟨g, 0, none⟩)] #[]] 56 (0, 0))
  have y8 := below_alloc (Below.refl W7.heap.size W7) (.cells #[.nilFunc, .func (.func 23) #[.pointer (some ⟨g, 0, none⟩)] #[], .func (.func 24) #[.pointer (some ⟨g, 0, none⟩)] #[], .func (.func 25) #[.pointer (some ⟨g, 0, none⟩)] #[], .func (.func 26) #[.pointer (some ⟨g, 0, none⟩)] #[]] 56 (0, 0))
  have o8 := pw_own_below o7 y8
  have gt7 : g < W7.heap.size := by rw [szs]; exact gt6
  generalize W7.alloc (.cells #[.nilFunc, .func (.func 23) #[.pointer (some ⟨g, 0, none⟩)] #[], .func (.func 24) #[.pointer (some ⟨g, 0, none⟩)] #[], .func (.func 25) #[.pointer (some ⟨g, 0, none⟩)] #[], .func (.func 26) #[.pointer (some ⟨g, 0, none⟩)] #[]] 56 (0, 0)) = W8 at *
  have q8 := (y8.block g gt7).trans hq7
  have n8 := (y8.block N (Nat.lt_trans NG.out gt7)).trans hn7
  have h8 := hb7.trans (y8.mono (Nat.le_of_lt (Nat.lt_trans NG.out gt7)))
  obtain ⟨gp, hgp⟩ : ∃ gp, gp = W7.heap.size := ⟨_, rfl⟩
  rw [← hgp] at b8 ⊢
  obtain ⟨M, hM⟩ : ∃ M, M = W5.heap.size := ⟨_, rfl⟩
  rw [← hM] at o8
  have GP := Aside0.mk (show g < gp by rw [hgp]; exact gt7)
  have GM := Aside0.mk (show g < M by rw [hM]; exact gt5)
  have NM := Aside0.mk (show N ≤ M by rw [hM]; exact Nat.le_of_lt lt5)
  clear y8 hq7 hn7 hb7 o7 szs gt5 lt5 gt6 gt7 hgp hM
  have H' := Aside0.mk HH.out
  go_upto_region 8 with (fail)
  go_loopg [7] (a0_3.toNat + 1) (fun kq v7 wr => ∃ (at_ left level : Int) (out : List S43), Aside0 (sched_Build.rows k a0_0 l0_2 parts a0_3 kq at_ left level out = some (r1, r2)) ∧ Aside0 (0 ≤ at_ ∧ at_ ≤ a0_3 ∧ (out.length : Int) = at_) ∧ Aside0 (wr.heap[g]? = some (.cells (sched_Build.pl a0_0 a0_1 A0_2 l0_2.length c0_2 a0_3 at_ left level (.slice A6 parts.length c6)) 51 (0, 0))) ∧ Aside0 (wr.heap[N]? = some (.cells #[.int .i64 a0_0, .int .i64 a0_1, .slice A0_2 l0_2.length c0_2, .int .i64 a0_3] 27 (0, 0))) ∧ Aside0 (wr.heap[gp]? = some (.cells #[.nilFunc, .func (.func 23) #[.pointer (some ⟨g, 0, none⟩)] #[], .func (.func 24) #[.pointer (some ⟨g, 0, none⟩)] #[], .func (.func 25) #[.pointer (some ⟨g, 0, none⟩)] #[], .func (.func 26) #[.pointer (some ⟨g, 0, none⟩)] #[]] 56 (0, 0))) ∧ Aside0 (wr.ownsRow M 2 1 (.slice A6 parts.length c6) parts.length (encs (Value.int .i64) parts)) ∧ Aside0 (Kd.R k43 43 wr N (fun _ => True) v7 out) ∧ Aside0 (Below N w wr))
  case atStart => exact ⟨0, a0_1, 0, [], H', ⟨⟨Int.le_refl _, by have := HOK.out.2.2.2.1; omega, rfl⟩⟩, ⟨q8⟩, ⟨n8⟩, ⟨b8⟩, ⟨o8⟩, ⟨Kd.R_nil _ _ _ _ _⟩, ⟨h8⟩⟩
  case round =>
   obtain ⟨at_, left, level, out, HA, HI, QG, QN, QP, QO, QR, QB⟩ := hrel
   clear H' HH q8 n8 b8 o8 h8
   obtain ⟨z0, z1, z2, z3, z4, z5, z6, z7⟩ := sched_Build.pl_cell QG.out
   have x0 := (blk_cell QN.out 0).trans rfl
   have x3 := (blk_cell QN.out 3).trans rfl
   cases gk with
   | zero => exact absurd HA.out (by simp [sched_Build.rows])
   | succ n =>
    have H := HA.out
    clear HA
    rw [sched_Build.rows] at H
    by_cases c1 : at_ < a0_3
    ·rw [if_pos c1] at H
     have q1 : decide (at_ < a0_3) = true := decide_eq_true c1
     have HC1 := Aside0.mk c1
     have HN1 := Aside0.mk H
     clear c1 H
     go_upto_region 8 with (fail)
     go_quiet (fail)
     go_upto_region 10 with (fail)
     have H1 := HN1.out
     obtain ⟨⟨iv, ie⟩, hiv, H2⟩ := Option.bind_eq_some_iff.1 H1
     dsimp only at H2
     have HIV := Aside0.mk hiv
     have HN2 := Aside0.mk H2
     clear H1 hiv H2 HN1
     have gw : g < wr.heap.size := (Array.getElem?_eq_some_iff.1 QG.out).1
     have rdw : sched_Build.RD wr g A0_2 l0_2 := fun j h0 h1 => by
      obtain ⟨ad, e, hx⟩ := Kd.at_int HR.out j h0 h1
      have hlt := World.block_lt_of_cell? w _ hx
      rw [add_block, ← HN.out] at hlt
      exact ⟨ad, e, Nat.lt_trans hlt NG.out, (QB.out.cell (p := ad.add j.toNat) (by rw [add_block]; exact hlt)).trans hx⟩
     have GW := Aside0.mk gw
     have RW := Aside0.mk rdw
     clear gw rdw
     have hS0 : Below wr.heap.size wr { (wr.drewN nq) with drawn := (wr.drewN nq).drawn + 1 } := ⟨rfl, rfl, rfl, Nat.le_refl _, fun _ _ => rfl⟩
     refine wp_region_held (S := fun W1 => Below wr.heap.size wr W1) (by kernel_rfl) ?_
     refine wpAnyH_take (i := 0) (v := .pointer (some ⟨g, 0, none⟩)) rfl (by kernel_rfl) (by kernel_rfl) (by kernel_rfl) (fun _ _ _ h => h) (Or.inl ⟨by kernel_rfl, fun W1 hS => by go_simp⟩) hS0 ?_
     refine wpAnyH_take (i := 1) (v := .pointer (some ⟨g, 0, none⟩)) rfl (by kernel_rfl) (by kernel_rfl) (by kernel_rfl) (fun _ _ _ h => h) (Or.inl ⟨by kernel_rfl, fun W1 hS => by go_simp⟩) hS0 ?_
     refine wpAnyH_take (i := 2) (v := .pointer (some ⟨g, 5, none⟩)) rfl (by kernel_rfl) (by kernel_rfl) (by kernel_rfl) (fun _ _ _ h => h) (Or.inl ⟨by kernel_rfl, fun W1 hS => by go_simp⟩) hS0 ?_
     refine wpAnyH_take (i := 3) (v := .int .i64 left) rfl (by kernel_rfl) (by kernel_rfl) (by kernel_rfl) (fun _ _ _ h => h) (Or.inl ⟨by kernel_rfl, fun W1 hS => by have hq := (hS.block g GW.out).trans QG.out; obtain ⟨y0, y1, y2, y3, y4, y5, y6, y7⟩ := sched_Build.pl_cell hq; go_simp⟩) hS0 ?_
     refine wpAnyH_take (i := 4) (v := .pointer (some ⟨g, 0, none⟩)) rfl (by kernel_rfl) (by kernel_rfl) (by kernel_rfl) (fun _ _ _ h => h) (Or.inl ⟨by kernel_rfl, fun W1 hS => by go_simp⟩) hS0 ?_
     refine wpAnyH_take (i := 5) (v := .pointer (some ⟨g, 0, none⟩)) rfl (by kernel_rfl) (by kernel_rfl) (by kernel_rfl) (fun _ _ _ h => h) (Or.inl ⟨by kernel_rfl, fun W1 hS => by go_simp⟩) hS0 ?_
     refine wpAnyH_take (i := 6) (v := .pointer (some ⟨g, 0, none⟩)) rfl (by kernel_rfl) (by kernel_rfl) (by kernel_rfl) (fun _ _ _ h => h) (Or.inl ⟨by kernel_rfl, fun W1 hS => by go_simp⟩) hS0 ?_
     refine wpAnyH_take (i := 7) (v := .pointer (some ⟨g, 4, none⟩)) rfl (by kernel_rfl) (by kernel_rfl) (by kernel_rfl) (fun _ _ _ h => h) (Or.inl ⟨by kernel_rfl, fun W1 hS => by go_simp⟩) hS0 ?_
     refine wpAnyH_take (i := 8) (v := .int .i64 at_) rfl (by kernel_rfl) (by kernel_rfl) (by kernel_rfl) (fun _ _ _ h => h) (Or.inl ⟨by kernel_rfl, fun W1 hS => by have hq := (hS.block g GW.out).trans QG.out; obtain ⟨y0, y1, y2, y3, y4, y5, y6, y7⟩ := sched_Build.pl_cell hq; go_simp⟩) hS0 ?_
     refine wpAnyH_all (rs := [9]) (by kernel_rfl) (by simp) ?_
     intro ix hix
     obtain rfl : ix = 9 := by simpa using hix
     clear hix
     refine sched_Build.callR #[] rfl (by kernel_rfl) Try.func27 (by kernel_rfl) rfl #[.pointer (some ⟨g, 0, none⟩), .int .i64 at_] rfl (by kernel_rfl) (by kernel_rfl) ?_
     refine (sched_Build.rate _ g a0_0 a0_1 A0_2 c0_2 l0_2 a0_3 at_ left level (.slice A6 parts.length c6) at_ ((hS0.block g GW.out).trans QG.out) (RW.out.below (hS0.mono (Nat.le_of_lt GW.out))) HOK.out.2.2.2.2.2.1 HOK.out.2.2.2.2.2.2 HI.out.1).mono ?_
     rintro e Wa ⟨rfl, hba⟩
     have hS1 : Below wr.heap.size wr Wa := hS0.trans (hba.mono hS0.size)
     refine ⟨_, rfl, hS1, ?_⟩
     clear hS0 hba
     have hS0 := hS1
     refine wpAnyH_all (rs := [10]) (by kernel_rfl) (by simp) ?_
     intro ix hix
     obtain rfl : ix = 10 := by simpa using hix
     clear hix
     refine sched_Build.callR #[] rfl (by kernel_rfl) Try.func19 (by kernel_rfl) rfl #[.int .i64 left, .int .i64 (sched_Build.rt l0_2 at_)] rfl (by kernel_rfl) (by kernel_rfl) ?_
     refine (rate_Interest.calls k left (sched_Build.rt l0_2 at_) iv ie _ HIV.out).mono ?_
     rintro e Wb ⟨rfl, hbb⟩
     have hS2 : Below wr.heap.size wr Wb := hS0.trans (hbb.mono hS0.size)
     refine ⟨_, rfl, hS2, ?_⟩
     clear hS0 hS1 hbb
     have hS0 := hS2
     clear hS2
     refine wpAnyH_take (i := 11) (v := .tuple #[.int .i64 iv, .int .i64 ie]) rfl (by kernel_rfl) (by kernel_rfl) (by kernel_rfl) (fun _ _ _ h => h) (Or.inl ⟨by kernel_rfl, fun W1 hS => by go_simp⟩) hS0 ?_
     refine wpAnyH_take (i := 12) (v := .int .i64 iv) rfl (by kernel_rfl) (by kernel_rfl) (by kernel_rfl) (fun _ _ _ h => h) (Or.inl ⟨by kernel_rfl, fun W1 hS => by go_simp⟩) hS0 ?_
     refine wpAnyH_take (i := 13) (v := .int .i64 ie) rfl (by kernel_rfl) (by kernel_rfl) (by kernel_rfl) (fun _ _ _ h => h) (Or.inl ⟨by kernel_rfl, fun W1 hS => by go_simp⟩) hS0 ?_
     refine wpAnyH_take (i := 14) (v := .int .i64 iv) rfl (by kernel_rfl) (by kernel_rfl) (by kernel_rfl) (fun _ _ _ h => h) (Or.inl ⟨by kernel_rfl, fun W1 hS => by go_simp⟩) hS0 ?_
     refine wpAnyH_take (i := 15) (v := .int .i64 ie) rfl (by kernel_rfl) (by kernel_rfl) (by kernel_rfl) (fun _ _ _ h => h) (Or.inl ⟨by kernel_rfl, fun W1 hS => by go_simp⟩) hS0 ?_
     refine sched_Build.norm (a' := { tmps := #[.agg #[.int .i64 a0_0, .int .i64 a0_1, .slice A0_2 l0_2.length c0_2, .int .i64 a0_3], .pointer (some ⟨N, 0, none⟩), u2, u3, .int .i64 0, .pointer (some ⟨g, 0, none⟩), .pointer (some ⟨gp, 0, none⟩), u7, .int .i64 iv, .int .i64 ie, u10, .agg #[.int .i64 a0_0, .int .i64 a0_1, .slice A0_2 l0_2.length c0_2, .int .i64 a0_3], .int .i64 0, .int .i64 0, .bool false, undef, .agg #[.int .i64 a0_0, .int .i64 a0_1, .slice A0_2 l0_2.length c0_2, .int .i64 a0_3], .pointer (some ⟨N, 1, none⟩), .int .i64 a0_1, .agg #[.int .i64 a0_0, .int .i64 a0_1, .slice A0_2 l0_2.length c0_2, .int .i64 a0_3, .int .i64 0, .int .i64 a0_1, .int .i64 0, .slice none 0 0], .pointer (some ⟨g, 0, none⟩), .tuple #[.slice A6 parts.length c6, .int .i64 0], .pointer (some ⟨g, 0, none⟩), .pointer (some ⟨N, 1, none⟩), .int .i64 a0_1, .slice (some ⟨W3.heap.size, 0, none⟩) 1 1, .pointer (some ⟨N, 3, none⟩), .int .i64 a0_3, .slice A5 (List.replicate a0_3.toNat (1 : Int)).length c5, .tuple #[.slice A6 parts.length c6, .int .i64 0], .slice A6 parts.length c6, .int .i64 0, .pointer (some ⟨g, 0, none⟩), .pointer (some ⟨g, 7, none⟩), .pointer (some ⟨g, 0, none⟩), .func (.func 23) #[.pointer (some ⟨g, 0, none⟩)] #[], .pointer (some ⟨g, 0, none⟩), .func (.func 24) #[.pointer (some ⟨g, 0, none⟩)] #[], .pointer (some ⟨g, 0, none⟩), .func (.func 25) #[.pointer (some ⟨g, 0, none⟩)] #[], .pointer (some ⟨g, 0, none⟩), .func (.func 26) #[.pointer (some ⟨g, 0, none⟩)] #[], .agg #[.nilFunc, .func (.func 23) #[.pointer (some ⟨g, 0, none⟩)] #[], .func (.func 24) #[.pointer (some ⟨g, 0, none⟩)] #[], .func (.func 25) #[.pointer (some ⟨g, 0, none⟩)] #[], .func (.func 26) #[.pointer (some ⟨g, 0, none⟩)] #[]], .pointer (some ⟨g, 0, none⟩), .pointer (some ⟨g, 0, none⟩), .pointer (some ⟨g, 4, none⟩), .int .i64 at_, .pointer (some ⟨N, 3, none⟩), .int .i64 a0_3, .bool true, u50, u51, u52, u53, u54, u55, u56, .tuple #[.int .i64 iv, .int .i64 ie], .pointer (some ⟨g, 0, none⟩), .pointer (some ⟨g, 0, none⟩), .pointer (some ⟨g, 5, none⟩), .int .i64 left, .pointer (some ⟨g, 0, none⟩), .pointer (some ⟨g, 0, none⟩), .pointer (some ⟨g, 0, none⟩), .pointer (some ⟨g, 4, none⟩), .int .i64 at_, .int .i64 (sched_Build.rt l0_2 at_), .tuple #[.int .i64 iv, .int .i64 ie], .int .i64 iv, .int .i64 ie, u71, u72, u73, u74, u75, u76, u77, u78, u79, u80, u81, u82, u83, u84, u85, u86, u87, u88, u89, u90, u91, u92, u93, u94, u95, u96, u97, u98, u99, u100, u101, u102, u103, u104, u105, u106, u107, u108, u109, u110, u111, u112, u113, u114, u115, u116, u117, u118, u119, u120, u121, u122, u123, undef], defers := [] }) (by kernel_rfl) ?_
     refine wpAnyH_done (by kernel_rfl) ?_ _
     have HB0 := Aside0.mk hS0
     clear hS0 z0 z1 z2 z3 z4 z5 z6 z7 x0 x3
     by_cases ce : ie = 0
     ·have CE := Aside0.mk ce
      have q2 : (ie != 0) = false := by simp [ce]
      clear ce
      have hgB := (HB0.out.block g GW.out).trans QG.out
      have hnB := (HB0.out.block N (Nat.lt_trans NG.out GW.out)).trans QN.out
      obtain ⟨z0, z1, z2, z3, z4, z5, z6, z7⟩ := sched_Build.pl_cell hgB
      have x0 := (blk_cell hnB 0).trans rfl
      have x3 := (blk_cell hnB 3).trans rfl
      have q3 : wrap64 (a0_3 - 1) = a0_3 - 1 := by have := HOK.out.2.2.2; unfold wrap64; omega
      have HGB := Aside0.mk hgB
      have HNB := Aside0.mk hnB
      clear hgB hnB
      go_upto_region 14 with (fail)
      rename_i K16 hK16 K15 hK15
      have TAIL : ∀ (paid lv : Int) (s43 s44 s45 s46 s47 s48 s49 s50 s51 s52 s53 s54 s55 s56 s57 s58 s59 s60 s61 s62 s63 s64 s65 s66 s67 s68 s69 s70 s71 s72 s73 s74 s75 s76 s77 s78 s79 s80 s81 s82 s83 s84 s85 s86 s87 s88 s89 s90 s91 s92 s93 : Value) (W : World), (if mx (wrap64 (left - wrap64 (paid - iv))) paid > 10000000000000 then some ([], 3) else sched_Build.rows k a0_0 l0_2 parts a0_3 n (at_ + 1) (wrap64 (left - wrap64 (paid - iv))) lv (out ++ [⟨iv, paid, wrap64 (paid - iv), wrap64 (left - wrap64 (paid - iv))⟩])) = some (r1, r2) → W.heap[g]? = some (.cells (sched_Build.pl a0_0 a0_1 A0_2 l0_2.length c0_2 a0_3 at_ left lv (.slice A6 parts.length c6)) 51 (0, 0)) → KeepBut wr W g none → Below g wr W → K16 { tmps := #[.agg #[.int .i64 a0_0, .int .i64 a0_1, .slice A0_2 l0_2.length c0_2, .int .i64 a0_3], .pointer (some ⟨N, 0, none⟩), u2, u3, .int .i64 0, .pointer (some ⟨g, 0, none⟩), .pointer (some ⟨gp, 0, none⟩), u7, .int .i64 iv, .int .i64 ie, .int .i64 paid, .agg #[.int .i64 a0_0, .int .i64 a0_1, .slice A0_2 l0_2.length c0_2, .int .i64 a0_3], .int .i64 0, .int .i64 0, .bool false, undef, .agg #[.int .i64 a0_0, .int .i64 a0_1, .slice A0_2 l0_2.length c0_2, .int .i64 a0_3], .pointer (some ⟨N, 1, none⟩), .int .i64 a0_1, .agg #[.int .i64 a0_0, .int .i64 a0_1, .slice A0_2 l0_2.length c0_2, .int .i64 a0_3, .int .i64 0, .int .i64 a0_1, .int .i64 0, .slice none 0 0], .pointer (some ⟨g, 0, none⟩), .tuple #[.slice A6 parts.length c6, .int .i64 0], .pointer (some ⟨g, 0, none⟩), .pointer (some ⟨N, 1, none⟩), .int .i64 a0_1, .slice (some ⟨W3.heap.size, 0, none⟩) 1 1, .pointer (some ⟨N, 3, none⟩), .int .i64 a0_3, .slice A5 (List.replicate a0_3.toNat (1 : Int)).length c5, .tuple #[.slice A6 parts.length c6, .int .i64 0], .slice A6 parts.length c6, .int .i64 0, .pointer (some ⟨g, 0, none⟩), .pointer (some ⟨g, 7, none⟩), .pointer (some ⟨g, 0, none⟩), .func (.func 23) #[.pointer (some ⟨g, 0, none⟩)] #[], .pointer (some ⟨g, 0, none⟩), .func (.func 24) #[.pointer (some ⟨g, 0, none⟩)] #[], .pointer (some ⟨g, 0, none⟩), .func (.func 25) #[.pointer (some ⟨g, 0, none⟩)] #[], .pointer (some ⟨g, 0, none⟩), .func (.func 26) #[.pointer (some ⟨g, 0, none⟩)] #[], .agg #[.nilFunc, .func (.func 23) #[.pointer (some ⟨g, 0, none⟩)] #[], .func (.func 24) #[.pointer (some ⟨g, 0, none⟩)] #[], .func (.func 25) #[.pointer (some ⟨g, 0, none⟩)] #[], .func (.func 26) #[.pointer (some ⟨g, 0, none⟩)] #[]], s43, s44, s45, s46, s47, s48, s49, s50, s51, s52, s53, s54, s55, s56, s57, s58, s59, s60, s61, s62, s63, s64, s65, s66, s67, s68, s69, s70, s71, s72, s73, s74, s75, s76, s77, s78, s79, s80, s81, s82, s83, s84, s85, s86, s87, s88, s89, s90, s91, s92, s93, u94, u95, u96, u97, u98, u99, u100, u101, u102, u103, u104, u105, u106, u107, u108, u109, u110, u111, u112, u113, u114, u115, u116, u117, u118, u119, u120, u121, u122, u123, undef], defers := [] } W := by
       intro paid lv s43 s44 s45 s46 s47 s48 s49 s50 s51 s52 s53 s54 s55 s56 s57 s58 s59 s60 s61 s62 s63 s64 s65 s66 s67 s68 s69 s70 s71 s72 s73 s74 s75 s76 s77 s78 s79 s80 s81 s82 s83 s84 s85 s86 s87 s88 s89 s90 s91 s92 s93 W hT hG hK hB
       have hN := hK.blk QN.out (Nat.ne_of_lt NG.out) (by simp)
       have hP := hK.blk QP.out (Nat.ne_of_gt GP.out) (by simp)
       clear z0 z1 z2 z3 z4 z5 z6 z7 x0 x3 q2 q3 HGB HNB
       obtain ⟨z0, z1, z2, z3, z4, z5, z6, z7⟩ := sched_Build.pl_cell hG
       have f5 := blk_frozen hG 5
       obtain ⟨p1, hp1⟩ : ∃ x, wrap64 (paid - iv) = x := ⟨_, rfl⟩
       obtain ⟨l1, hl1⟩ : ∃ x, wrap64 (left - p1) = x := ⟨_, rfl⟩
       obtain ⟨m, hm⟩ : ∃ x, mx l1 paid = x := ⟨_, rfl⟩
       rw [hp1, hl1, hm] at hT
       have hm_ : (if l1 < paid then paid else l1) = m := hm
       have HT := Aside0.mk hT
       have HG := Aside0.mk hG
       have HK := Aside0.mk hK
       have HB := Aside0.mk hB
       have HN' := Aside0.mk hN
       have HP' := Aside0.mk hP
       clear hm hT hG hK hB hN hP
       refine hK16 _ _ ?_
       go_upto_region 17 with (fail)
       have hG1 : (W.setCell ⟨g, 5, none⟩ (.int .i64 l1)).heap[g]? = some (.cells (sched_Build.pl a0_0 a0_1 A0_2 l0_2.length c0_2 a0_3 at_ l1 lv (.slice A6 parts.length c6)) 51 (0, 0)) := sched_Build.set_blk HG.out 5 _
       have hK1 := HK.out.set_ 5 (.int .i64 l1)
       have hB1 : Below g wr (W.setCell ⟨g, 5, none⟩ (.int .i64 l1)) := Below.setCell HB.out (p := ⟨g, 5, none⟩) (Nat.le_refl _) _
       have hBN : Below N w (W.setCell ⟨g, 5, none⟩ (.int .i64 l1)) := QB.out.trans (hB1.mono (Nat.le_of_lt NG.out))
       clear z0 z1 z2 z3 z4 z5 z6 z7 f5 HG HK HB HN' HP'
       generalize W.setCell ⟨g, 5, none⟩ (.int .i64 l1) = W2 at *
       obtain ⟨z0, z1, z2, z3, z4, z5, z6, z7⟩ := sched_Build.pl_cell hG1
       have HG1 := Aside0.mk hG1
       have HK1 := Aside0.mk hK1
       have HBN := Aside0.mk hBN
       have hR1 := Aside0.mk (Kd.R_step (Kd.R_types QR.out QG.out (by decide)) (fun k hk hlt => hK1.2 k hlt hk.2 (by simp)))
       have hN1 := Aside0.mk (hK1.blk QN.out (Nat.ne_of_lt NG.out) (by simp))
       have hP1 := Aside0.mk (hK1.blk QP.out (Nat.ne_of_gt GP.out) (by simp))
       have hO1 := Aside0.mk (hK1.own QO.out (fun e => by have := (QO.out.lt g e).1; have := GM.out; omega) (Classical.em _))
       clear hG1 hK1 hBN hB1
       by_cases cm : m > 10000000000000
       ·have hT := HT.out
        rw [if_pos cm] at hT
        obtain ⟨rfl, rfl⟩ : [] = r1 ∧ 3 = r2 := by simpa using hT
        have q5 : decide (m > 10000000000000) = true := decide_eq_true cm
        have q6 : decide (10000000000000 < m) = true := decide_eq_true cm
        clear cm hT
        go_wp2
        go_ret2
        refine ⟨_, rfl, Kd.R_nil _ _ _ _ _, ?_⟩
        rw [← HN.out]
        exact HBN.out
       ·have hT := HT.out
        rw [if_neg cm] at hT
        have HT2 := Aside0.mk hT
        have q5 : decide (m > 10000000000000) = false := decide_eq_false cm
        have q6 : decide (10000000000000 < m) = false := decide_eq_false cm
        clear cm hT
        go_upto_region 19 with (fail)
        go_upto_region 9 with (first | ((with_reducible refine gate_builtin (b := .append) (xs := #[.tmp 111, .tmp 122]) rfl ?_); at_builtin; (refine Kd.R_append k43 (w0 := w) N rfl (.tmp 111) (.tmp 122) 28 43 (.agg #[(.int .i64 0), (.int .i64 0), (.int .i64 0), (.int .i64 0)]) 32 rfl Try.underlying28 info43 rfl (by decide) (by omega) u7 out (⟨iv, paid, p1, l1⟩ : S43) [.int .i64 iv, .int .i64 paid, .int .i64 p1, .int .i64 l1] (fun _ => True) (fun _ => False) rfl (by first | (go_simp; done) | (go_simp; rfl)) (k43_mkM _ _ _ (⟨iv, paid, p1, l1⟩ : S43)) (fun _ hk => hk.elim) (fun _ _ => trivial) (Kd.R_mono hR1.out (fun _ _ => trivial)) HBN.out (by rw [HN.out]; exact HBN.out.size) (by have := HI.out; have := HOK.out.2.2.2.2.1; omega) ?_); intro v1 w1 ho hb hg hat))
        have hGa := blk_grown HG1.out hg (Kd.R_ne hR1.out HG1.out (by decide))
        have hNa := Aside0.mk (blk_grown hN1.out hg (Kd.R_ne hR1.out hN1.out (by decide)))
        have hPa := Aside0.mk (blk_grown hP1.out hg (Kd.R_ne hR1.out hP1.out (by decide)))
        have hOa := Aside0.mk (hO1.out.kept hg (by
         by_cases c : (Value.slice A6 parts.length c6).ownBlock = none
         ·exact .inl c
         ·refine .inr (fun e => ?_)
          cases hq : (Value.slice A6 parts.length c6).ownBlock with
          | none => exact c hq
          | some b =>
           obtain ⟨cs, hcs⟩ := own_typed hO1.out b hq
           exact Kd.R_ne hR1.out hcs (by decide) (by rw [← e, hq])))
        obtain ⟨y0, y1, y2, y3, y4, y5, y6, y7⟩ := sched_Build.pl_cell hGa
        clear z0 z1 z2 z3 z4 z5 z6 z7
        have f4 := blk_frozen hGa 4
        have q7 : wrap64 (at_ + 1) = at_ + 1 := by have := HI.out; have := HOK.out.2.2.2.2.1; unfold wrap64; omega
        have HGa := Aside0.mk (sched_Build.set_blk hGa 4 (.int .i64 (at_ + 1)))
        have HRa := Aside0.mk (Kd.R_far (p := ⟨g, 4, none⟩) (Kd.R_types ho hGa (by decide)) (fun _ hk => hk.2) (.int .i64 (at_ + 1)))
        have HGR := Aside0.mk (sched_Build.grown w1 g 4 (.int .i64 (at_ + 1)))
        have HBa := Aside0.mk (Below.setCell hb (p := ⟨g, 4, none⟩) (Nat.le_of_lt NG.out) (.int .i64 (at_ + 1)))
        have HNb := Aside0.mk ((Below.heap_setCell w1 ⟨g, 4, none⟩ (.int .i64 (at_ + 1)) N (Nat.ne_of_lt NG.out)).trans hNa.out)
        have HPb := Aside0.mk ((Below.heap_setCell w1 ⟨g, 4, none⟩ (.int .i64 (at_ + 1)) gp (Nat.ne_of_gt GP.out)).trans hPa.out)
        have HOb := Aside0.mk (hOa.out.kept HGR.out (by
         by_cases c : (Value.slice A6 parts.length c6).ownBlock = none
         ·exact .inl c
         ·exact .inr (fun e => by have := (hOa.out.lt g e).1; have := GM.out; omega)))
        clear ho hb hg hat hGa hNa hPa hOa hO1 hP1 hN1 hR1 HBN HK1 HG1
        go_wp2
        rw [show a0_3.toNat = (List.replicate a0_3.toNat (1 : Int)).length from List.length_replicate.symm]
        go_roundg n
        case measure => exact Nat.lt_succ_self n
        case rel => exact ⟨at_ + 1, l1, lv, out ++ [⟨iv, paid, p1, l1⟩], HT2, ⟨by have := HI.out; have := HC1.out; rw [List.length_append]; simp only [List.length_singleton]; omega⟩, HGa, HNb, HPb, HOb, ⟨Kd.R_mono HRa.out (fun _ _ => trivial)⟩, HBa⟩
      have TL := Aside0.mk TAIL
      clear TAIL hK16
      have H3 := HN2.out
      rw [if_pos CE.out] at H3
      obtain ⟨⟨paid, lv⟩, hpay, H4⟩ := Option.bind_eq_some_iff.1 H3
      dsimp only at H4
      have HPAY := Aside0.mk hpay
      have H5 := Aside0.mk H4
      clear H3 hpay H4 z0 z1 z2 z3 z4 z5 z6 z7 x0 x3 HN2
      have q3' : IntKind.i64.wrap (a0_3 - 1) = a0_3 - 1 := by rw [i64_w]; exact q3
      obtain ⟨bl, hbl⟩ : ∃ bl : Bool, decide (at_ < a0_3 - 1) = bl := ⟨_, rfl⟩
      have hS0 : Below wr.heap.size wr { Wb with drawn := Wb.drawn + 1 } := HB0.out.drew
      refine wp_region_held (S := fun W1 => Below wr.heap.size wr W1) (by kernel_rfl) ?_
      refine wpAnyH_take (i := 0) (v := .pointer (some ⟨g, 0, none⟩)) rfl (by kernel_rfl) (by kernel_rfl) (by kernel_rfl) (fun _ _ _ h => h) (Or.inl ⟨by kernel_rfl, fun W1 hS => by go_simp⟩) hS0 ?_
      refine wpAnyH_take (i := 1) (v := .pointer (some ⟨g, 0, none⟩)) rfl (by kernel_rfl) (by kernel_rfl) (by kernel_rfl) (fun _ _ _ h => h) (Or.inl ⟨by kernel_rfl, fun W1 hS => by go_simp⟩) hS0 ?_
      refine wpAnyH_take (i := 2) (v := .pointer (some ⟨g, 4, none⟩)) rfl (by kernel_rfl) (by kernel_rfl) (by kernel_rfl) (fun _ _ _ h => h) (Or.inl ⟨by kernel_rfl, fun W1 hS => by go_simp⟩) hS0 ?_
      refine wpAnyH_take (i := 3) (v := .int .i64 at_) rfl (by kernel_rfl) (by kernel_rfl) (by kernel_rfl) (fun _ _ _ h => h) (Or.inl ⟨by kernel_rfl, fun W1 hS => by have hq := (hS.block g GW.out).trans QG.out; obtain ⟨y0, y1, y2, y3, y4, y5, y6, y7⟩ := sched_Build.pl_cell hq; go_simp⟩) hS0 ?_
      refine wpAnyH_take (i := 4) (v := .pointer (some ⟨N, 3, none⟩)) rfl (by kernel_rfl) (by kernel_rfl) (by kernel_rfl) (fun _ _ _ h => h) (Or.inl ⟨by kernel_rfl, fun W1 hS => by go_simp⟩) hS0 ?_
      refine wpAnyH_take (i := 5) (v := .int .i64 a0_3) rfl (by kernel_rfl) (by kernel_rfl) (by kernel_rfl) (fun _ _ _ h => h) (Or.inl ⟨by kernel_rfl, fun W1 hS => by have hq := (hS.block N (Nat.lt_trans NG.out GW.out)).trans QN.out; have y3 : W1.cell? ⟨N, 3, none⟩ = some (.int .i64 a0_3) := (blk_cell hq 3).trans rfl; go_simp⟩) hS0 ?_
      refine wpAnyH_take (i := 6) (v := .int .i64 (a0_3 - 1)) rfl (by kernel_rfl) (by kernel_rfl) (by kernel_rfl) (fun _ _ _ h => h) (Or.inl ⟨by kernel_rfl, fun W1 hS => by go_simp⟩) hS0 ?_
      refine wpAnyH_take (i := 7) (v := .bool bl) rfl (by kernel_rfl) (by kernel_rfl) (by kernel_rfl) (fun _ _ _ h => h) (Or.inl ⟨by kernel_rfl, fun W1 hS => by go_simp⟩) hS0 ?_
      refine sched_Build.norm (a' := { tmps := #[.agg #[.int .i64 a0_0, .int .i64 a0_1, .slice A0_2 l0_2.length c0_2, .int .i64 a0_3], .pointer (some ⟨N, 0, none⟩), u2, u3, .int .i64 0, .pointer (some ⟨g, 0, none⟩), .pointer (some ⟨gp, 0, none⟩), u7, .int .i64 iv, .int .i64 ie, .int .i64 (wrap64 (left + iv)), .agg #[.int .i64 a0_0, .int .i64 a0_1, .slice A0_2 l0_2.length c0_2, .int .i64 a0_3], .int .i64 0, .int .i64 0, .bool false, undef, .agg #[.int .i64 a0_0, .int .i64 a0_1, .slice A0_2 l0_2.length c0_2, .int .i64 a0_3], .pointer (some ⟨N, 1, none⟩), .int .i64 a0_1, .agg #[.int .i64 a0_0, .int .i64 a0_1, .slice A0_2 l0_2.length c0_2, .int .i64 a0_3, .int .i64 0, .int .i64 a0_1, .int .i64 0, .slice none 0 0], .pointer (some ⟨g, 0, none⟩), .tuple #[.slice A6 parts.length c6, .int .i64 0], .pointer (some ⟨g, 0, none⟩), .pointer (some ⟨N, 1, none⟩), .int .i64 a0_1, .slice (some ⟨W3.heap.size, 0, none⟩) 1 1, .pointer (some ⟨N, 3, none⟩), .int .i64 a0_3, .slice A5 (List.replicate a0_3.toNat (1 : Int)).length c5, .tuple #[.slice A6 parts.length c6, .int .i64 0], .slice A6 parts.length c6, .int .i64 0, .pointer (some ⟨g, 0, none⟩), .pointer (some ⟨g, 7, none⟩), .pointer (some ⟨g, 0, none⟩), .func (.func 23) #[.pointer (some ⟨g, 0, none⟩)] #[], .pointer (some ⟨g, 0, none⟩), .func (.func 24) #[.pointer (some ⟨g, 0, none⟩)] #[], .pointer (some ⟨g, 0, none⟩), .func (.func 25) #[.pointer (some ⟨g, 0, none⟩)] #[], .pointer (some ⟨g, 0, none⟩), .func (.func 26) #[.pointer (some ⟨g, 0, none⟩)] #[], .agg #[.nilFunc, .func (.func 23) #[.pointer (some ⟨g, 0, none⟩)] #[], .func (.func 24) #[.pointer (some ⟨g, 0, none⟩)] #[], .func (.func 25) #[.pointer (some ⟨g, 0, none⟩)] #[], .func (.func 26) #[.pointer (some ⟨g, 0, none⟩)] #[]], .pointer (some ⟨g, 0, none⟩), .pointer (some ⟨g, 0, none⟩), .pointer (some ⟨g, 4, none⟩), .int .i64 at_, .pointer (some ⟨N, 3, none⟩), .int .i64 a0_3, .bool true, u50, u51, u52, u53, u54, u55, u56, .tuple #[.int .i64 iv, .int .i64 ie], .pointer (some ⟨g, 0, none⟩), .pointer (some ⟨g, 0, none⟩), .pointer (some ⟨g, 5, none⟩), .int .i64 left, .pointer (some ⟨g, 0, none⟩), .pointer (some ⟨g, 0, none⟩), .pointer (some ⟨g, 0, none⟩), .pointer (some ⟨g, 4, none⟩), .int .i64 at_, .int .i64 (sched_Build.rt l0_2 at_), .tuple #[.int .i64 iv, .int .i64 ie], .int .i64 iv, .int .i64 ie, .int .i64 ie, .bool false, u73, .pointer (some ⟨g, 0, none⟩), .pointer (some ⟨g, 0, none⟩), .pointer (some ⟨g, 5, none⟩), .int .i64 left, .int .i64 iv, .int .i64 (wrap64 (left + iv)), .pointer (some ⟨g, 0, none⟩), .pointer (some ⟨g, 0, none⟩), .pointer (some ⟨g, 4, none⟩), .int .i64 at_, .pointer (some ⟨N, 3, none⟩), .int .i64 a0_3, .int .i64 (a0_3 - 1), .bool bl, u88, u89, u90, u91, u92, u93, u94, u95, u96, u97, u98, u99, u100, u101, u102, u103, u104, u105, u106, u107, u108, u109, u110, u111, u112, u113, u114, u115, u116, u117, u118, u119, u120, u121, u122, u123, undef], defers := [] }) (by kernel_rfl) ?_
      refine wpAnyH_done (by kernel_rfl) ?_ _
      have hG2 := (hS0.block g GW.out).trans QG.out
      have hN2 := (hS0.block N (Nat.lt_trans NG.out GW.out)).trans QN.out
      have gpw : gp < wr.heap.size := (Array.getElem?_eq_some_iff.1 QP.out).1
      have hP2 := (hS0.block gp gpw).trans QP.out
      have hK2 := KeepBut.of_below hS0 g none
      have hB2 := hS0.mono (Nat.le_of_lt GW.out)
      generalize { Wb with drawn := Wb.drawn + 1 } = Wc at *
      refine hK15 _ _ ?_
      clear hK15
      have HG2 := Aside0.mk hG2
      have HN2 := Aside0.mk hN2
      have HPQ := Aside0.mk hP2
      have HK2 := Aside0.mk hK2
      have HB2 := Aside0.mk hB2
      clear hG2 hN2 hP2 hK2 hB2 hS0
      by_cases c2 : at_ < a0_3 - 1
      ·have C2 := Aside0.mk c2
       have hpay := HPAY.out
       rw [if_pos c2] at hpay
       rw [decide_eq_true c2] at hbl
       subst hbl
       have HP1 := Aside0.mk hpay
       clear c2 hpay HPAY
       go_upto_region 15 with (fail)
       have ha6 : at_ ≤ 600 := by have := HI.out; have := HOK.out.2.2.2.2.1; omega
       have RWc := Aside0.mk (RW.out.below HB2.out)
       have QOc := Aside0.mk (HK2.out.own QO.out (fun e => by have := (QO.out.lt g e).1; have := GM.out; omega) (Classical.em _))
       have x0 : Wc.cell? ⟨N, 0, none⟩ = some (.int .i64 a0_0) := (blk_cell HN2.out 0).trans rfl
       have v1 := (blk_cell HPQ.out 1).trans rfl
       have v2 := (blk_cell HPQ.out 2).trans rfl
       have v3 := (blk_cell HPQ.out 3).trans rfl
       have v4 := (blk_cell HPQ.out 4).trans rfl
       have hkd : a0_0 = 1 ∨ a0_0 = 2 ∨ a0_0 = 3 ∨ a0_0 = 4 := by have := HOK.out.2.1; have := HOK.out.2.2.1; omega
       rcases hkd with rfl | rfl | rfl | rfl
       ·have hpay := HP1.out
        have hlv : (at_ = 0 ∨ sched_Build.rt l0_2 at_ ≠ sched_Build.rt l0_2 (at_ - 1) → ∃ er, sched_Level.f k left (sched_Build.rt l0_2 at_) (wrap64 (a0_3 - at_)) = some (lv, er)) ∧ (¬(at_ = 0 ∨ sched_Build.rt l0_2 at_ ≠ sched_Build.rt l0_2 (at_ - 1)) → lv = level) ∧ paid = mn lv (wrap64 (left + iv)) := by
         unfold sched_Build.pay at hpay
         rw [if_pos rfl] at hpay
         split at hpay
         ·rename_i hc
          obtain ⟨⟨x, er⟩, hx, hy⟩ := Option.bind_eq_some_iff.1 hpay
          obtain ⟨rfl, rfl⟩ : mn x (wrap64 (left + iv)) = paid ∧ x = lv := by simpa using hy
          exact ⟨fun _ => ⟨er, hx⟩, fun hn => absurd hc hn, rfl⟩
         ·rename_i hc
          obtain ⟨rfl, rfl⟩ : mn level (wrap64 (left + iv)) = paid ∧ level = lv := by simpa using hpay
          exact ⟨fun hn => absurd hn hc, fun _ => rfl, rfl⟩
        obtain ⟨l1, l2, rfl⟩ := hlv
        obtain ⟨er, l1⟩ : ∃ er, (at_ = 0 ∨ sched_Build.rt l0_2 at_ ≠ sched_Build.rt l0_2 (at_ - 1) → sched_Level.f k left (sched_Build.rt l0_2 at_) (wrap64 (a0_3 - at_)) = some (lv, er)) := by
         by_cases hc : at_ = 0 ∨ sched_Build.rt l0_2 at_ ≠ sched_Build.rt l0_2 (at_ - 1)
         ·obtain ⟨er, h⟩ := l1 hc
          exact ⟨er, fun _ => h⟩
         ·exact ⟨0, fun h => absurd h hc⟩
        have L1 := Aside0.mk l1
        have L2 := Aside0.mk l2
        clear l1 l2
        clear hpay
        go_wp2_with (first | ((with_reducible refine gate_dst (N := 93) rfl ?_); go_must (refine sched_Build.goesB (some 93) rfl rfl Try.func23 (by kernel_rfl) rfl #[.pointer (some ⟨g, 0, none⟩), .int .i64 iv] rfl rfl (by (try simp only [List.map_toArray, List.map_cons, List.map_nil]); first | done | rfl | (simp [Act.eval]; done) | (go_simp; done)) ?_; refine (sched_Build.annuity k Wc g 1 a0_1 A0_2 c0_2 l0_2 a0_3 at_ left level (.slice A6 parts.length c6) iv lv er HG2.out RWc.out HOK.out.2.2.2.2.2.1 HOK.out.2.2.2.2.2.2 HI.out.1 ha6 L1.out L2.out).mono ?_); rintro e W4 ⟨rfl, hga, hka, hba⟩; refine ⟨_, rfl, ?_⟩))
        rw [show a0_3.toNat = (List.replicate a0_3.toNat (1 : Int)).length from List.length_replicate.symm]
        exact TL.out _ _ _ _ _ _ _ _ _ _ _ _ _ _ _ _ _ _ _ _ _ _ _ _ _ _ _ _ _ _ _ _ _ _ _ _ _ _ _ _ _ _ _ _ _ _ _ _ _ _ _ _ _ _ H5.out hga (HK2.out.trans hka (.inl rfl)) (HB2.out.trans hba)
       ·have hpay := HP1.out
        obtain ⟨rfl, rfl⟩ : wrap64 (iv + rd parts at_) = paid ∧ level = lv := by
         unfold sched_Build.pay at hpay
         rw [if_neg (by decide), if_pos rfl] at hpay
         simpa using hpay
        have hat : at_ < (parts.length : Int) := by have := HP2.out; have := HC1.out; omega
        have hrd := Kd.at_int (Kd.R_reads' (Kd.R_of_own (xs := parts) (ok := fun _ => True) (h1 := fun _ => rfl) QOc.out (fun _ _ => trivial))).2.2 at_ HI.out.1 hat
        clear hpay
        go_wp2_with (first | ((with_reducible refine gate_dst (N := 93) rfl ?_); go_must (refine sched_Build.goesB (some 93) rfl rfl Try.func24 (by kernel_rfl) rfl #[.pointer (some ⟨g, 0, none⟩), .int .i64 iv] rfl rfl (by (try simp only [List.map_toArray, List.map_cons, List.map_nil]); first | done | rfl | (simp [Act.eval]; done) | (go_simp; done)) ?_; refine (sched_Build.linear Wc g 2 a0_1 A0_2 l0_2.length c0_2 a0_3 at_ left level A6 c6 parts iv HG2.out hrd HI.out.1 hat).mono ?_); rintro e W4 ⟨rfl, hb⟩; refine ⟨_, rfl, ?_⟩))
        rw [show a0_3.toNat = (List.replicate a0_3.toNat (1 : Int)).length from List.length_replicate.symm]
        exact TL.out _ _ _ _ _ _ _ _ _ _ _ _ _ _ _ _ _ _ _ _ _ _ _ _ _ _ _ _ _ _ _ _ _ _ _ _ _ _ _ _ _ _ _ _ _ _ _ _ _ _ _ _ _ _ H5.out ((hb.block g (Array.getElem?_eq_some_iff.1 HG2.out).1).trans HG2.out) (HK2.out.trans (KeepBut.of_below hb g none) (.inl rfl)) (HB2.out.trans (hb.mono (Nat.le_of_lt (Array.getElem?_eq_some_iff.1 HG2.out).1)))
       ·have hpay := HP1.out
        obtain ⟨rfl, rfl⟩ : iv = paid ∧ level = lv := by
         unfold sched_Build.pay at hpay
         rw [if_neg (by decide), if_neg (by decide), if_pos rfl] at hpay
         simpa using hpay
        clear hpay
        go_wp2_with (first | ((with_reducible refine gate_dst (N := 93) rfl ?_); go_must (refine sched_Build.goesB (some 93) rfl rfl Try.func25 (by kernel_rfl) rfl #[.pointer (some ⟨g, 0, none⟩), .int .i64 iv] rfl rfl (by (try simp only [List.map_toArray, List.map_cons, List.map_nil]); first | done | rfl | (simp [Act.eval]; done) | (go_simp; done)) ?_; refine (sched_Build.only Wc g iv).mono ?_); rintro e W4 ⟨rfl, hb⟩; refine ⟨_, rfl, ?_⟩))
        rw [show a0_3.toNat = (List.replicate a0_3.toNat (1 : Int)).length from List.length_replicate.symm]
        exact TL.out _ _ _ _ _ _ _ _ _ _ _ _ _ _ _ _ _ _ _ _ _ _ _ _ _ _ _ _ _ _ _ _ _ _ _ _ _ _ _ _ _ _ _ _ _ _ _ _ _ _ _ _ _ _ H5.out ((hb.block g (Array.getElem?_eq_some_iff.1 HG2.out).1).trans HG2.out) (HK2.out.trans (KeepBut.of_below hb g none) (.inl rfl)) (HB2.out.trans (hb.mono (Nat.le_of_lt (Array.getElem?_eq_some_iff.1 HG2.out).1)))
       ·have hpay := HP1.out
        obtain ⟨rfl, rfl⟩ : 0 = paid ∧ level = lv := by
         unfold sched_Build.pay at hpay
         rw [if_neg (by decide), if_neg (by decide), if_neg (by decide), if_pos rfl] at hpay
         simpa using hpay
        clear hpay
        go_wp2_with (first | ((with_reducible refine gate_dst (N := 93) rfl ?_); go_must (refine sched_Build.goesB (some 93) rfl rfl Try.func26 (by kernel_rfl) rfl #[.pointer (some ⟨g, 0, none⟩), .int .i64 iv] rfl rfl (by (try simp only [List.map_toArray, List.map_cons, List.map_nil]); first | done | rfl | (simp [Act.eval]; done) | (go_simp; done)) ?_; refine (sched_Build.nothing Wc g iv).mono ?_); rintro e W4 ⟨rfl, hb⟩; refine ⟨_, rfl, ?_⟩))
        rw [show a0_3.toNat = (List.replicate a0_3.toNat (1 : Int)).length from List.length_replicate.symm]
        exact TL.out _ _ _ _ _ _ _ _ _ _ _ _ _ _ _ _ _ _ _ _ _ _ _ _ _ _ _ _ _ _ _ _ _ _ _ _ _ _ _ _ _ _ _ _ _ _ _ _ _ _ _ _ _ _ H5.out ((hb.block g (Array.getElem?_eq_some_iff.1 HG2.out).1).trans HG2.out) (HK2.out.trans (KeepBut.of_below hb g none) (.inl rfl)) (HB2.out.trans (hb.mono (Nat.le_of_lt (Array.getElem?_eq_some_iff.1 HG2.out).1)))
      ·have hpay := HPAY.out
       rw [if_neg c2] at hpay
       rw [decide_eq_false c2] at hbl
       subst hbl
       obtain ⟨e1, e2⟩ : wrap64 (left + iv) = paid ∧ level = lv := by simpa using hpay
       clear hpay HPAY c2
       go_wp2
       rw [show a0_3.toNat = (List.replicate a0_3.toNat (1 : Int)).length from List.length_replicate.symm]
       subst e2
       exact TL.out paid _ _ _ _ _ _ _ _ _ _ _ _ _ _ _ _ _ _ _ _ _ _ _ _ _ _ _ _ _ _ _ _ _ _ _ _ _ _ _ _ _ _ _ _ _ _ _ _ _ _ _ _ _ H5.out HG2.out HK2.out HB2.out
     ·have q2 : (ie != 0) = true := by simp [ce]
      have H3 := HN2.out
      rw [if_neg ce] at H3
      obtain ⟨rfl, rfl⟩ : [] = r1 ∧ ie = r2 := by simpa using H3
      clear ce H3
      go_wp2
      go_ret2
      refine ⟨_, rfl, Kd.R_nil _ _ _ _ _, ?_⟩
      rw [← HN.out]
      exact QB.out.trans (HB0.out.mono (Nat.le_of_lt (Nat.lt_trans NG.out GW.out)))
    ·rw [if_neg c1] at H
     obtain ⟨rfl, rfl⟩ : out = r1 ∧ 0 = r2 := by simpa using H
     have q1 : decide (at_ < a0_3) = false := decide_eq_false c1
     clear c1 H
     go_wp2
     repeat (go_quiet (fail); try go_wp2)
     go_ret2
     refine ⟨_, rfl, ?_, ?_⟩
     ·rw [← HN.out]
      first | exact QR.out | exact Kd.R_drew QR.out | exact Kd.R_below QR.out ⟨rfl, rfl, rfl, Nat.le_refl _, fun _ _ => rfl⟩
     ·rw [← HN.out]
      exact ⟨QB.out.os, QB.out.tape, QB.out.output, QB.out.size, QB.out.block⟩
 ·rw [if_neg c0] at h
  obtain ⟨rfl, rfl⟩ : [] = r1 ∧ e0 = r2 := by simpa using h
  have q0 : (e0 != 0) = true := by simp [c0]
  clear c0 h
  go_wp2_with (first | (go_at_call 15; go_must ((with_reducible refine (sched_Check.calls k a0_0 a0_1 A0_2 c0_2 l0_2 a0_3 e0 _ C1.out HC.out HE.out).mono ?_)); rintro e W2 ⟨rfl, hb2⟩))
  go_ret2
  exact ⟨_, rfl, Kd.R_nil _ _ _ _ _, by rw [← HN.out]; exact Y1.out.trans (hb2.mono (by have := S1.out; omega))⟩


end Go.Proofs.Ytchpeobenlnemaa.S
end
