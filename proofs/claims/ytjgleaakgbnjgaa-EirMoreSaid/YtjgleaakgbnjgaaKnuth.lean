set_option linter.unusedSimpArgs false
set_option linter.unusedVariables false
/-
 Division of two words by one, digit by digit: plain laws of Int.
 Conditions: none beyond those that each theorem names.
-/
namespace Go.Proofs.Ytjgleaakgbnjgaa.Knuth
theorem ltge (a b : Int) : a < b ∨ b ≤ a := by omega
theorem quot_uniq {A b q r : Int} (hb : 0 < b) (h : A = b * q + r) (h0 : 0 ≤ r) (h1 : r < b) : A / b = q ∧ A % b = r := by
 have := Int.mul_ediv_add_emod A b
 have p0 := Int.emod_nonneg A (show b ≠ 0 by omega)
 have p1 := Int.emod_lt_of_pos A hb
 generalize A / b = q' at *
 generalize A % b = r' at *
 have e : b * (q' - q) = r - r' := by rw [Int.mul_sub]; omega
 have k : q' - q = 0 := by
  rcases Int.lt_trichotomy (q' - q) 0 with c | c | c
  ·have : b * (q' - q) ≤ b * (-1) := Int.mul_le_mul_of_nonneg_left (by omega) (by omega)
   omega
  ·exact c
  ·have : b * 1 ≤ b * (q' - q) := Int.mul_le_mul_of_nonneg_left (by omega) (by omega)
   omega
 rw [k, Int.mul_zero] at e
 omega
theorem guess {Y y1 y0 U u : Int} (hY : Y = y1 * 4294967296 + y0) (h1 : 2147483648 ≤ y1) (h00 : 0 ≤ y0) (h01 : y0 < 4294967296)
  (hU0 : 0 ≤ U) (hU : U < Y) (hu0 : 0 ≤ u) (hu : u < 4294967296) :
  (U * 4294967296 + u) / Y ≤ U / y1 ∧ U / y1 ≤ 4294967297 ∧ 0 ≤ (U * 4294967296 + u) / Y ∧ (U * 4294967296 + u) / Y ≤ 4294967295 := by
 have hy : 0 < Y := by omega
 have a := Int.mul_ediv_add_emod U y1
 have a0 := Int.emod_nonneg U (show y1 ≠ 0 by omega)
 have a1 := Int.emod_lt_of_pos U (show 0 < y1 by omega)
 have b := Int.mul_ediv_add_emod (U * 4294967296 + u) Y
 have b0 := Int.emod_nonneg (U * 4294967296 + u) (show Y ≠ 0 by omega)
 have b1 := Int.emod_lt_of_pos (U * 4294967296 + u) hy
 generalize U / y1 = g at *
 generalize U % y1 = r at *
 generalize (U * 4294967296 + u) / Y = q at *
 generalize (U * 4294967296 + u) % Y = t at *
 have q0 : 0 ≤ q := by
  rcases ltge q 0 with c | c
  ·have : Y * q ≤ Y * (-1) := Int.mul_le_mul_of_nonneg_left (by omega) (by omega)
   omega
  ·exact c
 have q1 : q ≤ 4294967295 := by
  rcases ltge 4294967295 q with c | c
  ·have : Y * 4294967296 ≤ Y * q := Int.mul_le_mul_of_nonneg_left (by omega) (by omega)
   omega
  ·exact c
 refine ⟨?_, ?_, q0, q1⟩
 ·rcases ltge g q with c | c
  ·have e1 : y1 * (g + 1) ≤ y1 * q := Int.mul_le_mul_of_nonneg_left (by omega) (by omega)
   have e2 : 0 ≤ y0 * q := Int.mul_nonneg h00 q0
   have e3 : Y * q = 4294967296 * (y1 * q) + y0 * q := by rw [hY]; grind
   rw [Int.mul_add, Int.mul_one] at e1
   omega
  ·exact c
 ·rcases ltge 4294967297 g with c | c
  ·have e1 : y1 * 4294967298 ≤ y1 * g := Int.mul_le_mul_of_nonneg_left (by omega) (by omega)
   omega
  ·exact c
theorem right {Y N q g : Int} (hy : 0 < Y) (hq : q = N / Y) (h : q ≤ g) (h1 : g * Y ≤ N) : g = q := by
 have b := Int.mul_ediv_add_emod N Y
 have b1 := Int.emod_lt_of_pos N hy
 rw [← hq] at b
 rcases ltge q g with c | c
 ·have e1 : Y * (q + 1) ≤ Y * g := Int.mul_le_mul_of_nonneg_left (by omega) (by omega)
  rw [Int.mul_add, Int.mul_one] at e1
  rw [Int.mul_comm] at h1
  omega
 ·omega
theorem wrong {Y N q g : Int} (hy : 0 < Y) (hq : q = N / Y) (h1 : N < g * Y) : q < g := by
 have b := Int.mul_ediv_add_emod N Y
 have b0 := Int.emod_nonneg N (show Y ≠ 0 by omega)
 rw [← hq] at b
 rcases ltge q g with c | c
 ·exact c
 ·have e1 : Y * g ≤ Y * q := Int.mul_le_mul_of_nonneg_left (by omega) (by omega)
  rw [Int.mul_comm] at h1
  omega
theorem parts {Y y1 y0 U u g r : Int} (hY : Y = y1 * 4294967296 + y0) (hr : g * y1 + r = U) : (g * Y ≤ U * 4294967296 + u ↔ g * y0 ≤ 4294967296 * r + u) := by
 have : g * Y = 4294967296 * (g * y1) + g * y0 := by rw [hY]; grind
 omega
theorem whole {X y S Q R : Int} (hy : 0 < y) (hS : 0 < S) (h : X * S = (y * S) * Q + R) (h0 : 0 ≤ R) (h1 : R < y * S) : X / y = Q ∧ X % y = R / S := by
 have e : R = S * (X - y * Q) := by grind
 have f : R / S = X - y * Q := by rw [e]; exact Int.mul_ediv_cancel_left _ (by omega)
 have g0 : 0 ≤ X - y * Q := by
  rcases ltge (X - y * Q) 0 with c | c
  ·have : S * (X - y * Q) ≤ S * (-1) := Int.mul_le_mul_of_nonneg_left (by omega) (by omega)
   omega
  ·exact c
 have g1 : X - y * Q < y := by
  rcases ltge (X - y * Q) y with c | c
  ·exact c
  ·have : S * y ≤ S * (X - y * Q) := Int.mul_le_mul_of_nonneg_left (by omega) (by omega)
   rw [Int.mul_comm S y] at this
   omega
 have := quot_uniq hy (show X = y * Q + (X - y * Q) by omega) g0 g1
 exact ⟨this.1, this.2.trans f.symm⟩
end Go.Proofs.Ytjgleaakgbnjgaa.Knuth
