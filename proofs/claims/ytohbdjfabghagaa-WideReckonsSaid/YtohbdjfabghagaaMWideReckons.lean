/- The statement WideReckonsSaid: for every input the law returns true, and each argument reads afterwards as it read before. Conditions: none. -/
import Derived.Test.YtohbdjfabghagaaWWords
import Derived.Lib.Mul64
import Derived.Lib.EndianBits
import Derived.Test.YtohbdjfabghagaaMWideReckons1
import Derived.Test.YtohbdjfabghagaaSxMathBitsDiv64
import Derived.Test.YtohbdjfabghagaaSxWideAdd
import Derived.Test.YtohbdjfabghagaaMWideReckons2
import Derived.Test.YtohbdjfabghagaaSxLombardref02Compare
import Derived.Test.YtohbdjfabghagaaSxLombardref02Of
import Derived.ChangeArms
import Derived.DataReads
import Derived.WideShapes
import Derived.Deep.Slices
import Derived.Test.YtohbdjfabghagaaRows
import Derived.WalkKit
import Derived.ProofKit
import Derived.OpenShut
import Derived.ShutString
import Derived.ChangeOld
import Derived.Below
import Derived.SizedLaws
import Derived.Carry
section
namespace Go.Proofs.Ytohbdjfabghagaa.Rnd
set_option linter.unusedVariables false
set_option linter.unusedSimpArgs false

/-- A over b rounded to the nearer whole number, to the even one of two; b above 0. -/
def near (A b : Int) : Int := if 2 * (A % b) > b ∨ 2 * (A % b) = b ∧ (A / b) % 2 = 1 then A / b + 1 else A / b

theorem div_split (A b : Int) (hb : 0 < b) : A = b * (A / b) + A % b ∧ 0 ≤ A % b ∧ A % b < b :=
  ⟨(Int.mul_ediv_add_emod A b).symm, Int.emod_nonneg A (by omega), Int.emod_lt_of_pos A hb⟩

theorem near_spec {A b : Int} (hb : 0 < b) : 2 * (b * near A b) ≤ 2 * A + b ∧ 2 * A ≤ 2 * (b * near A b) + b ∧
    (2 * (b * near A b) = 2 * A + b ∨ 2 * A = 2 * (b * near A b) + b → near A b % 2 = 0) := by
  obtain ⟨h, h0, h1⟩ := div_split A b hb
  unfold near
  generalize A % b = r at *
  generalize A / b = q at *
  split
  · rw [Int.mul_add, Int.mul_one]
    generalize b * q = m at *
    refine ⟨by omega, by omega, by omega⟩
  · generalize b * q = m at *
    refine ⟨by omega, by omega, by omega⟩

theorem mul_step {b N M : Int} (hb : 0 < b) (h : N < M) : b * N + b ≤ b * M := by
  have : b * (N + 1) ≤ b * M := Int.mul_le_mul_of_nonneg_left (by omega) (by omega)
  rw [Int.mul_add, Int.mul_one] at this
  exact this

theorem near_uniq {A b N : Int} (hb : 0 < b) (h1 : 2 * (b * N) ≤ 2 * A + b) (h2 : 2 * A ≤ 2 * (b * N) + b)
    (h3 : 2 * (b * N) = 2 * A + b ∨ 2 * A = 2 * (b * N) + b → N % 2 = 0) : near A b = N := by
  obtain ⟨a1, a2, a3⟩ := near_spec (A := A) hb
  generalize near A b = M at *
  rcases Int.lt_trichotomy M N with c | c | c
  · have s := mul_step hb c
    by_cases d : M + 2 ≤ N
    · have := mul_step hb (show M < M + 1 by omega)
      have := mul_step hb (show M + 1 < N by omega)
      omega
    have e : N = M + 1 := by omega
    subst e
    rw [Int.mul_add, Int.mul_one] at *
    omega
  · exact c
  · have s := mul_step hb c
    by_cases d : N + 2 ≤ M
    · have := mul_step hb (show N < N + 1 by omega)
      have := mul_step hb (show N + 1 < M by omega)
      omega
    have e : M = N + 1 := by omega
    subst e
    rw [Int.mul_add, Int.mul_one] at *
    omega

theorem near_neg {A b : Int} (hb : 0 < b) : near (-A) b = -near A b := by
  obtain ⟨a1, a2, a3⟩ := near_spec (A := A) hb
  have e : b * -near A b = -(b * near A b) := Int.mul_neg _ _
  refine near_uniq hb ?_ ?_ ?_ <;> rw [e] <;> omega

/-- the quotient: way 0 downwards, way 1 to the nearer one -/
def rnd (A b way : Int) : Int := if way = 0 then (if b < 0 then (-A) / (-b) else A / b) else (if b < 0 then near (-A) (-b) else near A b)

theorem floor_neg {X b : Int} (hb : 0 < b) : (-X) / b = -(X / b + if X % b > 0 then 1 else 0) := by
  obtain ⟨h, h0, h1⟩ := div_split X b hb
  obtain ⟨g, g0, g1⟩ := div_split (-X) b hb
  generalize X % b = r at *
  generalize X / b = q at *
  generalize (-X) % b = r' at *
  generalize (-X) / b = q' at *
  -- b q' + r' = -(b q + r)
  split
  · rcases Int.lt_trichotomy q' (-(q + 1)) with c | c | c
    · have := mul_step hb c
      rw [Int.mul_neg, Int.mul_add, Int.mul_one] at this
      omega
    · omega
    · have := mul_step hb c
      rw [Int.mul_neg, Int.mul_add, Int.mul_one] at this
      omega
  · rcases Int.lt_trichotomy q' (-q) with c | c | c
    · have := mul_step hb c
      rw [Int.mul_neg] at this
      omega
    · omega
    · have := mul_step hb c
      rw [Int.mul_neg] at this
      omega

/-- whether the size of a quotient is rounded up -/
def upf (way X y : Int) (less : Bool) : Bool := if way = 0 then less && decide (X % y > 0) else decide (2 * (X % y) > y ∨ 2 * (X % y) = y ∧ (X / y) % 2 = 1)
/-- by sizes and signs, as the code does it -/
theorem rnd_sizes {A b way X y : Int} (hw : way = 0 ∨ way = 1) (hb : b ≠ 0) (hX : X = if A < 0 then -A else A) (hy : y = if b < 0 then -b else b) :
    rnd A b way = if (decide (A < 0) != decide (b < 0)) = true then -(X / y + (if upf way X y (decide (A < 0) != decide (b < 0)) = true then 1 else 0)) else X / y + (if upf way X y (decide (A < 0) != decide (b < 0)) = true then 1 else 0) := by
  unfold upf
  have hy0 : 0 < y := by subst hy; split <;> omega
  have hX0 : 0 ≤ X := by subst hX; split <;> omega
  rcases hw with rfl | rfl
  · unfold rnd
    rw [if_pos rfl]
    simp only [if_true]
    by_cases c : A < 0
    · rw [if_pos c] at hX
      by_cases d : b < 0
      · rw [if_pos d] at hy ⊢
        rw [decide_eq_true c, decide_eq_true d, ← hX, ← hy]
        simp
      · rw [if_neg d] at hy ⊢
        rw [decide_eq_true c, decide_eq_false d, ← hy]
        have : A = -X := by omega
        rw [this, floor_neg hy0]
        simp
    · rw [if_neg c] at hX
      by_cases d : b < 0
      · rw [if_pos d] at hy ⊢
        rw [decide_eq_false c, decide_eq_true d, ← hX, ← hy, floor_neg hy0]
        simp
      · rw [if_neg d] at hy ⊢
        rw [decide_eq_false c, decide_eq_false d, ← hX, ← hy]
        simp
  · unfold rnd
    rw [if_neg (by omega)]
    simp only [show ((1 : Int) = 0) = False by simp, if_false]
    have hn : (X / y + if decide (2 * (X % y) > y ∨ 2 * (X % y) = y ∧ X / y % 2 = 1) = true then 1 else 0) = near X y := by
      unfold near
      simp only [decide_eq_true_eq]
      split <;> omega
    rw [hn]
    by_cases c : A < 0
    · rw [if_pos c] at hX
      by_cases d : b < 0
      · rw [if_pos d] at hy ⊢
        rw [decide_eq_true c, decide_eq_true d, ← hX, ← hy]
        simp
      · rw [if_neg d] at hy ⊢
        rw [decide_eq_true c, decide_eq_false d, ← hy]
        have : A = -X := by omega
        rw [this, near_neg hy0]
        simp
    · rw [if_neg c] at hX
      by_cases d : b < 0
      · rw [if_pos d] at hy ⊢
        rw [decide_eq_false c, decide_eq_true d, ← hX, ← hy, near_neg hy0]
        simp
      · rw [if_neg d] at hy ⊢
        rw [decide_eq_false c, decide_eq_false d, ← hX, ← hy]
        simp
end Go.Proofs.Ytohbdjfabghagaa.Rnd
end

section
namespace Go.Proofs.Ytohbdjfabghagaa.Knuth
set_option linter.unusedVariables false
set_option linter.unusedSimpArgs false

theorem ltge (a b : Int) : a < b ∨ b ≤ a := by omega
/-- A quotient by its rest. -/
theorem quot_uniq {A b q r : Int} (hb : 0 < b) (h : A = b * q + r) (h0 : 0 ≤ r) (h1 : r < b) : A / b = q ∧ A % b = r := by
  have := Int.mul_ediv_add_emod A b
  have p0 := Int.emod_nonneg A (show b ≠ 0 by omega)
  have p1 := Int.emod_lt_of_pos A hb
  generalize A / b = q' at *
  generalize A % b = r' at *
  have e : b * (q' - q) = r - r' := by rw [Int.mul_sub]; omega
  have k : q' - q = 0 := by
    rcases Int.lt_trichotomy (q' - q) 0 with c | c | c
    · have : b * (q' - q) ≤ b * (-1) := Int.mul_le_mul_of_nonneg_left (by omega) (by omega)
      omega
    · exact c
    · have : b * 1 ≤ b * (q' - q) := Int.mul_le_mul_of_nonneg_left (by omega) (by omega)
      omega
  rw [k, Int.mul_zero] at e
  omega

/-- the first guess: no less than the quotient, and at most one beyond a digit -/
theorem guess {Y y1 y0 U u : Int} (hY : Y = y1 * 4294967296 + y0) (h1 : 2147483648 ≤ y1) (h00 : 0 ≤ y0) (h01 : y0 < 4294967296)
    (hU0 : 0 ≤ U) (hU : U < Y) (hu0 : 0 ≤ u) (hu : u < 4294967296) :
    (U * 4294967296 + u) / Y ≤ U / y1 ∧ U / y1 ≤ 4294967297 ∧ 0 ≤ (U * 4294967296 + u) / Y ∧ (U * 4294967296 + u) / Y ≤ 4294967295 := by
  have hy : 0 < Y := by omega
  have a := Int.mul_ediv_add_emod U y1
  have a0 := Int.emod_nonneg U (show y1 ≠ 0 by omega)
  have a1 := Int.emod_lt_of_pos U (show 0 < y1 by omega)
  have b := Int.mul_ediv_add_emod (U * 4294967296 + u) Y
  have b0 := Int.emod_nonneg (U * 4294967296 + u) (show Y ≠ 0 by omega)
  have b1 := Int.emod_lt_of_pos (U * 4294967296 + u) hy
  generalize U / y1 = g at *
  generalize U % y1 = r at *
  generalize (U * 4294967296 + u) / Y = q at *
  generalize (U * 4294967296 + u) % Y = t at *
  have q0 : 0 ≤ q := by
    rcases ltge q 0 with c | c
    · have : Y * q ≤ Y * (-1) := Int.mul_le_mul_of_nonneg_left (by omega) (by omega)
      omega
    · exact c
  have q1 : q ≤ 4294967295 := by
    rcases ltge 4294967295 q with c | c
    · have : Y * 4294967296 ≤ Y * q := Int.mul_le_mul_of_nonneg_left (by omega) (by omega)
      omega
    · exact c
  refine ⟨?_, ?_, q0, q1⟩
  · rcases ltge g q with c | c
    · have e1 : y1 * (g + 1) ≤ y1 * q := Int.mul_le_mul_of_nonneg_left (by omega) (by omega)
      have e2 : 0 ≤ y0 * q := Int.mul_nonneg h00 q0
      have e3 : Y * q = 4294967296 * (y1 * q) + y0 * q := by rw [hY]; grind
      rw [Int.mul_add, Int.mul_one] at e1
      omega
    · exact c
  · rcases ltge 4294967297 g with c | c
    · have e1 : y1 * 4294967298 ≤ y1 * g := Int.mul_le_mul_of_nonneg_left (by omega) (by omega)
      omega
    · exact c

/-- the guess is right if it asks for no more than there is -/
theorem right {Y N q g : Int} (hy : 0 < Y) (hq : q = N / Y) (h : q ≤ g) (h1 : g * Y ≤ N) : g = q := by
  have b := Int.mul_ediv_add_emod N Y
  have b1 := Int.emod_lt_of_pos N hy
  rw [← hq] at b
  rcases ltge q g with c | c
  · have e1 : Y * (q + 1) ≤ Y * g := Int.mul_le_mul_of_nonneg_left (by omega) (by omega)
    rw [Int.mul_add, Int.mul_one] at e1
    rw [Int.mul_comm] at h1
    omega
  · omega

theorem wrong {Y N q g : Int} (hy : 0 < Y) (hq : q = N / Y) (h1 : N < g * Y) : q < g := by
  have b := Int.mul_ediv_add_emod N Y
  have b0 := Int.emod_nonneg N (show Y ≠ 0 by omega)
  rw [← hq] at b
  rcases ltge q g with c | c
  · exact c
  · have e1 : Y * g ≤ Y * q := Int.mul_le_mul_of_nonneg_left (by omega) (by omega)
    rw [Int.mul_comm] at h1
    omega

/-- what is asked of a guess, by its parts -/
theorem parts {Y y1 y0 U u g r : Int} (hY : Y = y1 * 4294967296 + y0) (hr : g * y1 + r = U) : (g * Y ≤ U * 4294967296 + u ↔ g * y0 ≤ 4294967296 * r + u) := by
  have : g * Y = 4294967296 * (g * y1) + g * y0 := by rw [hY]; grind
  omega

/-- two digits, and the rest moved back -/
theorem whole {X y S Q R : Int} (hy : 0 < y) (hS : 0 < S) (h : X * S = (y * S) * Q + R) (h0 : 0 ≤ R) (h1 : R < y * S) : X / y = Q ∧ X % y = R / S := by
  have e : R = S * (X - y * Q) := by grind
  have f : R / S = X - y * Q := by rw [e]; exact Int.mul_ediv_cancel_left _ (by omega)
  have g0 : 0 ≤ X - y * Q := by
    rcases ltge (X - y * Q) 0 with c | c
    · have : S * (X - y * Q) ≤ S * (-1) := Int.mul_le_mul_of_nonneg_left (by omega) (by omega)
      omega
    · exact c
  have g1 : X - y * Q < y := by
    rcases ltge (X - y * Q) y with c | c
    · exact c
    · have : S * y ≤ S * (X - y * Q) := Int.mul_le_mul_of_nonneg_left (by omega) (by omega)
      rw [Int.mul_comm S y] at this
      omega
  have := quot_uniq hy (show X = y * Q + (X - y * Q) by omega) g0 g1
  exact ⟨this.1, this.2.trans f.symm⟩
end Go.Proofs.Ytohbdjfabghagaa.Knuth
end

section
namespace Go.Proofs.Ytohbdjfabghagaa.XNum
set_option linter.unusedVariables false
set_option linter.unusedSimpArgs false
open Go.RowKit Go.Proofs.YtohbdjfabghagaaW.PrintWords

theorem w64 {n : Int} (h0 : -9223372036854775808 ≤ n) (h1 : n ≤ 9223372036854775807) : wrap64 n = n := by
  unfold wrap64
  omega
theorem wf64 {a : Int} : (Lit.int .i64 a).wf = true ↔ -9223372036854775808 ≤ a ∧ a ≤ 9223372036854775807 := by
  simp only [Lit.wf, IntKind.min, IntKind.max, IntKind.signed, IntKind.bits, Bool.and_eq_true, decide_eq_true_eq, if_true]
  omega
theorem wfu64 {a : Int} : (Lit.int .u64 a).wf = true ↔ 0 ≤ a ∧ a ≤ 18446744073709551615 := by
  simp only [Lit.wf, IntKind.min, IntKind.max, IntKind.signed, IntKind.bits, Bool.and_eq_true, decide_eq_true_eq]
  simp
theorem tm_nn {a k : Int} (h : 0 ≤ a) : Int.tmod a k = a % k := Int.tmod_eq_emod_of_nonneg h
theorem td_nn {a k : Int} (h : 0 ≤ a) : Int.tdiv a k = a / k := Int.tdiv_eq_ediv_of_nonneg h
end Go.Proofs.Ytohbdjfabghagaa.XNum
end

section
namespace Go.Proofs.Ytohbdjfabghagaa.XBits
set_option linter.unusedVariables false
set_option linter.unusedSimpArgs false
open Go.RowKit Go.Proofs.Ytohbdjfabghagaa.S Go.Proofs.Ytohbdjfabghagaa.XNum Go.Proofs.Ytohbdjfabghagaa.Knuth Go.Proofs.YtohbdjfabghagaaW.PrintWords

theorem wu (n : Int) : IntKind.u64.wrap n = n % 18446744073709551616 := IntKind.wrap_u64 n
theorem wu_id {n : Int} (h0 : 0 ≤ n) (h1 : n < 18446744073709551616) : IntKind.u64.wrap n = n := by rw [wu]; omega
theorem and32 {x : Int} (h0 : 0 ≤ x) (h1 : x < 18446744073709551616) : Go.bits .and .u64 x 4294967295 = x % 4294967296 := bits_mask .u64 64 (by decide) wraps_u64 32 (by decide) x h0 h1

theorem mul64 {x y : Int} (hx : 0 ≤ x) (hx1 : x < 18446744073709551616) (hy : 0 ≤ y) (hy1 : y < 18446744073709551616) :
    math_bits_Mul64.f x y = some (x * y / 18446744073709551616, x * y % 18446744073709551616) := by
  unfold math_bits_Mul64.f
  rw [and32 hx hx1, and32 hy hy1]
  simp only [wu]
  rw [and32 (by omega) (by omega)]
  obtain ⟨x, rfl⟩ := Int.eq_ofNat_of_zero_le hx
  obtain ⟨y, rfl⟩ := Int.eq_ofNat_of_zero_le hy
  obtain ⟨a, b, c, d⟩ := Go.Lib.mul64_hi x y (by omega) (by omega)
  have d' : ((x * y / 18446744073709551616 : Nat) : Int) = (x : Int) * y / 18446744073709551616 := by rw [Int.natCast_ediv, Int.natCast_mul]; rfl
  rw [← d', ← d]
  have e1 : ((x : Int) / 4294967296) * ((y : Int) / 4294967296) = ((x / 4294967296 * (y / 4294967296) : Nat) : Int) := by rw [Int.natCast_mul, Int.natCast_ediv, Int.natCast_ediv]; rfl
  have e2 : ((x : Int) / 4294967296) * ((y : Int) % 4294967296) = ((x / 4294967296 * (y % 4294967296) : Nat) : Int) := by rw [Int.natCast_mul, Int.natCast_ediv, Int.natCast_emod]; rfl
  have e3 : ((x : Int) % 4294967296) * ((y : Int) / 4294967296) = ((x % 4294967296 * (y / 4294967296) : Nat) : Int) := by rw [Int.natCast_mul, Int.natCast_emod, Int.natCast_ediv]; rfl
  have e4 : ((x : Int) % 4294967296) * ((y : Int) % 4294967296) = ((x % 4294967296 * (y % 4294967296) : Nat) : Int) := by rw [Int.natCast_mul, Int.natCast_emod, Int.natCast_emod]; rfl
  rw [e1, e2, e3, e4]
  have l1 := Go.Lib.half_mul_le (a := x / 4294967296) (b := y / 4294967296) (by omega) (by omega)
  have l2 := Go.Lib.half_mul_le (a := x / 4294967296) (b := y % 4294967296) (by omega) (by omega)
  have l3 := Go.Lib.half_mul_le (a := x % 4294967296) (b := y / 4294967296) (by omega) (by omega)
  have l4 := Go.Lib.half_mul_le (a := x % 4294967296) (b := y % 4294967296) (by omega) (by omega)
  have l5 : x * y / 18446744073709551616 < 18446744073709551616 := by
    have : x * y < 18446744073709551616 * 18446744073709551616 := Nat.mul_lt_mul_of_lt_of_lt (by omega) (by omega)
    omega
  generalize x / 4294967296 * (y / 4294967296) = p1 at *
  generalize x / 4294967296 * (y % 4294967296) = p2 at *
  generalize x % 4294967296 * (y / 4294967296) = p3 at *
  generalize x % 4294967296 * (y % 4294967296) = p4 at *
  generalize x * y / 18446744073709551616 = p5 at *
  congr 2
  omega

/-- How many bits a byte has. -/
def len8 (i : Int) : Int := if i < 1 then 0 else if i < 2 then 1 else if i < 4 then 2 else if i < 8 then 3 else if i < 16 then 4 else if i < 32 then 5 else if i < 64 then 6 else if i < 128 then 7 else 8
theorem tab_fin : ∀ i : Fin 256, bt (⟨#[0, 1, 2, 2, 3, 3, 3, 3, 4, 4, 4, 4, 4, 4, 4, 4, 5, 5, 5, 5, 5, 5, 5, 5, 5, 5, 5, 5, 5, 5, 5, 5, 6, 6, 6, 6, 6, 6, 6, 6, 6, 6, 6, 6, 6, 6, 6, 6, 6, 6, 6, 6, 6, 6, 6, 6, 6, 6, 6, 6, 6, 6, 6, 6, 7, 7, 7, 7, 7, 7, 7, 7, 7, 7, 7, 7, 7, 7, 7, 7, 7, 7, 7, 7, 7, 7, 7, 7, 7, 7, 7, 7, 7, 7, 7, 7, 7, 7, 7, 7, 7, 7, 7, 7, 7, 7, 7, 7, 7, 7, 7, 7, 7, 7, 7, 7, 7, 7, 7, 7, 7, 7, 7, 7, 7, 7, 7, 7, 8, 8, 8, 8, 8, 8, 8, 8, 8, 8, 8, 8, 8, 8, 8, 8, 8, 8, 8, 8, 8, 8, 8, 8, 8, 8, 8, 8, 8, 8, 8, 8, 8, 8, 8, 8, 8, 8, 8, 8, 8, 8, 8, 8, 8, 8, 8, 8, 8, 8, 8, 8, 8, 8, 8, 8, 8, 8, 8, 8, 8, 8, 8, 8, 8, 8, 8, 8, 8, 8, 8, 8, 8, 8, 8, 8, 8, 8, 8, 8, 8, 8, 8, 8, 8, 8, 8, 8, 8, 8, 8, 8, 8, 8, 8, 8, 8, 8, 8, 8, 8, 8, 8, 8, 8, 8, 8, 8, 8, 8, 8, 8, 8, 8, 8, 8, 8, 8, 8, 8, 8, 8, 8, 8, 8, 8, 8, 8]⟩ : ByteArray) (i.val : Int) = len8 (i.val : Int) := by decide +kernel
theorem tab {i : Int} (h0 : 0 ≤ i) (h1 : i < 256) : bt (⟨#[0, 1, 2, 2, 3, 3, 3, 3, 4, 4, 4, 4, 4, 4, 4, 4, 5, 5, 5, 5, 5, 5, 5, 5, 5, 5, 5, 5, 5, 5, 5, 5, 6, 6, 6, 6, 6, 6, 6, 6, 6, 6, 6, 6, 6, 6, 6, 6, 6, 6, 6, 6, 6, 6, 6, 6, 6, 6, 6, 6, 6, 6, 6, 6, 7, 7, 7, 7, 7, 7, 7, 7, 7, 7, 7, 7, 7, 7, 7, 7, 7, 7, 7, 7, 7, 7, 7, 7, 7, 7, 7, 7, 7, 7, 7, 7, 7, 7, 7, 7, 7, 7, 7, 7, 7, 7, 7, 7, 7, 7, 7, 7, 7, 7, 7, 7, 7, 7, 7, 7, 7, 7, 7, 7, 7, 7, 7, 7, 8, 8, 8, 8, 8, 8, 8, 8, 8, 8, 8, 8, 8, 8, 8, 8, 8, 8, 8, 8, 8, 8, 8, 8, 8, 8, 8, 8, 8, 8, 8, 8, 8, 8, 8, 8, 8, 8, 8, 8, 8, 8, 8, 8, 8, 8, 8, 8, 8, 8, 8, 8, 8, 8, 8, 8, 8, 8, 8, 8, 8, 8, 8, 8, 8, 8, 8, 8, 8, 8, 8, 8, 8, 8, 8, 8, 8, 8, 8, 8, 8, 8, 8, 8, 8, 8, 8, 8, 8, 8, 8, 8, 8, 8, 8, 8, 8, 8, 8, 8, 8, 8, 8, 8, 8, 8, 8, 8, 8, 8, 8, 8, 8, 8, 8, 8, 8, 8, 8, 8, 8, 8, 8, 8, 8, 8, 8, 8]⟩ : ByteArray) i = len8 i := by
  obtain ⟨n, rfl⟩ := Int.eq_ofNat_of_zero_le h0
  exact tab_fin ⟨n, by omega⟩
/-- It has n bits. -/
def Bits (n : Nat) (y : Int) : Prop := 1 ≤ n ∧ (2 : Int) ^ (n - 1) ≤ y ∧ y < 2 ^ n
theorem len8_bits {i : Int} (h0 : 1 ≤ i) (h1 : i < 256) : ∃ m : Nat, len8 i = m ∧ m ≤ 8 ∧ Bits m i := by
  unfold len8 Bits
  rw [if_neg (by omega)]
  by_cases c1 : i < 2
  · rw [if_pos c1]; exact ⟨1, rfl, by omega, by omega, by simp; omega, by simp; omega⟩
  rw [if_neg c1]
  by_cases c2 : i < 4
  · rw [if_pos c2]; exact ⟨2, rfl, by omega, by omega, by simp; omega, by simp; omega⟩
  rw [if_neg c2]
  by_cases c3 : i < 8
  · rw [if_pos c3]; exact ⟨3, rfl, by omega, by omega, by simp; omega, by simp; omega⟩
  rw [if_neg c3]
  by_cases c4 : i < 16
  · rw [if_pos c4]; exact ⟨4, rfl, by omega, by omega, by simp; omega, by simp; omega⟩
  rw [if_neg c4]
  by_cases c5 : i < 32
  · rw [if_pos c5]; exact ⟨5, rfl, by omega, by omega, by simp; omega, by simp; omega⟩
  rw [if_neg c5]
  by_cases c6 : i < 64
  · rw [if_pos c6]; exact ⟨6, rfl, by omega, by omega, by simp; omega, by simp; omega⟩
  rw [if_neg c6]
  by_cases c7 : i < 128
  · rw [if_pos c7]; exact ⟨7, rfl, by omega, by omega, by simp; omega, by simp; omega⟩
  rw [if_neg c7]
  exact ⟨8, rfl, by omega, by omega, by simp; omega, by simp; omega⟩
theorem bits_up {t m : Nat} {y : Int} (h : Bits m (y / 2 ^ t)) : Bits (m + t) y := by
  obtain ⟨a, b, c⟩ := h
  have hp : (0 : Int) < 2 ^ t := Int.pow_pos (by decide)
  refine ⟨by omega, ?_, ?_⟩
  · have := (Int.le_ediv_iff_mul_le hp).1 b
    rw [show m + t - 1 = m - 1 + t by omega, Int.pow_add]
    exact this
  · have := (Int.ediv_lt_iff_lt_mul hp).1 c
    rw [Int.pow_add]
    exact this

theorem len64 {y : Int} (h0 : 1 ≤ y) (h1 : y < 18446744073709551616) (k : Nat) : ∃ n : Nat, math_bits_Len64.f (k + 1) y = some (n : Int) ∧ n ≤ 64 ∧ Bits n y := by
  have key : ∀ (z x2 : Int) (t : Nat), 1 ≤ z → z < 4294967296 → x2 = t → t ≤ 32 → ∃ n : Nat, math_bits_Len64.j0 (k + 1) z x2 = some (n + t : Int) ∧ n ≤ 32 ∧ Bits n z := by
    intro z x2 t z0 z1 hx ht
    subst hx
    rw [math_bits_Len64.j0]
    by_cases c1 : z ≥ 65536
    · rw [if_pos c1]
      by_cases c2 : z / 65536 ≥ 256
      · rw [if_pos c2, if_pos (by omega), if_pos (by omega), tab (by omega) (by omega)]
        obtain ⟨m, e, hm, hb⟩ := len8_bits (i := z / 65536 / 256 % 256) (by omega) (by omega)
        rw [e]
        refine ⟨m + 24, ?_, by omega, ?_⟩
        · congr 1
          rw [w64 (n := (t : Int) + 16) (by omega) (by omega), w64 (n := (t : Int) + 16 + 8) (by omega) (by omega), w64 (n := (m : Int)) (by omega) (by omega), w64 (by omega) (by omega)]
          omega
        · refine bits_up ?_
          have : z / 2 ^ 24 = z / 65536 / 256 % 256 := by simp; omega
          rw [this]
          exact hb
      · rw [if_neg c2, if_pos (by omega), if_pos (by omega), tab (by omega) (by omega)]
        obtain ⟨m, e, hm, hb⟩ := len8_bits (i := z / 65536 % 256) (by omega) (by omega)
        rw [e]
        refine ⟨m + 16, ?_, by omega, ?_⟩
        · congr 1
          rw [w64 (n := (t : Int) + 16) (by omega) (by omega), w64 (n := (m : Int)) (by omega) (by omega), w64 (by omega) (by omega)]
          omega
        · refine bits_up ?_
          have : z / 2 ^ 16 = z / 65536 % 256 := by simp; omega
          rw [this]
          exact hb
    · rw [if_neg c1]
      by_cases c2 : z ≥ 256
      · rw [if_pos c2, if_pos (by omega), if_pos (by omega), tab (by omega) (by omega)]
        obtain ⟨m, e, hm, hb⟩ := len8_bits (i := z / 256 % 256) (by omega) (by omega)
        rw [e]
        refine ⟨m + 8, ?_, by omega, ?_⟩
        · congr 1
          rw [w64 (n := (t : Int) + 8) (by omega) (by omega), w64 (n := (m : Int)) (by omega) (by omega), w64 (by omega) (by omega)]
          omega
        · refine bits_up ?_
          have : z / 2 ^ 8 = z / 256 % 256 := by simp; omega
          rw [this]
          exact hb
      · rw [if_neg c2, if_pos (by omega), if_pos (by omega), tab (by omega) (by omega)]
        obtain ⟨m, e, hm, hb⟩ := len8_bits (i := z % 256) (by omega) (by omega)
        rw [e]
        refine ⟨m, ?_, by omega, ?_⟩
        · congr 1
          rw [w64 (n := (m : Int)) (by omega) (by omega), w64 (by omega) (by omega)]
          omega
        · have : z % 256 = z := by omega
          rw [this] at hb
          exact hb
  unfold math_bits_Len64.f
  by_cases c : y ≥ 4294967296
  · rw [if_pos c]
    obtain ⟨n, e, hn, hb⟩ := key (y / 4294967296) 32 32 (by omega) (by omega) rfl (by omega)
    refine ⟨n + 32, by rw [e]; simp, by omega, bits_up ?_⟩
    have : (2 : Int) ^ 32 = 4294967296 := by decide
    rw [this]
    exact hb
  · rw [if_neg c]
    obtain ⟨n, e, hn, hb⟩ := key y 0 0 (by omega) (by omega) rfl (by omega)
    exact ⟨n, by rw [e]; simp, by omega, hb⟩

/-- one digit, as the first loop finds it -/
theorem digit0 {B : Nat} {res : Option (Int × Int)} {x2 x8 x9 x10 x11 x13 x14 q : Int} (hY : x2 = x9 * 4294967296 + x10) (h1 : 2147483648 ≤ x9) (hY1 : x2 < 18446744073709551616)
    (h00 : 0 ≤ x10) (h01 : x10 < 4294967296) (hU0 : 0 ≤ x11) (hU : x11 < x2) (hu0 : 0 ≤ x13) (hu : x13 < 4294967296) (hq : q = (x11 * 4294967296 + x13) / x2)
    (hres : ∀ k, B ≤ k → math_bits_Div64.j2 k x2 x8 x9 x10 x11 x13 x14 q = res) :
    ∀ (d : Nat) (g r : Int), q ≤ g → g ≤ 4294967297 → g - q ≤ d → g * x9 + r = x11 → 0 ≤ r → (r < 4294967296) → ∀ k, B + 2 * d + 2 ≤ k → math_bits_Div64.l0 k x2 x8 x9 x10 x11 x13 x14 g r = res := by
  obtain ⟨_, _, q0, q1⟩ := guess hY h1 h00 h01 hU0 hU hu0 hu
  rw [← hq] at q0 q1
  intro d
  induction d with
  | zero =>
    intro g r hg _ hd hr r0 r1 k hk
    obtain ⟨k, rfl⟩ : ∃ m, k = m + 2 := ⟨k - 2, by omega⟩
    have e : g = q := by omega
    subst e
    have hle : g * x10 ≤ 4294967296 * r + x13 := by
      rw [← parts hY hr]
      have b := Int.mul_ediv_add_emod (x11 * 4294967296 + x13) x2
      have b0 := Int.emod_nonneg (x11 * 4294967296 + x13) (show x2 ≠ 0 by omega)
      rw [← hq, Int.mul_comm] at b
      omega
    have gy0 : 0 ≤ g * x10 := Int.mul_nonneg q0 h00
    simp only [math_bits_Div64.l0]
    rw [if_neg (by omega), wu_id (n := g * x10) gy0 (by omega), wu_id (n := 4294967296 * r) (by omega) (by omega), wu_id (n := 4294967296 * r + x13) (by omega) (by omega), decide_eq_false (by omega)]
    simp only [math_bits_Div64.j1, Bool.false_eq_true, if_false]
    exact hres k (by omega)
  | succ d ih =>
    intro g r hg hg1 hd hr r0 r1 k hk
    obtain ⟨k, rfl⟩ : ∃ m, k = m + 2 := ⟨k - 2, by omega⟩
    have step : q < g → math_bits_Div64.j1 (k + 1) x2 x8 x9 x10 x11 x13 x14 g r true = res := by
      intro hlt
      simp only [math_bits_Div64.j1, if_true]
      rw [wu_id (n := r + x9) (by omega) (by omega), wu_id (n := g - 1) (by omega) (by omega)]
      by_cases c : r + x9 ≥ 4294967296
      · rw [if_pos c]
        have e : g - 1 = q := by
          refine right (show 0 < x2 by omega) hq (by omega) ?_
          rw [parts (r := r + x9) hY (by rw [Int.sub_mul]; omega)]
          have m : (g - 1) * x10 ≤ 4294967296 * x10 := Int.mul_le_mul_of_nonneg_right (by omega) h00
          omega
        rw [e]
        exact hres k (by omega)
      · rw [if_neg c]
        exact ih (g - 1) (r + x9) (by omega) (by omega) (by omega) (by rw [Int.sub_mul]; omega) (by omega) (by omega) k (by omega)
    simp only [math_bits_Div64.l0]
    by_cases c : g ≥ 4294967296
    · rw [if_pos c]
      exact step (by omega)
    · rw [if_neg c]
      have gy0 : 0 ≤ g * x10 := Int.mul_nonneg (by omega) h00
      have gy1 : g * x10 ≤ 4294967296 * x10 := Int.mul_le_mul_of_nonneg_right (by omega) h00
      rw [wu_id (n := g * x10) gy0 (by omega), wu_id (n := 4294967296 * r) (by omega) (by omega), wu_id (n := 4294967296 * r + x13) (by omega) (by omega)]
      by_cases c2 : g * x10 > 4294967296 * r + x13
      · rw [decide_eq_true c2]
        refine step (wrong (Y := x2) (N := x11 * 4294967296 + x13) (by omega) hq ?_)
        have := (parts (u := x13) hY hr)
        omega
      · rw [decide_eq_false c2]
        simp only [math_bits_Div64.j1, Bool.false_eq_true, if_false]
        have e : g = q := right (Y := x2) (by omega) hq hg ((parts hY hr).2 (by omega))
        rw [e]
        exact hres k (by omega)

/-- the second digit, and what comes behind it -/
theorem digit1 {x2 x8 x9 x10 x14 x15 x17 q : Int} (hY : x2 = x9 * 4294967296 + x10) (h1 : 2147483648 ≤ x9) (hY1 : x2 < 18446744073709551616)
    (h00 : 0 ≤ x10) (h01 : x10 < 4294967296) (hU0 : 0 ≤ x17) (hU : x17 < x2) (hu0 : 0 ≤ x14) (hu : x14 < 4294967296) (hq : q = (x17 * 4294967296 + x14) / x2) (h8 : 0 ≤ x8) (hp0 : 0 ≤ x15) (hp1 : x15 < 4294967296) :
    ∀ (d : Nat) (g r : Int), q ≤ g → g ≤ 4294967297 → g - q ≤ d → g * x9 + r = x17 → 0 ≤ r → (r < 4294967296) → ∀ k, 2 * d + 2 ≤ k → math_bits_Div64.l1 k x2 x8 x9 x10 x14 x15 r x17 g = some (x15 * 4294967296 + q, shr .u64 ((x17 * 4294967296 + x14) % x2) x8) := by
  obtain ⟨_, _, q0, q1⟩ := guess hY h1 h00 h01 hU0 hU hu0 hu
  rw [← hq] at q0 q1
  have b := Int.mul_ediv_add_emod (x17 * 4294967296 + x14) x2
  have b0 := Int.emod_nonneg (x17 * 4294967296 + x14) (show x2 ≠ 0 by omega)
  have b1 := Int.emod_lt_of_pos (x17 * 4294967296 + x14) (show 0 < x2 by omega)
  rw [← hq, Int.mul_comm] at b
  have fin : some (IntKind.u64.wrap ((IntKind.u64.wrap (x15 * 4294967296)) + q), shr .u64 (IntKind.u64.wrap ((IntKind.u64.wrap ((IntKind.u64.wrap (x17 * 4294967296)) + x14)) - (IntKind.u64.wrap (q * x2)))) x8) = some (x15 * 4294967296 + q, shr .u64 ((x17 * 4294967296 + x14) % x2) x8) := by
    rw [wu_id (n := x15 * 4294967296) (by omega) (by omega), wu_id (n := x15 * 4294967296 + q) (by omega) (by omega)]
    congr 3
    simp only [wu]
    generalize q * x2 = m at *
    generalize (x17 * 4294967296 + x14) % x2 = t at *
    omega
  intro d
  induction d with
  | zero =>
    intro g r hg _ hd hr r0 r1 k hk
    obtain ⟨k, rfl⟩ : ∃ m, k = m + 2 := ⟨k - 2, by omega⟩
    have e : g = q := by omega
    subst e
    have hle : g * x10 ≤ 4294967296 * r + x14 := by
      rw [← parts hY hr]
      omega
    have gy0 : 0 ≤ g * x10 := Int.mul_nonneg q0 h00
    simp only [math_bits_Div64.l1]
    rw [if_neg (by omega), wu_id (n := g * x10) gy0 (by omega), wu_id (n := 4294967296 * r) (by omega) (by omega), wu_id (n := 4294967296 * r + x14) (by omega) (by omega), decide_eq_false (by omega)]
    simp only [math_bits_Div64.j4, Bool.false_eq_true, if_false]
    rw [if_pos h8]
    exact fin
  | succ d ih =>
    intro g r hg hg1 hd hr r0 r1 k hk
    obtain ⟨k, rfl⟩ : ∃ m, k = m + 2 := ⟨k - 2, by omega⟩
    have step : q < g → math_bits_Div64.j4 (k + 1) x2 x8 x9 x10 x14 x15 r x17 g true = some (x15 * 4294967296 + q, shr .u64 ((x17 * 4294967296 + x14) % x2) x8) := by
      intro hlt
      simp only [math_bits_Div64.j4, if_true]
      rw [wu_id (n := r + x9) (by omega) (by omega), wu_id (n := g - 1) (by omega) (by omega)]
      by_cases c : r + x9 ≥ 4294967296
      · rw [if_pos c, if_pos h8]
        have e : g - 1 = q := by
          refine right (show 0 < x2 by omega) hq (by omega) ?_
          rw [parts (r := r + x9) hY (by rw [Int.sub_mul]; omega)]
          have m : (g - 1) * x10 ≤ 4294967296 * x10 := Int.mul_le_mul_of_nonneg_right (by omega) h00
          omega
        rw [e]
        exact fin
      · rw [if_neg c]
        exact ih (g - 1) (r + x9) (by omega) (by omega) (by omega) (by rw [Int.sub_mul]; omega) (by omega) (by omega) k (by omega)
    simp only [math_bits_Div64.l1]
    by_cases c : g ≥ 4294967296
    · rw [if_pos c]
      exact step (by omega)
    · rw [if_neg c]
      have gy0 : 0 ≤ g * x10 := Int.mul_nonneg (by omega) h00
      have gy1 : g * x10 ≤ 4294967296 * x10 := Int.mul_le_mul_of_nonneg_right (by omega) h00
      rw [wu_id (n := g * x10) gy0 (by omega), wu_id (n := 4294967296 * r) (by omega) (by omega), wu_id (n := 4294967296 * r + x14) (by omega) (by omega)]
      by_cases c2 : g * x10 > 4294967296 * r + x14
      · rw [decide_eq_true c2]
        refine step (wrong (Y := x2) (N := x17 * 4294967296 + x14) (by omega) hq ?_)
        have := (parts (u := x14) hY hr)
        omega
      · rw [decide_eq_false c2]
        simp only [math_bits_Div64.j4, Bool.false_eq_true, if_false]
        have e : g = q := right (Y := x2) (by omega) hq hg ((parts hY hr).2 (by omega))
        rw [e, if_pos h8]
        exact fin

theorem div64 {hi lo y : Int} (h0 : 0 ≤ hi) (h1 : hi < y) (l0 : 0 ≤ lo) (l1 : lo < 18446744073709551616) (y1 : y < 18446744073709551616) {k : Nat} (hk : 24 ≤ k) :
    math_bits_Div64.f k hi lo y = some ((hi * 18446744073709551616 + lo) / y, (hi * 18446744073709551616 + lo) % y) := by
  obtain ⟨k, rfl⟩ : ∃ m, k = m + 24 := ⟨k - 24, by omega⟩
  unfold math_bits_Div64.f
  rw [if_neg (by omega), if_neg (by omega)]
  by_cases c : hi = 0
  · rw [if_pos c]
    subst c
    rw [td_nn l0, tm_nn l0, Int.zero_mul, Int.zero_add]
    have : lo / y ≤ lo := Int.ediv_le_self _ l0
    have : 0 ≤ lo / y := Int.ediv_nonneg l0 (by omega)
    rw [wu_id (by omega) (by omega)]
  rw [if_neg c]
  obtain ⟨n, e, hn, b0, b1, b2⟩ := len64 (y := y) (by omega) y1 (k + 23)
  unfold math_bits_LeadingZeros64.f
  rw [e]
  simp only [Option.bind_some]
  rw [w64 (by omega) (by omega), wu_id (n := 64 - (n : Int)) (by omega) (by omega), wu_id (n := 64 - (64 - (n : Int))) (by omega) (by omega)]
  rw [if_pos (by omega), if_pos (by omega)]
  unfold shl
  unfold shr
  have i1 : min (64 - (n : Int)).toNat IntKind.u64.bits = 64 - n := by show min (64 - (n : Int)).toNat 64 = 64 - n; omega
  have i2 : min (64 - (64 - (n : Int))).toNat IntKind.u64.bits = n := by show min (64 - (64 - (n : Int))).toNat 64 = n; omega
  rw [i1, i2]
  obtain ⟨S, hSd⟩ : ∃ S : Int, S = 2 ^ (64 - n) := ⟨_, rfl⟩
  rw [← hSd]
  have hS : 0 < S := by rw [hSd]; exact Int.pow_pos (by decide)
  have hP : (0 : Int) < 2 ^ n := Int.pow_pos (by decide)
  have hSP : (2 : Int) ^ n * S = 18446744073709551616 := by
    rw [hSd, ← Int.pow_add, show n + (64 - n) = 64 by omega]; decide
  have hSP2 : (2 : Int) ^ (n - 1) * S = 9223372036854775808 := by
    rw [hSd, ← Int.pow_add, show n - 1 + (64 - n) = 63 by omega]; decide
  generalize (2 : Int) ^ n = P at *
  generalize (2 : Int) ^ (n - 1) = P' at *
  have yS1 : y * S < 18446744073709551616 := by
    have : y * S < P * S := Int.mul_lt_mul_of_pos_right b2 hS
    omega
  have yS0 : 9223372036854775808 ≤ y * S := by
    have : P' * S ≤ y * S := Int.mul_le_mul_of_nonneg_right b1 (by omega)
    omega
  have hS1 : hi * S + S ≤ y * S := by
    have : (hi + 1) * S ≤ y * S := Int.mul_le_mul_of_nonneg_right (by omega) (by omega)
    rw [Int.add_mul, Int.one_mul] at this
    omega
  have hS0 : 0 ≤ hi * S := Int.mul_nonneg h0 (by omega)
  have lS0 : 0 ≤ lo * S := Int.mul_nonneg l0 (by omega)
  have lP0 : 0 ≤ lo / P := Int.ediv_nonneg l0 (by omega)
  have lP : lo * S / 18446744073709551616 = lo / P := by
    rw [← hSP]
    exact Int.mul_ediv_mul_of_pos_left _ _ hS
  have lP1 : lo / P < S := by
    rw [Int.ediv_lt_iff_lt_mul hP, Int.mul_comm, hSP]
    exact l1
  rw [wu_id (n := y * S) (by omega) yS1, wu_id (n := hi * S) hS0 (by omega), wu (lo * S)]
  have or1 : Go.bits .or .u64 (hi * S) (lo / P) = hi * S + lo / P := by
    exact bits_join .u64 64 (by decide) wraps_u64 (64 - n) _ _ hS0 (by rw [← hSd]; exact Int.mul_emod_left _ _) (by simp; omega) lP0 (by rw [← hSd]; exact lP1) (by simp; omega)
  rw [or1, and32 (by omega) yS1, and32 (by omega) (by omega)]
  have hX : (hi * 18446744073709551616 + lo) * S = ((hi * S + lo / P) * 18446744073709551616) + lo * S % 18446744073709551616 := by
    rw [← lP]
    have : (hi * 18446744073709551616 + lo) * S = hi * S * 18446744073709551616 + lo * S := by grind
    omega
  generalize hU : hi * S + lo / P = U at *
  generalize hV : lo * S % 18446744073709551616 = V at *
  generalize hY : y * S = Y at *
  have V0 : 0 ≤ V := by omega
  have V1 : V < 18446744073709551616 := by omega
  have Us : U < Y := by omega
  rw [if_neg (by omega), td_nn (by omega)]
  have sp : Y = Y / 4294967296 * 4294967296 + Y % 4294967296 := by omega
  obtain ⟨g1, g2, g3, g4⟩ := guess (u := V / 4294967296) sp (by omega) (by omega) (by omega) (by omega) Us (by omega) (by omega)
  have ga := Int.mul_ediv_add_emod U (Y / 4294967296)
  have ga0 := Int.emod_nonneg U (show Y / 4294967296 ≠ 0 by omega)
  have ga1 := Int.emod_lt_of_pos U (show 0 < Y / 4294967296 by omega)
  rw [Int.mul_comm] at ga
  have gn : 0 ≤ U / (Y / 4294967296) * (Y / 4294967296) := Int.mul_nonneg (by omega) (by omega)
  rw [wu_id (n := U / (Y / 4294967296)) (by omega) (by omega), wu_id (n := U / (Y / 4294967296) * (Y / 4294967296)) (by omega) (by omega), wu_id (n := U - U / (Y / 4294967296) * (Y / 4294967296)) (by omega) (by omega)]
  generalize hg : U / (Y / 4294967296) = g at *
  -- the first digit
  have m1 := Int.mul_ediv_add_emod (U * 4294967296 + V / 4294967296) Y
  have m10 := Int.emod_nonneg (U * 4294967296 + V / 4294967296) (show Y ≠ 0 by omega)
  have m11 := Int.emod_lt_of_pos (U * 4294967296 + V / 4294967296) (show 0 < Y by omega)
  generalize hq1 : (U * 4294967296 + V / 4294967296) / Y = q1 at *
  generalize hr1 : (U * 4294967296 + V / 4294967296) % Y = W at *
  refine digit0 (B := 14) (q := q1) (res := some ((hi * 18446744073709551616 + lo) / y, (hi * 18446744073709551616 + lo) % y)) sp (by omega) (by omega) (by omega) (by omega) (by omega) Us (by omega) (by omega) hq1.symm ?_ 4 g (U - g * (Y / 4294967296)) g1 g2 ?_ (by omega) (by omega) (by omega) (k + 24) (by omega)
  · intro k' hk'
    obtain ⟨k', rfl⟩ : ∃ m, k' = m + 14 := ⟨k' - 14, by omega⟩
    simp only [math_bits_Div64.j2]
    rw [if_neg (by omega)]
    have w : IntKind.u64.wrap ((IntKind.u64.wrap ((IntKind.u64.wrap (U * 4294967296)) + V / 4294967296)) - (IntKind.u64.wrap (q1 * Y))) = W := by
      simp only [wu]
      rw [Int.mul_comm q1 Y]
      generalize Y * q1 = m at *
      omega
    rw [w, td_nn (by omega)]
    obtain ⟨p1, p2, p3, p4⟩ := guess (u := V % 4294967296) sp (by omega) (by omega) (by omega) (show 0 ≤ W by omega) (by omega) (by omega) (by omega)
    have pa := Int.mul_ediv_add_emod W (Y / 4294967296)
    have pa0 := Int.emod_nonneg W (show Y / 4294967296 ≠ 0 by omega)
    have pa1 := Int.emod_lt_of_pos W (show 0 < Y / 4294967296 by omega)
    rw [Int.mul_comm] at pa
    have pn : 0 ≤ W / (Y / 4294967296) * (Y / 4294967296) := Int.mul_nonneg (by omega) (by omega)
    rw [wu_id (n := W / (Y / 4294967296)) (by omega) (by omega), wu_id (n := W / (Y / 4294967296) * (Y / 4294967296)) (by omega) (by omega), wu_id (n := W - W / (Y / 4294967296) * (Y / 4294967296)) (by omega) (by omega)]
    generalize hg' : W / (Y / 4294967296) = g' at *
    have m2 := Int.mul_ediv_add_emod (W * 4294967296 + V % 4294967296) Y
    have m20 := Int.emod_nonneg (W * 4294967296 + V % 4294967296) (show Y ≠ 0 by omega)
    have m21 := Int.emod_lt_of_pos (W * 4294967296 + V % 4294967296) (show 0 < Y by omega)
    generalize hq2 : (W * 4294967296 + V % 4294967296) / Y = q2 at *
    have d2 : g' - q2 ≤ 4 := by
      rcases ltge 4 (g' - q2) with c5 | c5
      · have e1 : Y * q2 + Y * 5 ≤ Y * g' := by
          have : Y * (q2 + 5) ≤ Y * g' := Int.mul_le_mul_of_nonneg_left (by omega) (by omega)
          rw [Int.mul_add] at this
          exact this
        have e2 : Y * g' = g' * (Y / 4294967296) * 4294967296 + g' * (Y % 4294967296) := by
          conv => lhs; rw [sp]
          grind
        have e3 : g' * (Y % 4294967296) ≤ 4294967297 * (Y % 4294967296) := Int.mul_le_mul_of_nonneg_right p2 (by omega)
        omega
      · exact c5
    rw [digit1 (q := q2) sp (by omega) (by omega) (by omega) (by omega) (by omega) (by omega) (by omega) (by omega) hq2.symm (by omega) (by omega) (by omega) 4 g' (W - g' * (Y / 4294967296)) p1 p2 d2 (by omega) (by omega) (by omega) (k' + 13) (by omega)]
    have fin := whole (X := hi * 18446744073709551616 + lo) (y := y) (S := S) (Q := q1 * 4294967296 + q2) (R := (W * 4294967296 + V % 4294967296) % Y) (by omega) hS (by
      rw [hX, hY, Int.mul_add]
      have : Y * (q1 * 4294967296) = Y * q1 * 4294967296 := by rw [Int.mul_assoc]
      rw [this]
      generalize Y * q1 = a at *
      generalize Y * q2 = b at *
      omega) m20 (by rw [hY]; exact m21)
    rw [fin.1, fin.2]
    unfold shr
    rw [i1]
    rw [hSd]
  · rcases ltge 4 (g - q1) with c5 | c5
    · have e1 : Y * q1 + Y * 5 ≤ Y * g := by
        have : Y * (q1 + 5) ≤ Y * g := Int.mul_le_mul_of_nonneg_left (by omega) (by omega)
        rw [Int.mul_add] at this
        exact this
      have e2 : Y * g = g * (Y / 4294967296) * 4294967296 + g * (Y % 4294967296) := by
        conv => lhs; rw [sp]
        grind
      have e3 : g * (Y % 4294967296) ≤ 4294967297 * (Y % 4294967296) := Int.mul_le_mul_of_nonneg_right g2 (by omega)
      omega
    · omega
end Go.Proofs.Ytohbdjfabghagaa.XBits
end

section
namespace Go.Proofs.Ytohbdjfabghagaa.XWide
set_option linter.unusedVariables false
set_option linter.unusedSimpArgs false
open Go.RowKit Go.Proofs.Ytohbdjfabghagaa.S Go.Proofs.Ytohbdjfabghagaa.XNum Go.Proofs.Ytohbdjfabghagaa.XBits Go.Proofs.Ytohbdjfabghagaa.Rnd Go.Proofs.YtohbdjfabghagaaW.PrintWords

abbrev I64 (n : Int) : Prop := -9223372036854775808 ≤ n ∧ n ≤ 9223372036854775807
abbrev U64 (n : Int) : Prop := 0 ≤ n ∧ n < 18446744073709551616

theorem and_ones {b : Int} (hb : I64 b) : Go.bits .and .i64 (-1) b = b := by
  show IntKind.i64.wrap (((BitVec.ofInt 64 (-1) &&& BitVec.ofInt 64 b).toNat : Nat) : Int) = b
  have e : BitVec.ofInt 64 (-1) = BitVec.allOnes 64 := by decide
  rw [e, BitVec.allOnes_and, BitVec.toNat_ofInt]
  simp only [IntKind.wrap, IntKind.bits, IntKind.signed, if_true]
  have := hb.1
  have := hb.2
  simp
  omega
theorem and_none (b : Int) : Go.bits .and .i64 0 b = 0 := by
  show IntKind.i64.wrap (((BitVec.ofInt 64 0 &&& BitVec.ofInt 64 b).toNat : Nat) : Int) = 0
  have e : BitVec.ofInt 64 0 = 0#64 := by decide
  rw [e, BitVec.zero_and]
  decide
theorem and1 {x : Int} (h0 : 0 ≤ x) (h1 : x < 18446744073709551616) : Go.bits .and .u64 x 1 = x % 2 := bits_mask .u64 64 (by decide) wraps_u64 1 (by decide) x h0 h1

theorem mul_bd {a b C D : Int} (ha : -C ≤ a) (ha' : a ≤ C) (hb : -D ≤ b) (hb' : b ≤ D) : -(C * D) ≤ a * b ∧ a * b ≤ C * D := by
  have e : (a * b).natAbs ≤ C.natAbs * D.natAbs := by
    rw [Int.natAbs_mul]
    exact Nat.mul_le_mul (by omega) (by omega)
  have f : C * D = ((C.natAbs * D.natAbs : Nat) : Int) := by
    rw [Int.natCast_mul, Int.natAbs_of_nonneg (by omega), Int.natAbs_of_nonneg (by omega)]
  rw [f]
  omega
theorem mul_i64 {a b : Int} (ha : I64 a) (hb : I64 b) : -85070591730234615865843651857942052864 ≤ a * b ∧ a * b ≤ 85070591730234615865843651857942052864 := by
  have := mul_bd (C := 9223372036854775808) (D := 9223372036854775808) (a := a) (b := b) (by have := ha.1; omega) (by have := ha.2; omega) (by have := hb.1; omega) (by have := hb.2; omega)
  omega

theorem mul {a b : Int} (ha : I64 a) (hb : I64 b) : wide_Mul.f a b = some (a * b / 18446744073709551616, a * b % 18446744073709551616) := by
  have hm := mul_i64 ha hb
  obtain ⟨a0, a1⟩ := ha
  obtain ⟨b0, b1⟩ := hb
  unfold wide_Mul.f
  rw [wu a, wu b, mul64 (by omega) (by omega) (by omega) (by omega)]
  simp only [Option.bind_some]
  by_cases ca : a < 0
  · rw [show a / 9223372036854775808 = -1 by omega, and_ones ⟨b0, b1⟩, show a % 18446744073709551616 = a + 18446744073709551616 by omega]
    by_cases cb : b < 0
    · rw [show b / 9223372036854775808 = -1 by omega, and_ones ⟨a0, a1⟩, show b % 18446744073709551616 = b + 18446744073709551616 by omega]
      have e : (a + 18446744073709551616) * (b + 18446744073709551616) = a * b + a * 18446744073709551616 + b * 18446744073709551616 + 18446744073709551616 * 18446744073709551616 := by grind
      rw [e]
      unfold wrap64
      generalize a * b = m at *
      congr 2 <;> omega
    · rw [show b / 9223372036854775808 = 0 by omega, and_none, show b % 18446744073709551616 = b by omega]
      have e : (a + 18446744073709551616) * b = a * b + b * 18446744073709551616 := by grind
      rw [e]
      unfold wrap64
      generalize a * b = m at *
      congr 2 <;> omega
  · rw [show a / 9223372036854775808 = 0 by omega, and_none, show a % 18446744073709551616 = a by omega]
    by_cases cb : b < 0
    · rw [show b / 9223372036854775808 = -1 by omega, and_ones ⟨a0, a1⟩, show b % 18446744073709551616 = b + 18446744073709551616 by omega]
      have e : a * (b + 18446744073709551616) = a * b + a * 18446744073709551616 := by grind
      rw [e]
      unfold wrap64
      generalize a * b = m at *
      congr 2 <;> omega
    · rw [show b / 9223372036854775808 = 0 by omega, and_none, show b % 18446744073709551616 = b by omega]
      unfold wrap64
      generalize a * b = m at *
      congr 2 <;> omega

theorem turned {hi lo : Int} (h : I64 hi) (l : U64 lo) : ∃ h' l', wide_turned.f hi lo = some (h', l') ∧ I64 h' ∧ U64 l' ∧
    (h' % 18446744073709551616) * 18446744073709551616 + l' = (-(hi * 18446744073709551616 + lo)) % 340282366920938463463374607431768211456 := by
  obtain ⟨h0, h1⟩ := h
  obtain ⟨l0, l1⟩ := l
  unfold wide_turned.f
  rw [if_pos l0, if_pos l1]
  refine ⟨_, _, rfl, ?_, ?_, ?_⟩
  · unfold wrap64
    omega
  · unfold XWalk.d64
    omega
  · unfold wrap64 XWalk.b64 XWalk.d64
    split <;> omega

/-- A quotient, or the error. -/
def mdiv (A b way : Int) : Int × Int :=
  if way < 0 ∨ way ≥ 2 then (0, 2) else if b = 0 then (0, 4) else if -9223372036854775808 ≤ rnd A b way ∧ rnd A b way ≤ 9223372036854775807 then (rnd A b way, 0) else (0, 3)

/-- what is told of a quotient without its sign -/
def toldQ (Q : Int) (less : Bool) : Int × Int := if less = true then (if Q ≤ 9223372036854775808 then (-Q, 0) else (0, 3)) else (if Q < 9223372036854775808 then (Q, 0) else (0, 3))

theorem j3_told {h l rest by_ : Int} {less : Bool} (h0 : 0 ≤ h) (l0 : 0 ≤ l) (l1 : l < 18446744073709551616) (k : Nat) : wide_Div.j3 (k + 2) h l rest by_ less = some (toldQ (h * 18446744073709551616 + l) less) := by
  simp only [wide_Div.j3]
  unfold toldQ
  by_cases c : h > 0
  · rw [if_pos c, if_neg (c := h * 18446744073709551616 + l ≤ _) (by omega), if_neg (c := h * 18446744073709551616 + l < _) (by omega)]
    simp
  · rw [if_neg c, show h * 18446744073709551616 + l = l by omega]
    cases less
    · simp only [wide_Div.j4, Bool.false_eq_true, if_false]
      split
      · rw [w64 (by omega) (by omega)]
      · rfl
    · simp only [wide_Div.j4, if_true]
      by_cases d : l ≤ 9223372036854775808
      · rw [decide_eq_true d, if_pos d]
        simp only [if_true]
        congr 2
        rw [wu]
        unfold wrap64
        omega
      · rw [decide_eq_false d, if_neg d]
        simp

theorem j5_told {h l rest by_ : Int} {less : Bool} (h0 : 0 ≤ h) (l0 : 0 ≤ l) (l1 : l < 18446744073709551616) (k : Nat) : wide_Div.j5 (k + 2) h l rest by_ less = some (toldQ (h * 18446744073709551616 + l) less) := by
  simp only [wide_Div.j5]
  unfold toldQ
  by_cases c : h > 0
  · rw [if_pos c, if_neg (c := h * 18446744073709551616 + l ≤ _) (by omega), if_neg (c := h * 18446744073709551616 + l < _) (by omega)]
    simp
  · rw [if_neg c, show h * 18446744073709551616 + l = l by omega]
    cases less
    · simp only [wide_Div.j6, Bool.false_eq_true, if_false]
      split
      · rw [w64 (by omega) (by omega)]
      · rfl
    · simp only [wide_Div.j6, if_true]
      by_cases d : l ≤ 9223372036854775808
      · rw [decide_eq_true d, if_pos d]
        simp only [if_true]
        congr 2
        rw [wu]
        unfold wrap64
        omega
      · rw [decide_eq_false d, if_neg d]
        simp

theorem near_told {q0 lo rest y : Int} {less : Bool} (r0 : 0 ≤ rest) (r1 : rest < y) (y1 : y < 18446744073709551616) (l0 : 0 ≤ lo) (l1 : lo < 18446744073709551616) :
    wide_quotient_near.f q0 lo rest y less = some (decide (2 * rest > y ∨ 2 * rest = y ∧ lo % 2 = 1)) := by
  unfold wide_quotient_near.f
  by_cases c : rest / 9223372036854775808 = 1
  · rw [if_pos c, decide_eq_true (by omega)]
  · rw [if_neg c, wu_id (n := rest * 2) (by omega) (by omega), and1 l0 l1]
    by_cases d : rest * 2 > y
    · rw [if_pos d, decide_eq_true (by omega)]
    · rw [if_neg d]
      by_cases e : rest * 2 = y
      · rw [if_pos e]
        congr 1
        rw [Bool.eq_iff_iff, beq_iff_eq, decide_eq_true_iff]
        omega
      · rw [if_neg e, decide_eq_false (by omega)]

/-- what is told of the sizes, by the law of sizes and signs -/
theorem told_rnd {A b way X y : Int} (hw : way = 0 ∨ way = 1) (hb : b ≠ 0) (hX : X = if A < 0 then -A else A) (hy : y = if b < 0 then -b else b) :
    toldQ (X / y + if upf way X y (decide (A < 0) != decide (b < 0)) = true then 1 else 0) (decide (A < 0) != decide (b < 0)) = mdiv A b way := by
  have this := rnd_sizes hw hb hX hy
  have hy0 : 0 < y := by subst hy; split <;> omega
  have hX0 : 0 ≤ X := by subst hX; split <;> omega
  have q0 : 0 ≤ X / y := Int.ediv_nonneg hX0 (by omega)
  unfold mdiv
  rw [if_neg (c := way < 0 ∨ way ≥ 2) (by omega), if_neg hb, this]
  generalize upf way X y (decide (A < 0) != decide (b < 0)) = up
  generalize (decide (A < 0) != decide (b < 0)) = less
  have p0 : 0 ≤ X / y + if up = true then (1 : Int) else 0 := by
    split <;> omega
  generalize (X / y + if up = true then (1 : Int) else 0) = Q at *
  unfold toldQ
  cases less
  · simp only [Bool.false_eq_true, if_false]
    by_cases c : Q < 9223372036854775808
    · rw [if_pos c, if_pos (by omega)]
    · rw [if_neg c, if_neg (by omega)]
  · simp only [if_true]
    by_cases c : Q ≤ 9223372036854775808
    · rw [if_pos c, if_pos (by omega)]
    · rw [if_neg c, if_neg (by omega)]

/-- the sum of a word and 1, with what goes over -/
theorem up_one {qh ql : Int} (h0 : 0 ≤ qh) (h1 : qh ≤ 9223372036854775808) (l0 : 0 ≤ ql) (l1 : ql < 18446744073709551616) :
    IntKind.u64.wrap (qh + XWalk.c64 ql 1 0) * 18446744073709551616 + XWalk.s64 ql 1 0 = qh * 18446744073709551616 + ql + 1 ∧ 0 ≤ IntKind.u64.wrap (qh + XWalk.c64 ql 1 0) ∧ 0 ≤ XWalk.s64 ql 1 0 ∧ XWalk.s64 ql 1 0 < 18446744073709551616 := by
  rw [wu]
  unfold XWalk.c64 XWalk.s64
  refine ⟨by omega, by omega, by omega, by omega⟩

theorem div {hi lo b way : Int} (h : I64 hi) (l : U64 lo) (hb : I64 b) {k : Nat} (hk : 30 ≤ k) : wide_Div.f k hi lo b way = some (mdiv (hi * 18446744073709551616 + lo) b way) := by
  obtain ⟨k, rfl⟩ : ∃ m, k = m + 30 := ⟨k - 30, by omega⟩
  unfold wide_Div.f
  by_cases c : way < 0 ∨ way ≥ 2
  · have e : mdiv (hi * 18446744073709551616 + lo) b way = (0, 2) := by unfold mdiv; rw [if_pos c]
    rw [e]
    by_cases c1 : way < 0
    · rw [if_pos c1]
      simp only [wide_Div.j0, if_true]
    · rw [if_neg c1, decide_eq_true (by omega)]
      simp only [wide_Div.j0, if_true]
  rw [if_neg (by omega), decide_eq_false (by omega)]
  simp only [wide_Div.j0, Bool.false_eq_true, if_false]
  by_cases cb : b = 0
  · rw [if_pos cb]
    unfold mdiv
    rw [if_neg c, if_pos cb]
  rw [if_neg cb]
  have hw : way = 0 ∨ way = 1 := by omega
  obtain ⟨h0, h1⟩ := h
  obtain ⟨l0, l1⟩ := l
  obtain ⟨b0, b1⟩ := hb
  have main : ∀ xh xl : Int, U64 xl → I64 xh → (xh % 18446744073709551616) * 18446744073709551616 + xl = (if hi * 18446744073709551616 + lo < 0 then -(hi * 18446744073709551616 + lo) else hi * 18446744073709551616 + lo) →
      wide_Div.j1 (k + 29) b way (IntKind.u64.wrap b) hi lo xh xl = some (mdiv (hi * 18446744073709551616 + lo) b way) := by
    intro xh xl ⟨xl0, xl1⟩ ⟨xh0, xh1⟩ hX
    have j2 : ∀ y : Int, y = (if b < 0 then -b else b) → wide_Div.j2 (k + 28) b way y hi lo xh xl = some (mdiv (hi * 18446744073709551616 + lo) b way) := by
      intro y hy
      have hy0 : 0 < y := by subst hy; split <;> omega
      have hy1 : y ≤ 9223372036854775808 := by subst hy; split <;> omega
      simp only [wide_Div.j2]
      rw [if_neg (by omega), wu xh, td_nn (by omega), tm_nn (by omega)]
      have x0 : 0 ≤ xh % 18446744073709551616 := by omega
      have x1 : xh % 18446744073709551616 ≤ 9223372036854775808 := by
        split at hX <;> omega
      generalize xh % 18446744073709551616 = X1 at *
      have a := Int.mul_ediv_add_emod X1 y
      have a0 := Int.emod_nonneg X1 (show y ≠ 0 by omega)
      have a1 := Int.emod_lt_of_pos X1 hy0
      have q0 : 0 ≤ X1 / y := Int.ediv_nonneg x0 (by omega)
      have q1 : X1 / y ≤ X1 := Int.ediv_le_self _ x0
      rw [div64 a0 a1 xl0 xl1 (by omega) (by omega)]
      simp only [Option.bind_some]
      generalize X1 / y = qh at *
      generalize X1 % y = rest at *
      have m := Int.mul_ediv_add_emod (rest * 18446744073709551616 + xl) y
      have m0 := Int.emod_nonneg (rest * 18446744073709551616 + xl) (show y ≠ 0 by omega)
      have m1 := Int.emod_lt_of_pos (rest * 18446744073709551616 + xl) hy0
      have p0 : 0 ≤ (rest * 18446744073709551616 + xl) / y := Int.ediv_nonneg (by omega) (by omega)
      have p1 : (rest * 18446744073709551616 + xl) / y < 18446744073709551616 := by
        rw [Int.ediv_lt_iff_lt_mul hy0, Int.mul_comm]
        omega
      generalize (rest * 18446744073709551616 + xl) / y = ql at *
      generalize (rest * 18446744073709551616 + xl) % y = rr at *
      have whole := Knuth.quot_uniq (A := X1 * 18446744073709551616 + xl) (b := y) (q := qh * 18446744073709551616 + ql) (r := rr) hy0 (by
        rw [Int.mul_add, ← Int.mul_assoc]
        generalize y * qh = u at *
        generalize y * ql = v at *
        omega) m0 m1
      have T := told_rnd (A := hi * 18446744073709551616 + lo) (b := b) (way := way) (X := X1 * 18446744073709551616 + xl) (y := y) hw cb hX hy
      unfold upf at T
      rw [whole.1, whole.2] at T
      have s : (!(decide (hi < 0) == decide (b < 0))) = (decide (hi * 18446744073709551616 + lo < 0) != decide (b < 0)) := by
        rw [show decide (hi < 0) = decide (hi * 18446744073709551616 + lo < 0) from decide_eq_decide.2 (by omega)]
        rfl
      rw [s, ← T]
      generalize (decide (hi * 18446744073709551616 + lo < 0) != decide (b < 0)) = less
      obtain ⟨u1, u2, u3, u4⟩ := up_one (qh := qh) (ql := ql) q0 (by omega) p0 p1
      rcases hw with rfl | rfl
      · simp only [if_true]
        have F : wide_quotient_floor.f (IntKind.u64.wrap qh) ql rr y less = some (less && decide (rr > 0)) := by
          unfold wide_quotient_floor.f
          cases less <;> simp
        rw [F]
        simp only [Option.bind_some]
        rw [wu_id (n := qh) q0 (by omega)]
        by_cases d : (less && decide (rr > 0)) = true
        · rw [if_pos d, if_pos d, if_pos p0]
          rw [j3_told u2 u3 u4, u1]
          first | done | rfl
        · rw [if_neg d, if_neg d]
          rw [j3_told q0 p0 p1]
          simp
      · simp only [show ((1 : Int) = 0) = False by simp, if_false, if_true]
        rw [near_told m0 m1 (by omega) p0 p1]
        simp only [Option.bind_some]
        rw [wu_id (n := qh) q0 (by omega)]
        have par : (qh * 18446744073709551616 + ql) % 2 = ql % 2 := by omega
        rw [par]
        by_cases d : (decide (2 * rr > y ∨ 2 * rr = y ∧ ql % 2 = 1)) = true
        · rw [if_pos d, if_pos d, if_pos p0]
          rw [j5_told u2 u3 u4, u1]
          first | done | rfl
        · rw [if_neg d, if_neg d]
          rw [j5_told q0 p0 p1]
          simp
    simp only [wide_Div.j1]
    by_cases d : b < 0
    · rw [if_pos d]
      refine j2 _ ?_
      rw [wu, wu, if_pos d]
      omega
    · rw [if_neg d]
      refine j2 _ ?_
      rw [wu, if_neg d]
      omega
  by_cases d : hi < 0
  · rw [if_pos d]
    obtain ⟨h', l', e, i1, i2, i3⟩ := turned ⟨h0, h1⟩ ⟨l0, l1⟩
    rw [e]
    simp only [Option.bind_some]
    refine main h' l' i2 i1 ?_
    rw [i3, if_pos (by omega)]
    omega
  · rw [if_neg d]
    refine main hi lo ⟨l0, l1⟩ ⟨h0, h1⟩ ?_
    rw [if_neg (by omega)]
    omega

theorem mulDiv {a b c way : Int} (ha : I64 a) (hb : I64 b) (hc : I64 c) {k : Nat} (hk : 30 ≤ k) : wide_MulDiv.f k a b c way = some (mdiv (a * b) c way) := by
  unfold wide_MulDiv.f
  rw [mul ha hb]
  have hm := mul_i64 ha hb
  simp only [Option.bind_some]
  rw [div ⟨by omega, by omega⟩ ⟨by omega, by omega⟩ hc hk]
  simp only [Option.bind_some]
  rw [show a * b / 18446744073709551616 * 18446744073709551616 + a * b % 18446744073709551616 = a * b by omega]
end Go.Proofs.Ytohbdjfabghagaa.XWide
end

section
namespace Go.Proofs.Ytohbdjfabghagaa.WideAlive
set_option linter.unusedVariables false
set_option linter.unusedSimpArgs false
open Go.RowKit Go.Proofs.Ytohbdjfabghagaa.S Go.Proofs.Ytohbdjfabghagaa.XNum Go.Proofs.Ytohbdjfabghagaa.XBits Go.Proofs.Ytohbdjfabghagaa.XWide Go.Proofs.Ytohbdjfabghagaa.Rnd Go.Proofs.YtohbdjfabghagaaW.PrintWords

theorem alive {k : Nat} (hk : 30 ≤ k) : lombardlaw02_alive.f k = some true := by
  unfold lombardlaw02_alive.f
  rw [mulDiv (by constructor <;> omega) (by constructor <;> omega) (by constructor <;> omega) hk, mulDiv (by constructor <;> omega) (by constructor <;> omega) (by constructor <;> omega) hk, mulDiv (by constructor <;> omega) (by constructor <;> omega) (by constructor <;> omega) hk,
    mulDiv (by constructor <;> omega) (by constructor <;> omega) (by constructor <;> omega) hk, mulDiv (by constructor <;> omega) (by constructor <;> omega) (by constructor <;> omega) hk]
  decide

end Go.Proofs.Ytohbdjfabghagaa.WideAlive
end

section
namespace Go.Proofs.Ytohbdjfabghagaa.XNeg
set_option linter.unusedVariables false
set_option linter.unusedSimpArgs false
open Go.RowKit Go.Proofs.Ytohbdjfabghagaa.S Go.Proofs.Ytohbdjfabghagaa.XNum Go.Proofs.Ytohbdjfabghagaa.XBits Go.Proofs.Ytohbdjfabghagaa.XWide Go.Proofs.YtohbdjfabghagaaW.PrintWords

theorem of {n : Int} (h : I64 n) : wide_Of.f n = some (n / 18446744073709551616, n % 18446744073709551616) := by
  obtain ⟨h0, h1⟩ := h
  unfold wide_Of.f
  rw [wu]
  congr 2
  omega

/-- a wide number, or that it is too great -/
def toldW (n : Int) : Int × Int × Int := if -170141183460469231731687303715884105728 ≤ n ∧ n ≤ 170141183460469231731687303715884105727 then (n / 18446744073709551616, n % 18446744073709551616, 0) else (0, 0, 3)
theorem neg {hi lo : Int} (h : I64 hi) (l : U64 lo) : wide_Neg.f hi lo = some (toldW (-(hi * 18446744073709551616 + lo))) := by
  obtain ⟨h', l', e, i1, i2, i3⟩ := turned h l
  unfold wide_Neg.f
  rw [e]
  simp only [Option.bind_some]
  obtain ⟨h0, h1⟩ := h
  obtain ⟨l0, l1⟩ := l
  obtain ⟨p0, p1⟩ := i1
  obtain ⟨q0, q1⟩ := i2
  unfold toldW
  by_cases c : hi < 0
  · rw [if_pos c]
    by_cases d : h' < 0
    · rw [if_pos d, if_neg (by omega)]
    · rw [if_neg d, if_pos (by omega)]
      congr 2
      · omega
      · congr 1
        omega
  · rw [if_neg c, if_pos (by omega)]
    congr 2
    · omega
    · congr 1
      omega
theorem add {h1 l1 h2 l2 : Int} (a : I64 h1) (b : U64 l1) (c : I64 h2) (d : U64 l2) : wide_Add.f h1 l1 h2 l2 = some (toldW (h1 * 18446744073709551616 + l1 + (h2 * 18446744073709551616 + l2))) := by
  obtain ⟨a0, a1⟩ := a
  obtain ⟨b0, b1⟩ := b
  obtain ⟨c0, c1⟩ := c
  obtain ⟨d0, d1⟩ := d
  unfold wide_Add.f
  rw [if_pos b0, if_pos d0]
  have ec : XWalk.c64 l1 l2 0 * 18446744073709551616 + XWalk.s64 l1 l2 0 = l1 + l2 := by unfold XWalk.c64 XWalk.s64; omega
  have e0 : 0 ≤ XWalk.c64 l1 l2 0 ∧ XWalk.c64 l1 l2 0 ≤ 1 := by unfold XWalk.c64; omega
  have e1 : 0 ≤ XWalk.s64 l1 l2 0 ∧ XWalk.s64 l1 l2 0 < 18446744073709551616 := by unfold XWalk.s64; omega
  generalize XWalk.c64 l1 l2 0 = cc at *
  generalize XWalk.s64 l1 l2 0 = ss at *
  rw [w64 (n := cc) (by omega) (by omega)]
  have W : wrap64 (wrap64 (h1 + h2) + cc) = wrap64 (h1 + h2 + cc) := by unfold wrap64; omega
  rw [W]
  unfold toldW
  by_cases x : h1 < 0
  · rw [decide_eq_true x]
    by_cases y : h2 < 0
    · rw [decide_eq_true y]
      simp only [beq_self_eq_true, if_true]
      by_cases z : h1 + h2 + cc < -9223372036854775808
      · rw [decide_eq_false (by unfold wrap64; omega), if_neg (c := _ ∧ _) (by omega)]
        simp
      · rw [w64 (n := h1 + h2 + cc) (by omega) (by omega), decide_eq_true (by omega), if_pos (c := _ ∧ _) (by omega)]
        simp
        constructor <;> omega
    · rw [decide_eq_false y]
      simp only [beq_false, Bool.not_true, Bool.false_eq_true, if_false]
      rw [w64 (n := h1 + h2 + cc) (by omega) (by omega), if_pos (c := _ ∧ _) (by omega)]
      simp
      constructor <;> omega
  · rw [decide_eq_false x]
    by_cases y : h2 < 0
    · rw [decide_eq_true y]
      simp only [beq_true, Bool.false_eq_true, if_false]
      rw [w64 (n := h1 + h2 + cc) (by omega) (by omega), if_pos (c := _ ∧ _) (by omega)]
      simp
      constructor <;> omega
    · rw [decide_eq_false y]
      simp only [beq_self_eq_true, if_true]
      by_cases z : h1 + h2 + cc > 9223372036854775807
      · rw [decide_eq_true (by unfold wrap64; omega), if_neg (c := _ ∧ _) (by omega)]
        simp
      · rw [w64 (n := h1 + h2 + cc) (by omega) (by omega), decide_eq_false (by omega), if_pos (c := _ ∧ _) (by omega)]
        simp
        constructor <;> omega

/-- how two numbers stand -/
def ord (a b : Int) : Int := if a < b then -1 else if a > b then 1 else 0
theorem cmpi (a b : Int) : cmp_Compare_int64.f a b = some (ord a b) := by
  unfold cmp_Compare_int64.f cmp_isNaN_int64.f ord
  simp
  split
  · rfl
  · split <;> rfl
theorem cmpu (a b : Int) : cmp_Compare_uint64.f a b = some (ord a b) := by
  unfold cmp_Compare_uint64.f cmp_isNaN_uint64.f ord
  simp
  split
  · rfl
  · split <;> rfl
theorem or2 (x y : Int) {k : Nat} (hk : 3 ≤ k) : cmp_Or_int.f k [x, y] = some (if x = 0 then y else x) := by
  obtain ⟨k, rfl⟩ : ∃ m, k = m + 3 := ⟨k - 3, by omega⟩
  unfold cmp_Or_int.f
  simp only [cmp_Or_int.l0]
  rw [if_pos (by simp), if_pos (by simp), if_pos (by simp)]
  by_cases c : x = 0
  · rw [if_pos (by simp [rd, c]), if_pos c]
    rw [show wrap64 (0 + 1) = 1 by unfold wrap64; omega, if_pos (by simp), if_pos (by simp), if_pos (by simp)]
    by_cases d : y = 0
    · rw [if_pos (by simp [rd, d]), show wrap64 (1 + 1) = 2 by unfold wrap64; omega, if_neg (by simp), d]
    · rw [if_neg (by simp [rd, d])]
      simp [rd]
  · rw [if_neg (by simp [rd, c]), if_neg c]
    simp [rd]
theorem compare {h1 l1 h2 l2 : Int} (b : U64 l1) (d : U64 l2) {k : Nat} (hk : 3 ≤ k) : wide_Compare.f k h1 l1 h2 l2 = some (ord (h1 * 18446744073709551616 + l1) (h2 * 18446744073709551616 + l2)) := by
  obtain ⟨b0, b1⟩ := b
  obtain ⟨d0, d1⟩ := d
  unfold wide_Compare.f
  rw [cmpi, cmpu]
  simp only [Option.bind_some]
  rw [or2 _ _ hk]
  simp only [Option.bind_some]
  congr 1
  unfold ord
  by_cases x : h1 < h2
  · rw [if_pos x, if_neg (by omega), if_pos (by omega)]
  · rw [if_neg x]
    by_cases y : h1 > h2
    · rw [if_pos y, if_neg (by omega), if_neg (by omega), if_pos (by omega)]
    · rw [if_neg y, if_pos rfl]
      have : h1 = h2 := by omega
      subst this
      by_cases z : l1 < l2
      · rw [if_pos z, if_pos (by omega)]
      · rw [if_neg z, if_neg (c := h1 * _ + l1 < _) (by omega)]
        by_cases w : l1 > l2
        · rw [if_pos w, if_pos (by omega)]
        · rw [if_neg w, if_neg (by omega)]
end Go.Proofs.Ytohbdjfabghagaa.XNeg
end

section
namespace Go.Proofs.Ytohbdjfabghagaa.XRefWide
set_option linter.unusedVariables false
set_option linter.unusedSimpArgs false
open Go.RowKit Go.Proofs.Ytohbdjfabghagaa.S Go.Proofs.Ytohbdjfabghagaa.XNum Go.Proofs.Ytohbdjfabghagaa.XWide Go.Proofs.Ytohbdjfabghagaa.XNeg Go.Proofs.YtohbdjfabghagaaW.PrintWords

/-- the number that has this sign and size -/
def sv (l : Bool) (N : Nat) : Int := if l = true then -(N : Int) else N
theorem sv_abs {hi lo : Int} (h : I64 hi) (l : U64 lo) : sv (B.less hi) (B.abs hi lo) = hi * 18446744073709551616 + lo := by
  have e : (2 : Nat) ^ 128 = 340282366920938463463374607431768211456 := by decide
  obtain ⟨h0, h1⟩ := h
  obtain ⟨l0, l1⟩ := l
  unfold sv B.less B.abs B.two
  rw [e]
  by_cases c : hi < 0
  · rw [decide_eq_true c, if_pos rfl, if_pos c]
    omega
  · rw [decide_eq_false c, if_neg (by simp), if_neg c]
    omega
theorem abs_lt {hi lo : Int} (h : I64 hi) (l : U64 lo) : B.abs hi lo < 2 ^ 128 := B.abs_lt h.1 h.2 l.1 l.2
theorem sv_sum {la lb : Bool} {X Y m n : Nat} (hm : m = 128) (hn : n = 260) (hX : X < 2 ^ m) (hY : Y < 2 ^ m) : sv (lombardref02_sum.v la lb X Y).1 (lombardref02_sum.v la lb X Y).2 = sv la X + sv lb Y := by
  have hs : (X + Y) % 2 ^ n = X + Y := by
    refine Nat.mod_eq_of_lt ?_
    have h1 : 2 ^ m + 2 ^ m = 2 ^ (m + 1) := by rw [Nat.pow_succ]; omega
    have h2 : 2 ^ (m + 1) ≤ 2 ^ n := Nat.pow_le_pow_right (by decide) (by omega)
    omega
  unfold lombardref02_sum.v
  rw [← hn, hs]
  clear hs hX hY hm hn
  by_cases c : la = lb
  · subst c
    rw [if_pos rfl]
    unfold sv
    cases la <;> simp
    omega
  · rw [if_neg c]
    unfold sv
    by_cases d : Y ≤ X
    · rw [if_pos d]
      cases la <;> cases lb <;> simp at c ⊢ <;> omega
    · rw [if_neg d]
      cases la <;> cases lb <;> simp at c ⊢ <;> omega
theorem told {l : Bool} {N : Nat} : (lombardref02_back.hi l N, lombardref02_back.lo l N, if lombardref02_back.bad l N = true then (3 : Int) else 0) = toldW (sv l N) := by
  have e1 : (2 : Nat) ^ 127 = 170141183460469231731687303715884105728 := by decide
  have e2 : (2 : Nat) ^ 128 = 340282366920938463463374607431768211456 := by decide
  have e3 : (2 : Nat) ^ 64 = 18446744073709551616 := by decide
  unfold lombardref02_back.hi lombardref02_back.lo toldW
  by_cases b : lombardref02_back.bad l N = true
  · rw [if_pos b, if_pos b, if_pos b]
    unfold lombardref02_back.bad at b
    rw [e1] at b
    have b := of_decide_eq_true b
    unfold sv
    rw [if_neg]
    cases l
    · rw [if_neg (by simp)]
      rcases b with b | ⟨b, _⟩ <;> omega
    · rw [if_pos rfl]
      rcases b with b | ⟨_, b⟩
      · omega
      · exact absurd b (by simp)
  · rw [if_neg b, if_neg b, if_neg b]
    unfold lombardref02_back.bad at b
    rw [e1] at b
    have b : ¬(170141183460469231731687303715884105728 < N ∨ N = 170141183460469231731687303715884105728 ∧ l = false) := fun h => b (decide_eq_true h)
    unfold sv lombardref02_back.M
    rw [e2, e3, IntKind.wrap_i64]
    cases l
    · have b1 : N < 170141183460469231731687303715884105728 := by
        rcases Nat.lt_trichotomy N 170141183460469231731687303715884105728 with h | h | h
        · exact h
        · exact absurd (Or.inr ⟨h, rfl⟩) b
        · exact absurd (Or.inl h) b
      simp only [Bool.false_eq_true, if_false]
      rw [if_pos (by omega)]
      refine Prod.ext ?_ (Prod.ext ?_ rfl)
      · show _ = (N : Int) / 18446744073709551616
        omega
      · show ((N % 18446744073709551616 : Nat) : Int) = (N : Int) % 18446744073709551616
        omega
    · have b1 : N ≤ 170141183460469231731687303715884105728 := by
        rcases Nat.lt_or_ge 170141183460469231731687303715884105728 N with h | h
        · exact absurd (Or.inl h) b
        · exact h
      simp only [if_true]
      rw [if_pos (by omega)]
      refine Prod.ext ?_ (Prod.ext ?_ rfl)
      · show _ = -(N : Int) / 18446744073709551616
        omega
      · show (((340282366920938463463374607431768211456 - N) % 340282366920938463463374607431768211456 % 18446744073709551616 : Nat) : Int) = -(N : Int) % 18446744073709551616
        omega
theorem add {h1 l1 h2 l2 : Int} (a : I64 h1) (b : U64 l1) (c : I64 h2) (d : U64 l2) : lombardref02_Add.f h1 l1 h2 l2 = some (toldW (h1 * 18446744073709551616 + l1 + (h2 * 18446744073709551616 + l2))) := by
  unfold lombardref02_Add.f
  rw [if_pos ⟨a.1, a.2, b.1, b.2, c.1, c.2, d.1, d.2⟩, told]
  unfold lombardref02_Add.S
  rw [sv_sum rfl rfl (abs_lt a b) (abs_lt c d), sv_abs a b, sv_abs c d]
theorem neg {hi lo : Int} (h : I64 hi) (l : U64 lo) : lombardref02_Neg.f hi lo = some (toldW (-(hi * 18446744073709551616 + lo))) := by
  unfold lombardref02_Neg.f
  rw [if_pos ⟨h.1, h.2, l.1, l.2⟩, told]
  congr 2
  rw [← sv_abs h l]
  unfold lombardref02_Neg.l
  generalize B.less hi = s
  generalize B.abs hi lo = N
  unfold sv
  cases s
  · by_cases c : N = 0
    · subst c
      rfl
    · rw [decide_eq_false c]
      simp
  · simp
theorem compare {h1 l1 h2 l2 : Int} (a : I64 h1) (b : U64 l1) (c : I64 h2) (d : U64 l2) : lombardref02_Compare.f h1 l1 h2 l2 = some (ord (h1 * 18446744073709551616 + l1) (h2 * 18446744073709551616 + l2)) := by
  unfold lombardref02_Compare.f
  rw [if_pos ⟨a.1, a.2, b.1, b.2, c.1, c.2, d.1, d.2⟩]
  unfold lombardref02_Compare.S
  have s := sv_sum (la := B.less h1) (lb := !B.less h2) rfl rfl (abs_lt a b) (abs_lt c d)
  have n : sv (!B.less h2) (B.abs h2 l2) = -sv (B.less h2) (B.abs h2 l2) := by
    unfold sv
    cases B.less h2 <;> simp
  rw [n, sv_abs a b, sv_abs c d] at s
  generalize lombardref02_sum.v (B.less h1) (!B.less h2) (B.abs h1 l1) (B.abs h2 l2) = v at *
  obtain ⟨x, N⟩ := v
  generalize h1 * 18446744073709551616 + l1 = p at *
  generalize h2 * 18446744073709551616 + l2 = q at *
  clear n a b c d
  unfold sv at s
  unfold ord
  congr 1
  by_cases z : N = 0
  · rw [if_pos (decide_eq_true z)]
    subst z
    cases x <;> simp at s
    · rw [if_neg (by omega), if_neg (by omega)]
    · rw [if_neg (by omega), if_neg (by omega)]
  · rw [if_neg (by simpa using z)]
    cases x
    · rw [if_neg (by simp)] at s
      rw [if_neg (by simp), if_neg (by omega), if_pos (by omega)]
    · rw [if_pos rfl] at s
      rw [if_pos rfl, if_pos (by omega)]
theorem mul {a b : Int} (ha : I64 a) (hb : I64 b) : lombardref02_Mul.f a b = some (a * b / 18446744073709551616, a * b % 18446744073709551616) := by
  unfold lombardref02_Mul.f
  rw [if_pos ⟨ha.1, ha.2, hb.1, hb.2⟩]
  have t := told (l := (decide (a < 0) != decide (b < 0))) (N := a.natAbs * b.natAbs)
  have m : sv (decide (a < 0) != decide (b < 0)) (a.natAbs * b.natAbs) = a * b := by
    unfold sv
    push_cast
    by_cases x : a < 0 <;> by_cases y : b < 0
    · rw [decide_eq_true x, decide_eq_true y, if_neg (by simp), show ((a.natAbs : Nat) : Int) = -a by omega, show ((b.natAbs : Nat) : Int) = -b by omega, Int.neg_mul_neg]
    · rw [decide_eq_true x, decide_eq_false y, if_pos (by simp), show ((a.natAbs : Nat) : Int) = -a by omega, show ((b.natAbs : Nat) : Int) = b by omega, Int.neg_mul, Int.neg_neg]
    · rw [decide_eq_false x, decide_eq_true y, if_pos (by simp), show ((a.natAbs : Nat) : Int) = a by omega, show ((b.natAbs : Nat) : Int) = -b by omega, Int.mul_neg, Int.neg_neg]
    · rw [decide_eq_false x, decide_eq_false y, if_neg (by simp), show ((a.natAbs : Nat) : Int) = a by omega, show ((b.natAbs : Nat) : Int) = b by omega]
  rw [m] at t
  have bd := mul_i64 ha hb
  have e : toldW (a * b) = (a * b / 18446744073709551616, a * b % 18446744073709551616, 0) := by
    unfold toldW
    rw [if_pos (by omega)]
  rw [e] at t
  have t1 := congrArg Prod.fst t
  have t2 := congrArg (fun z => z.2.1) t
  simp only at t1 t2
  rw [t1, t2]
theorem of {n : Int} (h : I64 n) : lombardref02_Of.f n = some (n / 18446744073709551616, n % 18446744073709551616) := by
  obtain ⟨h0, h1⟩ := h
  unfold lombardref02_Of.f
  by_cases c : n < 0
  · rw [if_pos c, IntKind.wrap_u64, show n / 18446744073709551616 = -1 by omega]
  · rw [if_neg c, IntKind.wrap_u64, show n / 18446744073709551616 = 0 by omega]
end Go.Proofs.Ytohbdjfabghagaa.XRefWide
end

section
namespace Go.Proofs.Ytohbdjfabghagaa.Pure
set_option linter.unusedVariables false
set_option linter.unusedSimpArgs false
open Go.RowKit Go.Proofs.Ytohbdjfabghagaa.S Go.Proofs.Ytohbdjfabghagaa.XNum Go.Proofs.Ytohbdjfabghagaa.XWide Go.Proofs.Ytohbdjfabghagaa.Rnd Go.Proofs.Ytohbdjfabghagaa.WideAlive Go.Proofs.YtohbdjfabghagaaW.PrintWords Go.Proofs.YtohbdjfabghagaaW.PrintLast

theorem WideReckons : lombardlaw02_WideReckons.Pure := by
  intro h1 l1 h2 l2 x y a b c d hx hy
  rw [wf64] at a c hx hy
  rw [wfu64] at b d
  replace b : U64 _ := ⟨b.1, by omega⟩
  replace d : U64 _ := ⟨d.1, by omega⟩
  refine ⟨100, ?_⟩
  unfold lombardlaw02_WideReckons.f
  rw [alive (by omega), XNeg.add a b c d, XRefWide.add a b c d, XNeg.neg a b, XRefWide.neg a b, XNeg.compare b d (by omega), XRefWide.compare a b c d, XWide.mul hx hy, XRefWide.mul hx hy, XNeg.of hx, XRefWide.of hx]
  simp only [Option.bind_some, if_true, beq_self_eq_true, Bool.and_self]
end Go.Proofs.Ytohbdjfabghagaa.Pure
end

section
namespace Go.Proofs.Ytohbdjfabghagaa.XOpen
set_option linter.unusedVariables false
set_option linter.unusedSimpArgs false
open Go.ChangeShapes Go.WideShapes Go.RowKit Go.Proofs.YtohbdjfabghagaaW.PrintWords
section
variable {H : Type} {enc : TypeId × Value → H} {P : Program} {w : World} {base : Nat} {spare : Nat → Bool} {held : Bool}

/-- Whatever reads as data of type t holds a value of the kind d, and it is good. -/
def Opens {α : Type} (enc : TypeId × Value → H) (P : Program) (w : World) (base : Nat) (spare : Nat → Bool) (held : Bool) (t : TypeId) (d : Kd α) (g : α → Prop) : Prop :=
  ∀ fuel cs x, DataW.trod enc P w base spare held fuel t cs = some x → ∃ a, d.K w a cs ∧ g a

theorem opens_int {t : TypeId} {k : IntKind} (ht : P.underlying t = some (.int k)) : Opens enc P w base spare held t (Kd.int k) (fun a => (Lit.int k a).wf = true) := by
  intro fuel cs x h
  obtain ⟨n, rfl, _, hw⟩ := DataW.trod_int ht h
  exact ⟨n, rfl, hw⟩

/-- A field: its cells are those that stand at its place. -/
theorem field_of {α : Type} {t : TypeId} {fs : Array Field} {d : Kd α} {g : α → Prop} {fuel : Nat} {cs : List Value} {x : DataW H × List MemPlace} (ht : P.underlying t = some (.struct fs)) (h : DataW.trod enc P w base spare held fuel t cs = some x)
    (i : Nat) (f : Field) (hf : fs[i]? = some f) (ho : Opens enc P w base spare held f.type d g) (off sz : Nat) (h0 : f.offset = off) (h1 : P.cellsOf f.type = sz) : ∃ a, d.K w a ((cs.drop off).take sz) ∧ g a := by
  subst h0 h1
  obtain ⟨xs, n, _, _, _, hl, hat⟩ := DataW.trod_struct ht h
  have hi : i < xs.length := by
    rw [hl]
    exact (Array.getElem?_eq_some_iff.1 hf).1
  have h2 := hat i f hf
  rw [List.getElem?_eq_getElem hi] at h2
  exact ho _ _ _ h2

theorem cells_len {t : TypeId} {fs : Array Field} {fuel : Nat} {cs : List Value} {x : DataW H × List MemPlace} (ht : P.underlying t = some (.struct fs)) (h : DataW.trod enc P w base spare held fuel t cs = some x) : cs.length = P.cellsOf t := by
  obtain ⟨xs, n, _, _, hl, _⟩ := DataW.trod_struct ht h
  exact hl

theorem K_pair {α β : Type} {a : Kd α} {b : Kd β} {x : α} {y : β} {cs : List Value} (n : Nat) (h0 : a.K w x (cs.take n)) (h1 : b.K w y (cs.drop n)) : (Kd.pair a b).K w (x, y) cs :=
  ⟨cs.take n, cs.drop n, (List.take_append_drop n cs).symm, h0, h1⟩

theorem drop_drop' (cs : List Value) (m n : Nat) : (cs.drop m).drop n = cs.drop (m + n) := List.drop_drop

theorem K_pair' {α β : Type} {a : Kd α} {b : Kd β} {x : α} {y : β} {cs : List Value} (off n : Nat) (h0 : a.K w x ((cs.drop off).take n)) (h1 : b.K w y (cs.drop (off + n))) : (Kd.pair a b).K w (x, y) (cs.drop off) :=
  K_pair n h0 (by rw [drop_drop']; exact h1)

theorem K_last {α : Type} {a : Kd α} {x : α} {cs : List Value} (off n : Nat) (h0 : a.K w x ((cs.drop off).take n)) (hl : cs.length ≤ off + n) : a.K w x (cs.drop off) := by
  rw [List.take_of_length_le (by rw [List.length_drop]; omega)] at h0
  exact h0

theorem K_all {α : Type} {a : Kd α} {x : α} {cs : List Value} (h0 : a.K w x (cs.drop 0)) : a.K w x cs := h0

theorem okWide_agg {r : Reach} {t : TypeId} {fs : Array Field} {v : Value} (ht : P.underlying t = some (.struct fs)) (h : Value.okWide P w r base t v) : ∃ cs, v = .agg cs := by
  obtain ⟨cs, h, _⟩ := okWide_struct ht h
  exact ⟨cs, h⟩

theorem agg_of {cs : Array Value} {l : List Value} (h : (Value.agg cs).cells.toList = l) : cs = l.toArray := by
  subst h
  simp [Value.cells]

end
end Go.Proofs.Ytohbdjfabghagaa.XOpen
end

section
namespace Go.Proofs.Ytohbdjfabghagaa.wideReckons
open Go.ChangeShapes Go.WideShapes Go.ChangeAt Go.RowKit Go.Proofs.Ytohbdjfabghagaa.S Go.Proofs.YtohbdjfabghagaaW.PrintWords Go.Proofs.Ytohbdjfabghagaa.XOpen
open Go.ChangeMaps (open_string shut_string)
set_option linter.unusedVariables false
theorem own : ownKnob Try.prog.godebug = none := by kernel_rfl
theorem laidOut : laidOutB Try.prog = true := by kernel_rfl
theorem opens_S24 {H : Type} {enc : TypeId × Value → H} {w : World} {base : Nat} {spare : Nat → Bool} {held : Bool} : Opens enc Try.prog w base spare held 24 k24 (fun a => ((Lit.int .i64 a.f0).wf = true ∧ (Lit.int .u64 a.f1).wf = true)) := by
  intro fuel cs x h
  have hl : cs.length = 2 := (cells_len Try.underlying24 h).trans (by kernel_rfl)
  obtain ⟨a0, h0, g0⟩ := field_of Try.underlying24 h 0 _ rfl (opens_int Try.underlying2) 0 1 rfl (by kernel_rfl)
  obtain ⟨a1, h1, g1⟩ := field_of Try.underlying24 h 1 _ rfl (opens_int Try.underlying22) 1 1 rfl (by kernel_rfl)
  refine ⟨⟨a0, a1⟩, ?_, ⟨g0, g1⟩⟩
  exact K_all (K_pair' 0 1 h0 (K_last 1 1 h1 (by omega)))
theorem opens_S57 {H : Type} {enc : TypeId × Value → H} {w : World} {base : Nat} {spare : Nat → Bool} {held : Bool} : Opens enc Try.prog w base spare held 57 k57 (fun a => (((Lit.int .i64 a.f0.f0).wf = true ∧ (Lit.int .u64 a.f0.f1).wf = true) ∧ ((Lit.int .i64 a.f1.f0).wf = true ∧ (Lit.int .u64 a.f1.f1).wf = true) ∧ (Lit.int .i64 a.f2).wf = true ∧ (Lit.int .i64 a.f3).wf = true)) := by
  intro fuel cs x h
  have hl : cs.length = 6 := (cells_len Try.underlying57 h).trans (by kernel_rfl)
  obtain ⟨a0, h0, g0⟩ := field_of Try.underlying57 h 0 _ rfl opens_S24 0 2 rfl (by kernel_rfl)
  obtain ⟨a1, h1, g1⟩ := field_of Try.underlying57 h 1 _ rfl opens_S24 2 2 rfl (by kernel_rfl)
  obtain ⟨a2, h2, g2⟩ := field_of Try.underlying57 h 2 _ rfl (opens_int Try.underlying2) 4 1 rfl (by kernel_rfl)
  obtain ⟨a3, h3, g3⟩ := field_of Try.underlying57 h 3 _ rfl (opens_int Try.underlying2) 5 1 rfl (by kernel_rfl)
  refine ⟨⟨a0, a1, a2, a3⟩, ?_, ⟨g0, g1, g2, g3⟩⟩
  exact K_all (K_pair' 0 2 h0 (K_pair' 2 2 h1 (K_pair' 4 1 h2 (K_last 5 1 h3 (by omega)))))
set_option maxRecDepth 100000 in
theorem lifted (os : Os) (started : os.Started) (H : Type) (enc : TypeId × Value → H) :
    ReturnsInHanded {} Try.checked os 14 .any (Rows.wideReckonsSpec.pre6 enc Try.prog Try.f14 Rows.wideReckonsRow.domain false) (Rows.wideReckonsSpec.post enc Try.prog Try.f14 false true false false) := by
  refine returnsInHanded_of_change_sized (C := Try.checked) own started (by kernel_rfl) Try.func14
    (ChangeSpec.witness6 (enc := enc) (C := Try.checked) false ⟨#[], #[.agg #[.int .i64 0, .int .u64 0, .int .i64 0, .int .u64 0, .int .i64 0, .int .i64 0]], []⟩ 8 (by kernel_rfl) (by kernel_rfl) (by kernel_rfl) (by kernel_rfl)) ?_
  intro W base args ds gs before hval0 hW hcnd hsz0 _
  have hval : ∀ (j : Nat) t v, Try.f14.params[j]? = some t → args[j]? = some v → Value.okWide Try.prog W .any base t v := hval0
  have hW' := hW
  obtain ⟨p, q, hA0, hV, rfl, hfz, hnd⟩ := hW
  have hA : DataW.TrodAll enc Try.prog W 0 (fun _ => true) true Try.f14.params.toList args.toList ds p := hA0
  rw [Try.params14] at hA hval
  obtain ⟨v0, vs0, d0, ds0, p0, q0, hargs, rfl, rfl, h0, r0⟩ := trodAll_cons hA
  obtain ⟨rfl, rfl, rfl⟩ := trodAll_nil r0
  obtain rfl : args = #[v0] := by cases args; simp_all
  obtain ⟨rfl, rfl⟩ := trodVars_none hV
  clear hA0 hsz0
  have k0 := h0
  have lt0 : ∀ x ∈ p0, x.block < W.heap.size := by obtain ⟨m, hm⟩ := k0; exact DataW.trod_lt m _ _ _ hm
  obtain ⟨u0, hf0⟩ := h0
  obtain ⟨s0, hk0, hg0⟩ := opens_S57 _ _ _ hf0
  have he0 := k57_open hk0
  obtain ⟨b0, rfl⟩ := okWide_agg Try.underlying57 (hval 0 57 v0 rfl rfl)
  obtain rfl := agg_of he0
  refine (S.lombardlaw02_WideReckons.walk Pure.WideReckons s0.f0.f0 s0.f0.f1 s0.f1.f0 s0.f1.f1 s0.f2 s0.f3 W  hg0.1.1 hg0.1.2 hg0.2.1.1 hg0.2.1.2 hg0.2.2.1 hg0.2.2.2).mono fun e W' ⟨he, bel⟩ => ?_
  subst he
  exact ⟨_, rfl, _, _, _, [], _, [], hW', trodAll_mk1 (shut_bool Try.underlying4 _), (trodAll_cons_mk (Below.trod laidOut (by kernel_rfl) (of_decide_eq_true (by kernel_rfl)) k0 bel lt0) trodAll_mk0), rfl, bel.frame _, fun h => by cases h⟩
theorem over : Rows.wideReckonsRow.holds Try.pinned (OpenSpec.ofChange Rows.wideReckonsSpec) :=
  OpenClaim.holds_of_wide 14 Try.f14 rfl rfl rfl rfl rfl rfl rfl ⟨rfl, rfl, rfl, rfl, rfl⟩ rfl rfl rfl rfl rfl (by kernel_rfl) Try.func14 (by kernel_rfl)
    (of_decide_eq_true (by kernel_rfl)) (by unfold Func.isWrapper; first | (rw [if_pos (by decide +kernel)]; kernel_rfl) | (rw [if_neg (by decide +kernel)]; exact ⟨rfl, rfl⟩))
    (fun os started H enc _ => lifted os started H enc)
theorem proved : Rows.WideReckonsSaid := over
#print axioms proved
end Go.Proofs.Ytohbdjfabghagaa.wideReckons
namespace Go.Proofs.Ytohbdjfabghagaa
/-- The row, under a short name, for the claim. -/
theorem wideReckons_holds : Rows.WideReckonsSaid := wideReckons.proved
end Go.Proofs.Ytohbdjfabghagaa
end
