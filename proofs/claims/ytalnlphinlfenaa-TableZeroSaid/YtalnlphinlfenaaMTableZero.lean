/- The statement TableZeroSaid: for every input the law returns true, and each argument reads afterwards as it read before. Conditions: none. -/
import Derived.Test.YtalnlphinlfenaaWWords
import Derived.Lib.Mul64
import Derived.Lib.EndianBits
import Derived.Test.YtalnlphinlfenaaSxMathBitsMul64
import Derived.Test.YtalnlphinlfenaaSxMathBitsDiv64
import Derived.Test.YtalnlphinlfenaaSxWideMulDiv
import Derived.Test.YtalnlphinlfenaaSx0
import Derived.Test.YtalnlphinlfenaaSxMoneyAdd
import Derived.Test.YtalnlphinlfenaaSxMoneySub
import Derived.Test.YtalnlphinlfenaaMTableZero1
import Derived.Test.YtalnlphinlfenaaSxRateMay
import Derived.Handy
import Derived.Test.YtalnlphinlfenaaSxRateInterest
import Derived.Test.YtalnlphinlfenaaSxTableRoll
import Derived.Test.YtalnlphinlfenaaMTableZero2
import Derived.Test.YtalnlphinlfenaaSxLombardlaw11From
import Derived.Test.YtalnlphinlfenaaSxTablePlug
import Derived.Test.YtalnlphinlfenaaSxMathBitsAdd64
import Derived.Test.YtalnlphinlfenaaSxMoneyTold
import Derived.ChangeArms
import Derived.DataReads
import Derived.WideShapes
import Derived.Deep.Slices
import Derived.Test.YtalnlphinlfenaaRows
import Derived.WalkKit
import Derived.ProofKit
import Derived.OpenShut
import Derived.ShutString
import Derived.ChangeOld
import Derived.Below
import Derived.SizedLaws
import Derived.Carry
section
namespace Go.Proofs.Ytalnlphinlfenaa.Rnd
set_option linter.unusedVariables false
set_option linter.unusedSimpArgs false

/-- A over b rounded to the nearer whole number, to the even one of two; b above 0. -/
def near (A b : Int) : Int := if 2 * (A % b) > b ∨ 2 * (A % b) = b ∧ (A / b) % 2 = 1 then A / b + 1 else A / b

theorem div_split (A b : Int) (hb : 0 < b) : A = b * (A / b) + A % b ∧ 0 ≤ A % b ∧ A % b < b :=
  ⟨(Int.mul_ediv_add_emod A b).symm, Int.emod_nonneg A (by omega), Int.emod_lt_of_pos A hb⟩

theorem near_spec {A b : Int} (hb : 0 < b) : 2 * (b * near A b) ≤ 2 * A + b ∧ 2 * A ≤ 2 * (b * near A b) + b ∧
    (2 * (b * near A b) = 2 * A + b ∨ 2 * A = 2 * (b * near A b) + b → near A b % 2 = 0) := by
  obtain ⟨h, h0, h1⟩ := div_split A b hb
  unfold near
  generalize A % b = r at *
  generalize A / b = q at *
  split
  · rw [Int.mul_add, Int.mul_one]
    generalize b * q = m at *
    refine ⟨by omega, by omega, by omega⟩
  · generalize b * q = m at *
    refine ⟨by omega, by omega, by omega⟩

theorem mul_step {b N M : Int} (hb : 0 < b) (h : N < M) : b * N + b ≤ b * M := by
  have : b * (N + 1) ≤ b * M := Int.mul_le_mul_of_nonneg_left (by omega) (by omega)
  rw [Int.mul_add, Int.mul_one] at this
  exact this

theorem near_uniq {A b N : Int} (hb : 0 < b) (h1 : 2 * (b * N) ≤ 2 * A + b) (h2 : 2 * A ≤ 2 * (b * N) + b)
    (h3 : 2 * (b * N) = 2 * A + b ∨ 2 * A = 2 * (b * N) + b → N % 2 = 0) : near A b = N := by
  obtain ⟨a1, a2, a3⟩ := near_spec (A := A) hb
  generalize near A b = M at *
  rcases Int.lt_trichotomy M N with c | c | c
  · have s := mul_step hb c
    by_cases d : M + 2 ≤ N
    · have := mul_step hb (show M < M + 1 by omega)
      have := mul_step hb (show M + 1 < N by omega)
      omega
    have e : N = M + 1 := by omega
    subst e
    rw [Int.mul_add, Int.mul_one] at *
    omega
  · exact c
  · have s := mul_step hb c
    by_cases d : N + 2 ≤ M
    · have := mul_step hb (show N < N + 1 by omega)
      have := mul_step hb (show N + 1 < M by omega)
      omega
    have e : M = N + 1 := by omega
    subst e
    rw [Int.mul_add, Int.mul_one] at *
    omega

theorem near_neg {A b : Int} (hb : 0 < b) : near (-A) b = -near A b := by
  obtain ⟨a1, a2, a3⟩ := near_spec (A := A) hb
  have e : b * -near A b = -(b * near A b) := Int.mul_neg _ _
  refine near_uniq hb ?_ ?_ ?_ <;> rw [e] <;> omega

/-- the quotient: way 0 downwards, way 1 to the nearer one -/
def rnd (A b way : Int) : Int := if way = 0 then (if b < 0 then (-A) / (-b) else A / b) else (if b < 0 then near (-A) (-b) else near A b)

theorem floor_neg {X b : Int} (hb : 0 < b) : (-X) / b = -(X / b + if X % b > 0 then 1 else 0) := by
  obtain ⟨h, h0, h1⟩ := div_split X b hb
  obtain ⟨g, g0, g1⟩ := div_split (-X) b hb
  generalize X % b = r at *
  generalize X / b = q at *
  generalize (-X) % b = r' at *
  generalize (-X) / b = q' at *
  -- b q' + r' = -(b q + r)
  split
  · rcases Int.lt_trichotomy q' (-(q + 1)) with c | c | c
    · have := mul_step hb c
      rw [Int.mul_neg, Int.mul_add, Int.mul_one] at this
      omega
    · omega
    · have := mul_step hb c
      rw [Int.mul_neg, Int.mul_add, Int.mul_one] at this
      omega
  · rcases Int.lt_trichotomy q' (-q) with c | c | c
    · have := mul_step hb c
      rw [Int.mul_neg] at this
      omega
    · omega
    · have := mul_step hb c
      rw [Int.mul_neg] at this
      omega

/-- whether the size of a quotient is rounded up -/
def upf (way X y : Int) (less : Bool) : Bool := if way = 0 then less && decide (X % y > 0) else decide (2 * (X % y) > y ∨ 2 * (X % y) = y ∧ (X / y) % 2 = 1)
/-- by sizes and signs, as the code does it -/
theorem rnd_sizes {A b way X y : Int} (hw : way = 0 ∨ way = 1) (hb : b ≠ 0) (hX : X = if A < 0 then -A else A) (hy : y = if b < 0 then -b else b) :
    rnd A b way = if (decide (A < 0) != decide (b < 0)) = true then -(X / y + (if upf way X y (decide (A < 0) != decide (b < 0)) = true then 1 else 0)) else X / y + (if upf way X y (decide (A < 0) != decide (b < 0)) = true then 1 else 0) := by
  unfold upf
  have hy0 : 0 < y := by subst hy; split <;> omega
  have hX0 : 0 ≤ X := by subst hX; split <;> omega
  rcases hw with rfl | rfl
  · unfold rnd
    rw [if_pos rfl]
    simp only [if_true]
    by_cases c : A < 0
    · rw [if_pos c] at hX
      by_cases d : b < 0
      · rw [if_pos d] at hy ⊢
        rw [decide_eq_true c, decide_eq_true d, ← hX, ← hy]
        simp
      · rw [if_neg d] at hy ⊢
        rw [decide_eq_true c, decide_eq_false d, ← hy]
        have : A = -X := by omega
        rw [this, floor_neg hy0]
        simp
    · rw [if_neg c] at hX
      by_cases d : b < 0
      · rw [if_pos d] at hy ⊢
        rw [decide_eq_false c, decide_eq_true d, ← hX, ← hy, floor_neg hy0]
        simp
      · rw [if_neg d] at hy ⊢
        rw [decide_eq_false c, decide_eq_false d, ← hX, ← hy]
        simp
  · unfold rnd
    rw [if_neg (by omega)]
    simp only [show ((1 : Int) = 0) = False by simp, if_false]
    have hn : (X / y + if decide (2 * (X % y) > y ∨ 2 * (X % y) = y ∧ X / y % 2 = 1) = true then 1 else 0) = near X y := by
      unfold near
      simp only [decide_eq_true_eq]
      split <;> omega
    rw [hn]
    by_cases c : A < 0
    · rw [if_pos c] at hX
      by_cases d : b < 0
      · rw [if_pos d] at hy ⊢
        rw [decide_eq_true c, decide_eq_true d, ← hX, ← hy]
        simp
      · rw [if_neg d] at hy ⊢
        rw [decide_eq_true c, decide_eq_false d, ← hy]
        have : A = -X := by omega
        rw [this, near_neg hy0]
        simp
    · rw [if_neg c] at hX
      by_cases d : b < 0
      · rw [if_pos d] at hy ⊢
        rw [decide_eq_false c, decide_eq_true d, ← hX, ← hy, near_neg hy0]
        simp
      · rw [if_neg d] at hy ⊢
        rw [decide_eq_false c, decide_eq_false d, ← hX, ← hy]
        simp
end Go.Proofs.Ytalnlphinlfenaa.Rnd
end

section
namespace Go.Proofs.Ytalnlphinlfenaa.Knuth
set_option linter.unusedVariables false
set_option linter.unusedSimpArgs false

theorem ltge (a b : Int) : a < b ∨ b ≤ a := by omega
/-- A quotient by its rest. -/
theorem quot_uniq {A b q r : Int} (hb : 0 < b) (h : A = b * q + r) (h0 : 0 ≤ r) (h1 : r < b) : A / b = q ∧ A % b = r := by
  have := Int.mul_ediv_add_emod A b
  have p0 := Int.emod_nonneg A (show b ≠ 0 by omega)
  have p1 := Int.emod_lt_of_pos A hb
  generalize A / b = q' at *
  generalize A % b = r' at *
  have e : b * (q' - q) = r - r' := by rw [Int.mul_sub]; omega
  have k : q' - q = 0 := by
    rcases Int.lt_trichotomy (q' - q) 0 with c | c | c
    · have : b * (q' - q) ≤ b * (-1) := Int.mul_le_mul_of_nonneg_left (by omega) (by omega)
      omega
    · exact c
    · have : b * 1 ≤ b * (q' - q) := Int.mul_le_mul_of_nonneg_left (by omega) (by omega)
      omega
  rw [k, Int.mul_zero] at e
  omega

/-- the first guess: no less than the quotient, and at most one beyond a digit -/
theorem guess {Y y1 y0 U u : Int} (hY : Y = y1 * 4294967296 + y0) (h1 : 2147483648 ≤ y1) (h00 : 0 ≤ y0) (h01 : y0 < 4294967296)
    (hU0 : 0 ≤ U) (hU : U < Y) (hu0 : 0 ≤ u) (hu : u < 4294967296) :
    (U * 4294967296 + u) / Y ≤ U / y1 ∧ U / y1 ≤ 4294967297 ∧ 0 ≤ (U * 4294967296 + u) / Y ∧ (U * 4294967296 + u) / Y ≤ 4294967295 := by
  have hy : 0 < Y := by omega
  have a := Int.mul_ediv_add_emod U y1
  have a0 := Int.emod_nonneg U (show y1 ≠ 0 by omega)
  have a1 := Int.emod_lt_of_pos U (show 0 < y1 by omega)
  have b := Int.mul_ediv_add_emod (U * 4294967296 + u) Y
  have b0 := Int.emod_nonneg (U * 4294967296 + u) (show Y ≠ 0 by omega)
  have b1 := Int.emod_lt_of_pos (U * 4294967296 + u) hy
  generalize U / y1 = g at *
  generalize U % y1 = r at *
  generalize (U * 4294967296 + u) / Y = q at *
  generalize (U * 4294967296 + u) % Y = t at *
  have q0 : 0 ≤ q := by
    rcases ltge q 0 with c | c
    · have : Y * q ≤ Y * (-1) := Int.mul_le_mul_of_nonneg_left (by omega) (by omega)
      omega
    · exact c
  have q1 : q ≤ 4294967295 := by
    rcases ltge 4294967295 q with c | c
    · have : Y * 4294967296 ≤ Y * q := Int.mul_le_mul_of_nonneg_left (by omega) (by omega)
      omega
    · exact c
  refine ⟨?_, ?_, q0, q1⟩
  · rcases ltge g q with c | c
    · have e1 : y1 * (g + 1) ≤ y1 * q := Int.mul_le_mul_of_nonneg_left (by omega) (by omega)
      have e2 : 0 ≤ y0 * q := Int.mul_nonneg h00 q0
      have e3 : Y * q = 4294967296 * (y1 * q) + y0 * q := by rw [hY]; grind
      rw [Int.mul_add, Int.mul_one] at e1
      omega
    · exact c
  · rcases ltge 4294967297 g with c | c
    · have e1 : y1 * 4294967298 ≤ y1 * g := Int.mul_le_mul_of_nonneg_left (by omega) (by omega)
      omega
    · exact c

/-- the guess is right if it asks for no more than there is -/
theorem right {Y N q g : Int} (hy : 0 < Y) (hq : q = N / Y) (h : q ≤ g) (h1 : g * Y ≤ N) : g = q := by
  have b := Int.mul_ediv_add_emod N Y
  have b1 := Int.emod_lt_of_pos N hy
  rw [← hq] at b
  rcases ltge q g with c | c
  · have e1 : Y * (q + 1) ≤ Y * g := Int.mul_le_mul_of_nonneg_left (by omega) (by omega)
    rw [Int.mul_add, Int.mul_one] at e1
    rw [Int.mul_comm] at h1
    omega
  · omega

theorem wrong {Y N q g : Int} (hy : 0 < Y) (hq : q = N / Y) (h1 : N < g * Y) : q < g := by
  have b := Int.mul_ediv_add_emod N Y
  have b0 := Int.emod_nonneg N (show Y ≠ 0 by omega)
  rw [← hq] at b
  rcases ltge q g with c | c
  · exact c
  · have e1 : Y * g ≤ Y * q := Int.mul_le_mul_of_nonneg_left (by omega) (by omega)
    rw [Int.mul_comm] at h1
    omega

/-- what is asked of a guess, by its parts -/
theorem parts {Y y1 y0 U u g r : Int} (hY : Y = y1 * 4294967296 + y0) (hr : g * y1 + r = U) : (g * Y ≤ U * 4294967296 + u ↔ g * y0 ≤ 4294967296 * r + u) := by
  have : g * Y = 4294967296 * (g * y1) + g * y0 := by rw [hY]; grind
  omega

/-- two digits, and the rest moved back -/
theorem whole {X y S Q R : Int} (hy : 0 < y) (hS : 0 < S) (h : X * S = (y * S) * Q + R) (h0 : 0 ≤ R) (h1 : R < y * S) : X / y = Q ∧ X % y = R / S := by
  have e : R = S * (X - y * Q) := by grind
  have f : R / S = X - y * Q := by rw [e]; exact Int.mul_ediv_cancel_left _ (by omega)
  have g0 : 0 ≤ X - y * Q := by
    rcases ltge (X - y * Q) 0 with c | c
    · have : S * (X - y * Q) ≤ S * (-1) := Int.mul_le_mul_of_nonneg_left (by omega) (by omega)
      omega
    · exact c
  have g1 : X - y * Q < y := by
    rcases ltge (X - y * Q) y with c | c
    · exact c
    · have : S * y ≤ S * (X - y * Q) := Int.mul_le_mul_of_nonneg_left (by omega) (by omega)
      rw [Int.mul_comm S y] at this
      omega
  have := quot_uniq hy (show X = y * Q + (X - y * Q) by omega) g0 g1
  exact ⟨this.1, this.2.trans f.symm⟩
end Go.Proofs.Ytalnlphinlfenaa.Knuth
end

section
namespace Go.Proofs.Ytalnlphinlfenaa.XNum
set_option linter.unusedVariables false
set_option linter.unusedSimpArgs false
open Go.RowKit Go.Proofs.YtalnlphinlfenaaW.PrintWords

theorem w64 {n : Int} (h0 : -9223372036854775808 ≤ n) (h1 : n ≤ 9223372036854775807) : wrap64 n = n := by
  unfold wrap64
  omega
theorem wf64 {a : Int} : (Lit.int .i64 a).wf = true ↔ -9223372036854775808 ≤ a ∧ a ≤ 9223372036854775807 := by
  simp only [Lit.wf, IntKind.min, IntKind.max, IntKind.signed, IntKind.bits, Bool.and_eq_true, decide_eq_true_eq, if_true]
  omega
theorem wfu8 {a : Int} : (Lit.int .u8 a).wf = true ↔ 0 ≤ a ∧ a ≤ 255 := by
  simp only [Lit.wf, IntKind.min, IntKind.max, IntKind.signed, IntKind.bits, Bool.and_eq_true, decide_eq_true_eq]
  simp
theorem tm_nn {a k : Int} (h : 0 ≤ a) : Int.tmod a k = a % k := Int.tmod_eq_emod_of_nonneg h
theorem td_nn {a k : Int} (h : 0 ≤ a) : Int.tdiv a k = a / k := Int.tdiv_eq_ediv_of_nonneg h
end Go.Proofs.Ytalnlphinlfenaa.XNum
end

section
namespace Go.Proofs.Ytalnlphinlfenaa.XBits
set_option linter.unusedVariables false
set_option linter.unusedSimpArgs false
open Go.RowKit Go.Proofs.Ytalnlphinlfenaa.S Go.Proofs.Ytalnlphinlfenaa.XNum Go.Proofs.Ytalnlphinlfenaa.Knuth Go.Proofs.YtalnlphinlfenaaW.PrintWords

theorem wu (n : Int) : IntKind.u64.wrap n = n % 18446744073709551616 := IntKind.wrap_u64 n
theorem wu_id {n : Int} (h0 : 0 ≤ n) (h1 : n < 18446744073709551616) : IntKind.u64.wrap n = n := by rw [wu]; omega
theorem and32 {x : Int} (h0 : 0 ≤ x) (h1 : x < 18446744073709551616) : Go.bits .and .u64 x 4294967295 = x % 4294967296 := bits_mask .u64 64 (by decide) wraps_u64 32 (by decide) x h0 h1

theorem mul64 {x y : Int} (hx : 0 ≤ x) (hx1 : x < 18446744073709551616) (hy : 0 ≤ y) (hy1 : y < 18446744073709551616) :
    math_bits_Mul64.f x y = some (x * y / 18446744073709551616, x * y % 18446744073709551616) := by
  unfold math_bits_Mul64.f
  rw [and32 hx hx1, and32 hy hy1]
  simp only [wu]
  rw [and32 (by omega) (by omega)]
  obtain ⟨x, rfl⟩ := Int.eq_ofNat_of_zero_le hx
  obtain ⟨y, rfl⟩ := Int.eq_ofNat_of_zero_le hy
  obtain ⟨a, b, c, d⟩ := Go.Lib.mul64_hi x y (by omega) (by omega)
  have d' : ((x * y / 18446744073709551616 : Nat) : Int) = (x : Int) * y / 18446744073709551616 := by rw [Int.natCast_ediv, Int.natCast_mul]; rfl
  rw [← d', ← d]
  have e1 : ((x : Int) / 4294967296) * ((y : Int) / 4294967296) = ((x / 4294967296 * (y / 4294967296) : Nat) : Int) := by rw [Int.natCast_mul, Int.natCast_ediv, Int.natCast_ediv]; rfl
  have e2 : ((x : Int) / 4294967296) * ((y : Int) % 4294967296) = ((x / 4294967296 * (y % 4294967296) : Nat) : Int) := by rw [Int.natCast_mul, Int.natCast_ediv, Int.natCast_emod]; rfl
  have e3 : ((x : Int) % 4294967296) * ((y : Int) / 4294967296) = ((x % 4294967296 * (y / 4294967296) : Nat) : Int) := by rw [Int.natCast_mul, Int.natCast_emod, Int.natCast_ediv]; rfl
  have e4 : ((x : Int) % 4294967296) * ((y : Int) % 4294967296) = ((x % 4294967296 * (y % 4294967296) : Nat) : Int) := by rw [Int.natCast_mul, Int.natCast_emod, Int.natCast_emod]; rfl
  rw [e1, e2, e3, e4]
  have l1 := Go.Lib.half_mul_le (a := x / 4294967296) (b := y / 4294967296) (by omega) (by omega)
  have l2 := Go.Lib.half_mul_le (a := x / 4294967296) (b := y % 4294967296) (by omega) (by omega)
  have l3 := Go.Lib.half_mul_le (a := x % 4294967296) (b := y / 4294967296) (by omega) (by omega)
  have l4 := Go.Lib.half_mul_le (a := x % 4294967296) (b := y % 4294967296) (by omega) (by omega)
  have l5 : x * y / 18446744073709551616 < 18446744073709551616 := by
    have : x * y < 18446744073709551616 * 18446744073709551616 := Nat.mul_lt_mul_of_lt_of_lt (by omega) (by omega)
    omega
  generalize x / 4294967296 * (y / 4294967296) = p1 at *
  generalize x / 4294967296 * (y % 4294967296) = p2 at *
  generalize x % 4294967296 * (y / 4294967296) = p3 at *
  generalize x % 4294967296 * (y % 4294967296) = p4 at *
  generalize x * y / 18446744073709551616 = p5 at *
  congr 2
  omega

/-- How many bits a byte has. -/
def len8 (i : Int) : Int := if i < 1 then 0 else if i < 2 then 1 else if i < 4 then 2 else if i < 8 then 3 else if i < 16 then 4 else if i < 32 then 5 else if i < 64 then 6 else if i < 128 then 7 else 8
theorem tab_fin : ∀ i : Fin 256, bt (⟨#[0, 1, 2, 2, 3, 3, 3, 3, 4, 4, 4, 4, 4, 4, 4, 4, 5, 5, 5, 5, 5, 5, 5, 5, 5, 5, 5, 5, 5, 5, 5, 5, 6, 6, 6, 6, 6, 6, 6, 6, 6, 6, 6, 6, 6, 6, 6, 6, 6, 6, 6, 6, 6, 6, 6, 6, 6, 6, 6, 6, 6, 6, 6, 6, 7, 7, 7, 7, 7, 7, 7, 7, 7, 7, 7, 7, 7, 7, 7, 7, 7, 7, 7, 7, 7, 7, 7, 7, 7, 7, 7, 7, 7, 7, 7, 7, 7, 7, 7, 7, 7, 7, 7, 7, 7, 7, 7, 7, 7, 7, 7, 7, 7, 7, 7, 7, 7, 7, 7, 7, 7, 7, 7, 7, 7, 7, 7, 7, 8, 8, 8, 8, 8, 8, 8, 8, 8, 8, 8, 8, 8, 8, 8, 8, 8, 8, 8, 8, 8, 8, 8, 8, 8, 8, 8, 8, 8, 8, 8, 8, 8, 8, 8, 8, 8, 8, 8, 8, 8, 8, 8, 8, 8, 8, 8, 8, 8, 8, 8, 8, 8, 8, 8, 8, 8, 8, 8, 8, 8, 8, 8, 8, 8, 8, 8, 8, 8, 8, 8, 8, 8, 8, 8, 8, 8, 8, 8, 8, 8, 8, 8, 8, 8, 8, 8, 8, 8, 8, 8, 8, 8, 8, 8, 8, 8, 8, 8, 8, 8, 8, 8, 8, 8, 8, 8, 8, 8, 8, 8, 8, 8, 8, 8, 8, 8, 8, 8, 8, 8, 8, 8, 8, 8, 8, 8, 8]⟩ : ByteArray) (i.val : Int) = len8 (i.val : Int) := by decide +kernel
theorem tab {i : Int} (h0 : 0 ≤ i) (h1 : i < 256) : bt (⟨#[0, 1, 2, 2, 3, 3, 3, 3, 4, 4, 4, 4, 4, 4, 4, 4, 5, 5, 5, 5, 5, 5, 5, 5, 5, 5, 5, 5, 5, 5, 5, 5, 6, 6, 6, 6, 6, 6, 6, 6, 6, 6, 6, 6, 6, 6, 6, 6, 6, 6, 6, 6, 6, 6, 6, 6, 6, 6, 6, 6, 6, 6, 6, 6, 7, 7, 7, 7, 7, 7, 7, 7, 7, 7, 7, 7, 7, 7, 7, 7, 7, 7, 7, 7, 7, 7, 7, 7, 7, 7, 7, 7, 7, 7, 7, 7, 7, 7, 7, 7, 7, 7, 7, 7, 7, 7, 7, 7, 7, 7, 7, 7, 7, 7, 7, 7, 7, 7, 7, 7, 7, 7, 7, 7, 7, 7, 7, 7, 8, 8, 8, 8, 8, 8, 8, 8, 8, 8, 8, 8, 8, 8, 8, 8, 8, 8, 8, 8, 8, 8, 8, 8, 8, 8, 8, 8, 8, 8, 8, 8, 8, 8, 8, 8, 8, 8, 8, 8, 8, 8, 8, 8, 8, 8, 8, 8, 8, 8, 8, 8, 8, 8, 8, 8, 8, 8, 8, 8, 8, 8, 8, 8, 8, 8, 8, 8, 8, 8, 8, 8, 8, 8, 8, 8, 8, 8, 8, 8, 8, 8, 8, 8, 8, 8, 8, 8, 8, 8, 8, 8, 8, 8, 8, 8, 8, 8, 8, 8, 8, 8, 8, 8, 8, 8, 8, 8, 8, 8, 8, 8, 8, 8, 8, 8, 8, 8, 8, 8, 8, 8, 8, 8, 8, 8, 8, 8]⟩ : ByteArray) i = len8 i := by
  obtain ⟨n, rfl⟩ := Int.eq_ofNat_of_zero_le h0
  exact tab_fin ⟨n, by omega⟩
/-- It has n bits. -/
def Bits (n : Nat) (y : Int) : Prop := 1 ≤ n ∧ (2 : Int) ^ (n - 1) ≤ y ∧ y < 2 ^ n
theorem len8_bits {i : Int} (h0 : 1 ≤ i) (h1 : i < 256) : ∃ m : Nat, len8 i = m ∧ m ≤ 8 ∧ Bits m i := by
  unfold len8 Bits
  rw [if_neg (by omega)]
  by_cases c1 : i < 2
  · rw [if_pos c1]; exact ⟨1, rfl, by omega, by omega, by simp; omega, by simp; omega⟩
  rw [if_neg c1]
  by_cases c2 : i < 4
  · rw [if_pos c2]; exact ⟨2, rfl, by omega, by omega, by simp; omega, by simp; omega⟩
  rw [if_neg c2]
  by_cases c3 : i < 8
  · rw [if_pos c3]; exact ⟨3, rfl, by omega, by omega, by simp; omega, by simp; omega⟩
  rw [if_neg c3]
  by_cases c4 : i < 16
  · rw [if_pos c4]; exact ⟨4, rfl, by omega, by omega, by simp; omega, by simp; omega⟩
  rw [if_neg c4]
  by_cases c5 : i < 32
  · rw [if_pos c5]; exact ⟨5, rfl, by omega, by omega, by simp; omega, by simp; omega⟩
  rw [if_neg c5]
  by_cases c6 : i < 64
  · rw [if_pos c6]; exact ⟨6, rfl, by omega, by omega, by simp; omega, by simp; omega⟩
  rw [if_neg c6]
  by_cases c7 : i < 128
  · rw [if_pos c7]; exact ⟨7, rfl, by omega, by omega, by simp; omega, by simp; omega⟩
  rw [if_neg c7]
  exact ⟨8, rfl, by omega, by omega, by simp; omega, by simp; omega⟩
theorem bits_up {t m : Nat} {y : Int} (h : Bits m (y / 2 ^ t)) : Bits (m + t) y := by
  obtain ⟨a, b, c⟩ := h
  have hp : (0 : Int) < 2 ^ t := Int.pow_pos (by decide)
  refine ⟨by omega, ?_, ?_⟩
  · have := (Int.le_ediv_iff_mul_le hp).1 b
    rw [show m + t - 1 = m - 1 + t by omega, Int.pow_add]
    exact this
  · have := (Int.ediv_lt_iff_lt_mul hp).1 c
    rw [Int.pow_add]
    exact this

theorem len64 {y : Int} (h0 : 1 ≤ y) (h1 : y < 18446744073709551616) (k : Nat) : ∃ n : Nat, math_bits_Len64.f (k + 1) y = some (n : Int) ∧ n ≤ 64 ∧ Bits n y := by
  have key : ∀ (z x2 : Int) (t : Nat), 1 ≤ z → z < 4294967296 → x2 = t → t ≤ 32 → ∃ n : Nat, math_bits_Len64.j0 (k + 1) z x2 = some (n + t : Int) ∧ n ≤ 32 ∧ Bits n z := by
    intro z x2 t z0 z1 hx ht
    subst hx
    rw [math_bits_Len64.j0]
    by_cases c1 : z ≥ 65536
    · rw [if_pos c1]
      by_cases c2 : z / 65536 ≥ 256
      · rw [if_pos c2, if_pos (by omega), if_pos (by omega), tab (by omega) (by omega)]
        obtain ⟨m, e, hm, hb⟩ := len8_bits (i := z / 65536 / 256 % 256) (by omega) (by omega)
        rw [e]
        refine ⟨m + 24, ?_, by omega, ?_⟩
        · congr 1
          rw [w64 (n := (t : Int) + 16) (by omega) (by omega), w64 (n := (t : Int) + 16 + 8) (by omega) (by omega), w64 (n := (m : Int)) (by omega) (by omega), w64 (by omega) (by omega)]
          omega
        · refine bits_up ?_
          have : z / 2 ^ 24 = z / 65536 / 256 % 256 := by simp; omega
          rw [this]
          exact hb
      · rw [if_neg c2, if_pos (by omega), if_pos (by omega), tab (by omega) (by omega)]
        obtain ⟨m, e, hm, hb⟩ := len8_bits (i := z / 65536 % 256) (by omega) (by omega)
        rw [e]
        refine ⟨m + 16, ?_, by omega, ?_⟩
        · congr 1
          rw [w64 (n := (t : Int) + 16) (by omega) (by omega), w64 (n := (m : Int)) (by omega) (by omega), w64 (by omega) (by omega)]
          omega
        · refine bits_up ?_
          have : z / 2 ^ 16 = z / 65536 % 256 := by simp; omega
          rw [this]
          exact hb
    · rw [if_neg c1]
      by_cases c2 : z ≥ 256
      · rw [if_pos c2, if_pos (by omega), if_pos (by omega), tab (by omega) (by omega)]
        obtain ⟨m, e, hm, hb⟩ := len8_bits (i := z / 256 % 256) (by omega) (by omega)
        rw [e]
        refine ⟨m + 8, ?_, by omega, ?_⟩
        · congr 1
          rw [w64 (n := (t : Int) + 8) (by omega) (by omega), w64 (n := (m : Int)) (by omega) (by omega), w64 (by omega) (by omega)]
          omega
        · refine bits_up ?_
          have : z / 2 ^ 8 = z / 256 % 256 := by simp; omega
          rw [this]
          exact hb
      · rw [if_neg c2, if_pos (by omega), if_pos (by omega), tab (by omega) (by omega)]
        obtain ⟨m, e, hm, hb⟩ := len8_bits (i := z % 256) (by omega) (by omega)
        rw [e]
        refine ⟨m, ?_, by omega, ?_⟩
        · congr 1
          rw [w64 (n := (m : Int)) (by omega) (by omega), w64 (by omega) (by omega)]
          omega
        · have : z % 256 = z := by omega
          rw [this] at hb
          exact hb
  unfold math_bits_Len64.f
  by_cases c : y ≥ 4294967296
  · rw [if_pos c]
    obtain ⟨n, e, hn, hb⟩ := key (y / 4294967296) 32 32 (by omega) (by omega) rfl (by omega)
    refine ⟨n + 32, by rw [e]; simp, by omega, bits_up ?_⟩
    have : (2 : Int) ^ 32 = 4294967296 := by decide
    rw [this]
    exact hb
  · rw [if_neg c]
    obtain ⟨n, e, hn, hb⟩ := key y 0 0 (by omega) (by omega) rfl (by omega)
    exact ⟨n, by rw [e]; simp, by omega, hb⟩

/-- one digit, as the first loop finds it -/
theorem digit0 {B : Nat} {res : Option (Int × Int)} {x2 x8 x9 x10 x11 x13 x14 q : Int} (hY : x2 = x9 * 4294967296 + x10) (h1 : 2147483648 ≤ x9) (hY1 : x2 < 18446744073709551616)
    (h00 : 0 ≤ x10) (h01 : x10 < 4294967296) (hU0 : 0 ≤ x11) (hU : x11 < x2) (hu0 : 0 ≤ x13) (hu : x13 < 4294967296) (hq : q = (x11 * 4294967296 + x13) / x2)
    (hres : ∀ k, B ≤ k → math_bits_Div64.j2 k x2 x8 x9 x10 x11 x13 x14 q = res) :
    ∀ (d : Nat) (g r : Int), q ≤ g → g ≤ 4294967297 → g - q ≤ d → g * x9 + r = x11 → 0 ≤ r → (r < 4294967296) → ∀ k, B + 2 * d + 2 ≤ k → math_bits_Div64.l0 k x2 x8 x9 x10 x11 x13 x14 g r = res := by
  obtain ⟨_, _, q0, q1⟩ := guess hY h1 h00 h01 hU0 hU hu0 hu
  rw [← hq] at q0 q1
  intro d
  induction d with
  | zero =>
    intro g r hg _ hd hr r0 r1 k hk
    obtain ⟨k, rfl⟩ : ∃ m, k = m + 2 := ⟨k - 2, by omega⟩
    have e : g = q := by omega
    subst e
    have hle : g * x10 ≤ 4294967296 * r + x13 := by
      rw [← parts hY hr]
      have b := Int.mul_ediv_add_emod (x11 * 4294967296 + x13) x2
      have b0 := Int.emod_nonneg (x11 * 4294967296 + x13) (show x2 ≠ 0 by omega)
      rw [← hq, Int.mul_comm] at b
      omega
    have gy0 : 0 ≤ g * x10 := Int.mul_nonneg q0 h00
    simp only [math_bits_Div64.l0]
    rw [if_neg (by omega), wu_id (n := g * x10) gy0 (by omega), wu_id (n := 4294967296 * r) (by omega) (by omega), wu_id (n := 4294967296 * r + x13) (by omega) (by omega), decide_eq_false (by omega)]
    simp only [math_bits_Div64.j1, Bool.false_eq_true, if_false]
    exact hres k (by omega)
  | succ d ih =>
    intro g r hg hg1 hd hr r0 r1 k hk
    obtain ⟨k, rfl⟩ : ∃ m, k = m + 2 := ⟨k - 2, by omega⟩
    have step : q < g → math_bits_Div64.j1 (k + 1) x2 x8 x9 x10 x11 x13 x14 g r true = res := by
      intro hlt
      simp only [math_bits_Div64.j1, if_true]
      rw [wu_id (n := r + x9) (by omega) (by omega), wu_id (n := g - 1) (by omega) (by omega)]
      by_cases c : r + x9 ≥ 4294967296
      · rw [if_pos c]
        have e : g - 1 = q := by
          refine right (show 0 < x2 by omega) hq (by omega) ?_
          rw [parts (r := r + x9) hY (by rw [Int.sub_mul]; omega)]
          have m : (g - 1) * x10 ≤ 4294967296 * x10 := Int.mul_le_mul_of_nonneg_right (by omega) h00
          omega
        rw [e]
        exact hres k (by omega)
      · rw [if_neg c]
        exact ih (g - 1) (r + x9) (by omega) (by omega) (by omega) (by rw [Int.sub_mul]; omega) (by omega) (by omega) k (by omega)
    simp only [math_bits_Div64.l0]
    by_cases c : g ≥ 4294967296
    · rw [if_pos c]
      exact step (by omega)
    · rw [if_neg c]
      have gy0 : 0 ≤ g * x10 := Int.mul_nonneg (by omega) h00
      have gy1 : g * x10 ≤ 4294967296 * x10 := Int.mul_le_mul_of_nonneg_right (by omega) h00
      rw [wu_id (n := g * x10) gy0 (by omega), wu_id (n := 4294967296 * r) (by omega) (by omega), wu_id (n := 4294967296 * r + x13) (by omega) (by omega)]
      by_cases c2 : g * x10 > 4294967296 * r + x13
      · rw [decide_eq_true c2]
        refine step (wrong (Y := x2) (N := x11 * 4294967296 + x13) (by omega) hq ?_)
        have := (parts (u := x13) hY hr)
        omega
      · rw [decide_eq_false c2]
        simp only [math_bits_Div64.j1, Bool.false_eq_true, if_false]
        have e : g = q := right (Y := x2) (by omega) hq hg ((parts hY hr).2 (by omega))
        rw [e]
        exact hres k (by omega)

/-- the second digit, and what comes behind it -/
theorem digit1 {x2 x8 x9 x10 x14 x15 x17 q : Int} (hY : x2 = x9 * 4294967296 + x10) (h1 : 2147483648 ≤ x9) (hY1 : x2 < 18446744073709551616)
    (h00 : 0 ≤ x10) (h01 : x10 < 4294967296) (hU0 : 0 ≤ x17) (hU : x17 < x2) (hu0 : 0 ≤ x14) (hu : x14 < 4294967296) (hq : q = (x17 * 4294967296 + x14) / x2) (h8 : 0 ≤ x8) (hp0 : 0 ≤ x15) (hp1 : x15 < 4294967296) :
    ∀ (d : Nat) (g r : Int), q ≤ g → g ≤ 4294967297 → g - q ≤ d → g * x9 + r = x17 → 0 ≤ r → (r < 4294967296) → ∀ k, 2 * d + 2 ≤ k → math_bits_Div64.l1 k x2 x8 x9 x10 x14 x15 r x17 g = some (x15 * 4294967296 + q, shr .u64 ((x17 * 4294967296 + x14) % x2) x8) := by
  obtain ⟨_, _, q0, q1⟩ := guess hY h1 h00 h01 hU0 hU hu0 hu
  rw [← hq] at q0 q1
  have b := Int.mul_ediv_add_emod (x17 * 4294967296 + x14) x2
  have b0 := Int.emod_nonneg (x17 * 4294967296 + x14) (show x2 ≠ 0 by omega)
  have b1 := Int.emod_lt_of_pos (x17 * 4294967296 + x14) (show 0 < x2 by omega)
  rw [← hq, Int.mul_comm] at b
  have fin : some (IntKind.u64.wrap ((IntKind.u64.wrap (x15 * 4294967296)) + q), shr .u64 (IntKind.u64.wrap ((IntKind.u64.wrap ((IntKind.u64.wrap (x17 * 4294967296)) + x14)) - (IntKind.u64.wrap (q * x2)))) x8) = some (x15 * 4294967296 + q, shr .u64 ((x17 * 4294967296 + x14) % x2) x8) := by
    rw [wu_id (n := x15 * 4294967296) (by omega) (by omega), wu_id (n := x15 * 4294967296 + q) (by omega) (by omega)]
    congr 3
    simp only [wu]
    generalize q * x2 = m at *
    generalize (x17 * 4294967296 + x14) % x2 = t at *
    omega
  intro d
  induction d with
  | zero =>
    intro g r hg _ hd hr r0 r1 k hk
    obtain ⟨k, rfl⟩ : ∃ m, k = m + 2 := ⟨k - 2, by omega⟩
    have e : g = q := by omega
    subst e
    have hle : g * x10 ≤ 4294967296 * r + x14 := by
      rw [← parts hY hr]
      omega
    have gy0 : 0 ≤ g * x10 := Int.mul_nonneg q0 h00
    simp only [math_bits_Div64.l1]
    rw [if_neg (by omega), wu_id (n := g * x10) gy0 (by omega), wu_id (n := 4294967296 * r) (by omega) (by omega), wu_id (n := 4294967296 * r + x14) (by omega) (by omega), decide_eq_false (by omega)]
    simp only [math_bits_Div64.j4, Bool.false_eq_true, if_false]
    rw [if_pos h8]
    exact fin
  | succ d ih =>
    intro g r hg hg1 hd hr r0 r1 k hk
    obtain ⟨k, rfl⟩ : ∃ m, k = m + 2 := ⟨k - 2, by omega⟩
    have step : q < g → math_bits_Div64.j4 (k + 1) x2 x8 x9 x10 x14 x15 r x17 g true = some (x15 * 4294967296 + q, shr .u64 ((x17 * 4294967296 + x14) % x2) x8) := by
      intro hlt
      simp only [math_bits_Div64.j4, if_true]
      rw [wu_id (n := r + x9) (by omega) (by omega), wu_id (n := g - 1) (by omega) (by omega)]
      by_cases c : r + x9 ≥ 4294967296
      · rw [if_pos c, if_pos h8]
        have e : g - 1 = q := by
          refine right (show 0 < x2 by omega) hq (by omega) ?_
          rw [parts (r := r + x9) hY (by rw [Int.sub_mul]; omega)]
          have m : (g - 1) * x10 ≤ 4294967296 * x10 := Int.mul_le_mul_of_nonneg_right (by omega) h00
          omega
        rw [e]
        exact fin
      · rw [if_neg c]
        exact ih (g - 1) (r + x9) (by omega) (by omega) (by omega) (by rw [Int.sub_mul]; omega) (by omega) (by omega) k (by omega)
    simp only [math_bits_Div64.l1]
    by_cases c : g ≥ 4294967296
    · rw [if_pos c]
      exact step (by omega)
    · rw [if_neg c]
      have gy0 : 0 ≤ g * x10 := Int.mul_nonneg (by omega) h00
      have gy1 : g * x10 ≤ 4294967296 * x10 := Int.mul_le_mul_of_nonneg_right (by omega) h00
      rw [wu_id (n := g * x10) gy0 (by omega), wu_id (n := 4294967296 * r) (by omega) (by omega), wu_id (n := 4294967296 * r + x14) (by omega) (by omega)]
      by_cases c2 : g * x10 > 4294967296 * r + x14
      · rw [decide_eq_true c2]
        refine step (wrong (Y := x2) (N := x17 * 4294967296 + x14) (by omega) hq ?_)
        have := (parts (u := x14) hY hr)
        omega
      · rw [decide_eq_false c2]
        simp only [math_bits_Div64.j4, Bool.false_eq_true, if_false]
        have e : g = q := right (Y := x2) (by omega) hq hg ((parts hY hr).2 (by omega))
        rw [e, if_pos h8]
        exact fin

theorem div64 {hi lo y : Int} (h0 : 0 ≤ hi) (h1 : hi < y) (l0 : 0 ≤ lo) (l1 : lo < 18446744073709551616) (y1 : y < 18446744073709551616) {k : Nat} (hk : 24 ≤ k) :
    math_bits_Div64.f k hi lo y = some ((hi * 18446744073709551616 + lo) / y, (hi * 18446744073709551616 + lo) % y) := by
  obtain ⟨k, rfl⟩ : ∃ m, k = m + 24 := ⟨k - 24, by omega⟩
  unfold math_bits_Div64.f
  rw [if_neg (by omega), if_neg (by omega)]
  by_cases c : hi = 0
  · rw [if_pos c]
    subst c
    rw [td_nn l0, tm_nn l0, Int.zero_mul, Int.zero_add]
    have : lo / y ≤ lo := Int.ediv_le_self _ l0
    have : 0 ≤ lo / y := Int.ediv_nonneg l0 (by omega)
    rw [wu_id (by omega) (by omega)]
  rw [if_neg c]
  obtain ⟨n, e, hn, b0, b1, b2⟩ := len64 (y := y) (by omega) y1 (k + 23)
  unfold math_bits_LeadingZeros64.f
  rw [e]
  simp only [Option.bind_some]
  rw [w64 (by omega) (by omega), wu_id (n := 64 - (n : Int)) (by omega) (by omega), wu_id (n := 64 - (64 - (n : Int))) (by omega) (by omega)]
  rw [if_pos (by omega), if_pos (by omega)]
  unfold shl
  unfold shr
  have i1 : min (64 - (n : Int)).toNat IntKind.u64.bits = 64 - n := by show min (64 - (n : Int)).toNat 64 = 64 - n; omega
  have i2 : min (64 - (64 - (n : Int))).toNat IntKind.u64.bits = n := by show min (64 - (64 - (n : Int))).toNat 64 = n; omega
  rw [i1, i2]
  obtain ⟨S, hSd⟩ : ∃ S : Int, S = 2 ^ (64 - n) := ⟨_, rfl⟩
  rw [← hSd]
  have hS : 0 < S := by rw [hSd]; exact Int.pow_pos (by decide)
  have hP : (0 : Int) < 2 ^ n := Int.pow_pos (by decide)
  have hSP : (2 : Int) ^ n * S = 18446744073709551616 := by
    rw [hSd, ← Int.pow_add, show n + (64 - n) = 64 by omega]; decide
  have hSP2 : (2 : Int) ^ (n - 1) * S = 9223372036854775808 := by
    rw [hSd, ← Int.pow_add, show n - 1 + (64 - n) = 63 by omega]; decide
  generalize (2 : Int) ^ n = P at *
  generalize (2 : Int) ^ (n - 1) = P' at *
  have yS1 : y * S < 18446744073709551616 := by
    have : y * S < P * S := Int.mul_lt_mul_of_pos_right b2 hS
    omega
  have yS0 : 9223372036854775808 ≤ y * S := by
    have : P' * S ≤ y * S := Int.mul_le_mul_of_nonneg_right b1 (by omega)
    omega
  have hS1 : hi * S + S ≤ y * S := by
    have : (hi + 1) * S ≤ y * S := Int.mul_le_mul_of_nonneg_right (by omega) (by omega)
    rw [Int.add_mul, Int.one_mul] at this
    omega
  have hS0 : 0 ≤ hi * S := Int.mul_nonneg h0 (by omega)
  have lS0 : 0 ≤ lo * S := Int.mul_nonneg l0 (by omega)
  have lP0 : 0 ≤ lo / P := Int.ediv_nonneg l0 (by omega)
  have lP : lo * S / 18446744073709551616 = lo / P := by
    rw [← hSP]
    exact Int.mul_ediv_mul_of_pos_left _ _ hS
  have lP1 : lo / P < S := by
    rw [Int.ediv_lt_iff_lt_mul hP, Int.mul_comm, hSP]
    exact l1
  rw [wu_id (n := y * S) (by omega) yS1, wu_id (n := hi * S) hS0 (by omega), wu (lo * S)]
  have or1 : Go.bits .or .u64 (hi * S) (lo / P) = hi * S + lo / P := by
    exact bits_join .u64 64 (by decide) wraps_u64 (64 - n) _ _ hS0 (by rw [← hSd]; exact Int.mul_emod_left _ _) (by simp; omega) lP0 (by rw [← hSd]; exact lP1) (by simp; omega)
  rw [or1, and32 (by omega) yS1, and32 (by omega) (by omega)]
  have hX : (hi * 18446744073709551616 + lo) * S = ((hi * S + lo / P) * 18446744073709551616) + lo * S % 18446744073709551616 := by
    rw [← lP]
    have : (hi * 18446744073709551616 + lo) * S = hi * S * 18446744073709551616 + lo * S := by grind
    omega
  generalize hU : hi * S + lo / P = U at *
  generalize hV : lo * S % 18446744073709551616 = V at *
  generalize hY : y * S = Y at *
  have V0 : 0 ≤ V := by omega
  have V1 : V < 18446744073709551616 := by omega
  have Us : U < Y := by omega
  rw [if_neg (by omega), td_nn (by omega)]
  have sp : Y = Y / 4294967296 * 4294967296 + Y % 4294967296 := by omega
  obtain ⟨g1, g2, g3, g4⟩ := guess (u := V / 4294967296) sp (by omega) (by omega) (by omega) (by omega) Us (by omega) (by omega)
  have ga := Int.mul_ediv_add_emod U (Y / 4294967296)
  have ga0 := Int.emod_nonneg U (show Y / 4294967296 ≠ 0 by omega)
  have ga1 := Int.emod_lt_of_pos U (show 0 < Y / 4294967296 by omega)
  rw [Int.mul_comm] at ga
  have gn : 0 ≤ U / (Y / 4294967296) * (Y / 4294967296) := Int.mul_nonneg (by omega) (by omega)
  rw [wu_id (n := U / (Y / 4294967296)) (by omega) (by omega), wu_id (n := U / (Y / 4294967296) * (Y / 4294967296)) (by omega) (by omega), wu_id (n := U - U / (Y / 4294967296) * (Y / 4294967296)) (by omega) (by omega)]
  generalize hg : U / (Y / 4294967296) = g at *
  -- the first digit
  have m1 := Int.mul_ediv_add_emod (U * 4294967296 + V / 4294967296) Y
  have m10 := Int.emod_nonneg (U * 4294967296 + V / 4294967296) (show Y ≠ 0 by omega)
  have m11 := Int.emod_lt_of_pos (U * 4294967296 + V / 4294967296) (show 0 < Y by omega)
  generalize hq1 : (U * 4294967296 + V / 4294967296) / Y = q1 at *
  generalize hr1 : (U * 4294967296 + V / 4294967296) % Y = W at *
  refine digit0 (B := 14) (q := q1) (res := some ((hi * 18446744073709551616 + lo) / y, (hi * 18446744073709551616 + lo) % y)) sp (by omega) (by omega) (by omega) (by omega) (by omega) Us (by omega) (by omega) hq1.symm ?_ 4 g (U - g * (Y / 4294967296)) g1 g2 ?_ (by omega) (by omega) (by omega) (k + 24) (by omega)
  · intro k' hk'
    obtain ⟨k', rfl⟩ : ∃ m, k' = m + 14 := ⟨k' - 14, by omega⟩
    simp only [math_bits_Div64.j2]
    rw [if_neg (by omega)]
    have w : IntKind.u64.wrap ((IntKind.u64.wrap ((IntKind.u64.wrap (U * 4294967296)) + V / 4294967296)) - (IntKind.u64.wrap (q1 * Y))) = W := by
      simp only [wu]
      rw [Int.mul_comm q1 Y]
      generalize Y * q1 = m at *
      omega
    rw [w, td_nn (by omega)]
    obtain ⟨p1, p2, p3, p4⟩ := guess (u := V % 4294967296) sp (by omega) (by omega) (by omega) (show 0 ≤ W by omega) (by omega) (by omega) (by omega)
    have pa := Int.mul_ediv_add_emod W (Y / 4294967296)
    have pa0 := Int.emod_nonneg W (show Y / 4294967296 ≠ 0 by omega)
    have pa1 := Int.emod_lt_of_pos W (show 0 < Y / 4294967296 by omega)
    rw [Int.mul_comm] at pa
    have pn : 0 ≤ W / (Y / 4294967296) * (Y / 4294967296) := Int.mul_nonneg (by omega) (by omega)
    rw [wu_id (n := W / (Y / 4294967296)) (by omega) (by omega), wu_id (n := W / (Y / 4294967296) * (Y / 4294967296)) (by omega) (by omega), wu_id (n := W - W / (Y / 4294967296) * (Y / 4294967296)) (by omega) (by omega)]
    generalize hg' : W / (Y / 4294967296) = g' at *
    have m2 := Int.mul_ediv_add_emod (W * 4294967296 + V % 4294967296) Y
    have m20 := Int.emod_nonneg (W * 4294967296 + V % 4294967296) (show Y ≠ 0 by omega)
    have m21 := Int.emod_lt_of_pos (W * 4294967296 + V % 4294967296) (show 0 < Y by omega)
    generalize hq2 : (W * 4294967296 + V % 4294967296) / Y = q2 at *
    have d2 : g' - q2 ≤ 4 := by
      rcases ltge 4 (g' - q2) with c5 | c5
      · have e1 : Y * q2 + Y * 5 ≤ Y * g' := by
          have : Y * (q2 + 5) ≤ Y * g' := Int.mul_le_mul_of_nonneg_left (by omega) (by omega)
          rw [Int.mul_add] at this
          exact this
        have e2 : Y * g' = g' * (Y / 4294967296) * 4294967296 + g' * (Y % 4294967296) := by
          conv => lhs; rw [sp]
          grind
        have e3 : g' * (Y % 4294967296) ≤ 4294967297 * (Y % 4294967296) := Int.mul_le_mul_of_nonneg_right p2 (by omega)
        omega
      · exact c5
    rw [digit1 (q := q2) sp (by omega) (by omega) (by omega) (by omega) (by omega) (by omega) (by omega) (by omega) hq2.symm (by omega) (by omega) (by omega) 4 g' (W - g' * (Y / 4294967296)) p1 p2 d2 (by omega) (by omega) (by omega) (k' + 13) (by omega)]
    have fin := whole (X := hi * 18446744073709551616 + lo) (y := y) (S := S) (Q := q1 * 4294967296 + q2) (R := (W * 4294967296 + V % 4294967296) % Y) (by omega) hS (by
      rw [hX, hY, Int.mul_add]
      have : Y * (q1 * 4294967296) = Y * q1 * 4294967296 := by rw [Int.mul_assoc]
      rw [this]
      generalize Y * q1 = a at *
      generalize Y * q2 = b at *
      omega) m20 (by rw [hY]; exact m21)
    rw [fin.1, fin.2]
    unfold shr
    rw [i1]
    rw [hSd]
  · rcases ltge 4 (g - q1) with c5 | c5
    · have e1 : Y * q1 + Y * 5 ≤ Y * g := by
        have : Y * (q1 + 5) ≤ Y * g := Int.mul_le_mul_of_nonneg_left (by omega) (by omega)
        rw [Int.mul_add] at this
        exact this
      have e2 : Y * g = g * (Y / 4294967296) * 4294967296 + g * (Y % 4294967296) := by
        conv => lhs; rw [sp]
        grind
      have e3 : g * (Y % 4294967296) ≤ 4294967297 * (Y % 4294967296) := Int.mul_le_mul_of_nonneg_right g2 (by omega)
      omega
    · omega
end Go.Proofs.Ytalnlphinlfenaa.XBits
end

section
namespace Go.Proofs.Ytalnlphinlfenaa.XWide
set_option linter.unusedVariables false
set_option linter.unusedSimpArgs false
open Go.RowKit Go.Proofs.Ytalnlphinlfenaa.S Go.Proofs.Ytalnlphinlfenaa.XNum Go.Proofs.Ytalnlphinlfenaa.XBits Go.Proofs.Ytalnlphinlfenaa.Rnd Go.Proofs.YtalnlphinlfenaaW.PrintWords

abbrev I64 (n : Int) : Prop := -9223372036854775808 ≤ n ∧ n ≤ 9223372036854775807
abbrev U64 (n : Int) : Prop := 0 ≤ n ∧ n < 18446744073709551616

theorem and_ones {b : Int} (hb : I64 b) : Go.bits .and .i64 (-1) b = b := by
  show IntKind.i64.wrap (((BitVec.ofInt 64 (-1) &&& BitVec.ofInt 64 b).toNat : Nat) : Int) = b
  have e : BitVec.ofInt 64 (-1) = BitVec.allOnes 64 := by decide
  rw [e, BitVec.allOnes_and, BitVec.toNat_ofInt]
  simp only [IntKind.wrap, IntKind.bits, IntKind.signed, if_true]
  have := hb.1
  have := hb.2
  simp
  omega
theorem and_none (b : Int) : Go.bits .and .i64 0 b = 0 := by
  show IntKind.i64.wrap (((BitVec.ofInt 64 0 &&& BitVec.ofInt 64 b).toNat : Nat) : Int) = 0
  have e : BitVec.ofInt 64 0 = 0#64 := by decide
  rw [e, BitVec.zero_and]
  decide
theorem and1 {x : Int} (h0 : 0 ≤ x) (h1 : x < 18446744073709551616) : Go.bits .and .u64 x 1 = x % 2 := bits_mask .u64 64 (by decide) wraps_u64 1 (by decide) x h0 h1

theorem mul_bd {a b C D : Int} (ha : -C ≤ a) (ha' : a ≤ C) (hb : -D ≤ b) (hb' : b ≤ D) : -(C * D) ≤ a * b ∧ a * b ≤ C * D := by
  have e : (a * b).natAbs ≤ C.natAbs * D.natAbs := by
    rw [Int.natAbs_mul]
    exact Nat.mul_le_mul (by omega) (by omega)
  have f : C * D = ((C.natAbs * D.natAbs : Nat) : Int) := by
    rw [Int.natCast_mul, Int.natAbs_of_nonneg (by omega), Int.natAbs_of_nonneg (by omega)]
  rw [f]
  omega
theorem mul_i64 {a b : Int} (ha : I64 a) (hb : I64 b) : -85070591730234615865843651857942052864 ≤ a * b ∧ a * b ≤ 85070591730234615865843651857942052864 := by
  have := mul_bd (C := 9223372036854775808) (D := 9223372036854775808) (a := a) (b := b) (by have := ha.1; omega) (by have := ha.2; omega) (by have := hb.1; omega) (by have := hb.2; omega)
  omega

theorem mul {a b : Int} (ha : I64 a) (hb : I64 b) : wide_Mul.f a b = some (a * b / 18446744073709551616, a * b % 18446744073709551616) := by
  have hm := mul_i64 ha hb
  obtain ⟨a0, a1⟩ := ha
  obtain ⟨b0, b1⟩ := hb
  unfold wide_Mul.f
  rw [wu a, wu b, mul64 (by omega) (by omega) (by omega) (by omega)]
  simp only [Option.bind_some]
  by_cases ca : a < 0
  · rw [show a / 9223372036854775808 = -1 by omega, and_ones ⟨b0, b1⟩, show a % 18446744073709551616 = a + 18446744073709551616 by omega]
    by_cases cb : b < 0
    · rw [show b / 9223372036854775808 = -1 by omega, and_ones ⟨a0, a1⟩, show b % 18446744073709551616 = b + 18446744073709551616 by omega]
      have e : (a + 18446744073709551616) * (b + 18446744073709551616) = a * b + a * 18446744073709551616 + b * 18446744073709551616 + 18446744073709551616 * 18446744073709551616 := by grind
      rw [e]
      unfold wrap64
      generalize a * b = m at *
      congr 2 <;> omega
    · rw [show b / 9223372036854775808 = 0 by omega, and_none, show b % 18446744073709551616 = b by omega]
      have e : (a + 18446744073709551616) * b = a * b + b * 18446744073709551616 := by grind
      rw [e]
      unfold wrap64
      generalize a * b = m at *
      congr 2 <;> omega
  · rw [show a / 9223372036854775808 = 0 by omega, and_none, show a % 18446744073709551616 = a by omega]
    by_cases cb : b < 0
    · rw [show b / 9223372036854775808 = -1 by omega, and_ones ⟨a0, a1⟩, show b % 18446744073709551616 = b + 18446744073709551616 by omega]
      have e : a * (b + 18446744073709551616) = a * b + a * 18446744073709551616 := by grind
      rw [e]
      unfold wrap64
      generalize a * b = m at *
      congr 2 <;> omega
    · rw [show b / 9223372036854775808 = 0 by omega, and_none, show b % 18446744073709551616 = b by omega]
      unfold wrap64
      generalize a * b = m at *
      congr 2 <;> omega

theorem turned {hi lo : Int} (h : I64 hi) (l : U64 lo) : ∃ h' l', wide_turned.f hi lo = some (h', l') ∧ I64 h' ∧ U64 l' ∧
    (h' % 18446744073709551616) * 18446744073709551616 + l' = (-(hi * 18446744073709551616 + lo)) % 340282366920938463463374607431768211456 := by
  obtain ⟨h0, h1⟩ := h
  obtain ⟨l0, l1⟩ := l
  unfold wide_turned.f
  rw [if_pos l0, if_pos l1]
  refine ⟨_, _, rfl, ?_, ?_, ?_⟩
  · unfold wrap64
    omega
  · unfold XWalk.d64
    omega
  · unfold wrap64 XWalk.b64 XWalk.d64
    split <;> omega

/-- A quotient, or the error. -/
def mdiv (A b way : Int) : Int × Int :=
  if way < 0 ∨ way ≥ 2 then (0, 2) else if b = 0 then (0, 4) else if -9223372036854775808 ≤ rnd A b way ∧ rnd A b way ≤ 9223372036854775807 then (rnd A b way, 0) else (0, 3)

/-- what is told of a quotient without its sign -/
def toldQ (Q : Int) (less : Bool) : Int × Int := if less = true then (if Q ≤ 9223372036854775808 then (-Q, 0) else (0, 3)) else (if Q < 9223372036854775808 then (Q, 0) else (0, 3))

theorem j3_told {h l rest by_ : Int} {less : Bool} (h0 : 0 ≤ h) (l0 : 0 ≤ l) (l1 : l < 18446744073709551616) (k : Nat) : wide_Div.j3 (k + 2) h l rest by_ less = some (toldQ (h * 18446744073709551616 + l) less) := by
  simp only [wide_Div.j3]
  unfold toldQ
  by_cases c : h > 0
  · rw [if_pos c, if_neg (c := h * 18446744073709551616 + l ≤ _) (by omega), if_neg (c := h * 18446744073709551616 + l < _) (by omega)]
    simp
  · rw [if_neg c, show h * 18446744073709551616 + l = l by omega]
    cases less
    · simp only [wide_Div.j4, Bool.false_eq_true, if_false]
      split
      · rw [w64 (by omega) (by omega)]
      · rfl
    · simp only [wide_Div.j4, if_true]
      by_cases d : l ≤ 9223372036854775808
      · rw [decide_eq_true d, if_pos d]
        simp only [if_true]
        congr 2
        rw [wu]
        unfold wrap64
        omega
      · rw [decide_eq_false d, if_neg d]
        simp

theorem j5_told {h l rest by_ : Int} {less : Bool} (h0 : 0 ≤ h) (l0 : 0 ≤ l) (l1 : l < 18446744073709551616) (k : Nat) : wide_Div.j5 (k + 2) h l rest by_ less = some (toldQ (h * 18446744073709551616 + l) less) := by
  simp only [wide_Div.j5]
  unfold toldQ
  by_cases c : h > 0
  · rw [if_pos c, if_neg (c := h * 18446744073709551616 + l ≤ _) (by omega), if_neg (c := h * 18446744073709551616 + l < _) (by omega)]
    simp
  · rw [if_neg c, show h * 18446744073709551616 + l = l by omega]
    cases less
    · simp only [wide_Div.j6, Bool.false_eq_true, if_false]
      split
      · rw [w64 (by omega) (by omega)]
      · rfl
    · simp only [wide_Div.j6, if_true]
      by_cases d : l ≤ 9223372036854775808
      · rw [decide_eq_true d, if_pos d]
        simp only [if_true]
        congr 2
        rw [wu]
        unfold wrap64
        omega
      · rw [decide_eq_false d, if_neg d]
        simp

theorem near_told {q0 lo rest y : Int} {less : Bool} (r0 : 0 ≤ rest) (r1 : rest < y) (y1 : y < 18446744073709551616) (l0 : 0 ≤ lo) (l1 : lo < 18446744073709551616) :
    wide_quotient_near.f q0 lo rest y less = some (decide (2 * rest > y ∨ 2 * rest = y ∧ lo % 2 = 1)) := by
  unfold wide_quotient_near.f
  by_cases c : rest / 9223372036854775808 = 1
  · rw [if_pos c, decide_eq_true (by omega)]
  · rw [if_neg c, wu_id (n := rest * 2) (by omega) (by omega), and1 l0 l1]
    by_cases d : rest * 2 > y
    · rw [if_pos d, decide_eq_true (by omega)]
    · rw [if_neg d]
      by_cases e : rest * 2 = y
      · rw [if_pos e]
        congr 1
        rw [Bool.eq_iff_iff, beq_iff_eq, decide_eq_true_iff]
        omega
      · rw [if_neg e, decide_eq_false (by omega)]

/-- what is told of the sizes, by the law of sizes and signs -/
theorem told_rnd {A b way X y : Int} (hw : way = 0 ∨ way = 1) (hb : b ≠ 0) (hX : X = if A < 0 then -A else A) (hy : y = if b < 0 then -b else b) :
    toldQ (X / y + if upf way X y (decide (A < 0) != decide (b < 0)) = true then 1 else 0) (decide (A < 0) != decide (b < 0)) = mdiv A b way := by
  have this := rnd_sizes hw hb hX hy
  have hy0 : 0 < y := by subst hy; split <;> omega
  have hX0 : 0 ≤ X := by subst hX; split <;> omega
  have q0 : 0 ≤ X / y := Int.ediv_nonneg hX0 (by omega)
  unfold mdiv
  rw [if_neg (c := way < 0 ∨ way ≥ 2) (by omega), if_neg hb, this]
  generalize upf way X y (decide (A < 0) != decide (b < 0)) = up
  generalize (decide (A < 0) != decide (b < 0)) = less
  have p0 : 0 ≤ X / y + if up = true then (1 : Int) else 0 := by
    split <;> omega
  generalize (X / y + if up = true then (1 : Int) else 0) = Q at *
  unfold toldQ
  cases less
  · simp only [Bool.false_eq_true, if_false]
    by_cases c : Q < 9223372036854775808
    · rw [if_pos c, if_pos (by omega)]
    · rw [if_neg c, if_neg (by omega)]
  · simp only [if_true]
    by_cases c : Q ≤ 9223372036854775808
    · rw [if_pos c, if_pos (by omega)]
    · rw [if_neg c, if_neg (by omega)]

/-- the sum of a word and 1, with what goes over -/
theorem up_one {qh ql : Int} (h0 : 0 ≤ qh) (h1 : qh ≤ 9223372036854775808) (l0 : 0 ≤ ql) (l1 : ql < 18446744073709551616) :
    IntKind.u64.wrap (qh + XWalk.c64 ql 1 0) * 18446744073709551616 + XWalk.s64 ql 1 0 = qh * 18446744073709551616 + ql + 1 ∧ 0 ≤ IntKind.u64.wrap (qh + XWalk.c64 ql 1 0) ∧ 0 ≤ XWalk.s64 ql 1 0 ∧ XWalk.s64 ql 1 0 < 18446744073709551616 := by
  rw [wu]
  unfold XWalk.c64 XWalk.s64
  refine ⟨by omega, by omega, by omega, by omega⟩

theorem div {hi lo b way : Int} (h : I64 hi) (l : U64 lo) (hb : I64 b) {k : Nat} (hk : 30 ≤ k) : wide_Div.f k hi lo b way = some (mdiv (hi * 18446744073709551616 + lo) b way) := by
  obtain ⟨k, rfl⟩ : ∃ m, k = m + 30 := ⟨k - 30, by omega⟩
  unfold wide_Div.f
  by_cases c : way < 0 ∨ way ≥ 2
  · have e : mdiv (hi * 18446744073709551616 + lo) b way = (0, 2) := by unfold mdiv; rw [if_pos c]
    rw [e]
    by_cases c1 : way < 0
    · rw [if_pos c1]
      simp only [wide_Div.j0, if_true]
    · rw [if_neg c1, decide_eq_true (by omega)]
      simp only [wide_Div.j0, if_true]
  rw [if_neg (by omega), decide_eq_false (by omega)]
  simp only [wide_Div.j0, Bool.false_eq_true, if_false]
  by_cases cb : b = 0
  · rw [if_pos cb]
    unfold mdiv
    rw [if_neg c, if_pos cb]
  rw [if_neg cb]
  have hw : way = 0 ∨ way = 1 := by omega
  obtain ⟨h0, h1⟩ := h
  obtain ⟨l0, l1⟩ := l
  obtain ⟨b0, b1⟩ := hb
  have main : ∀ xh xl : Int, U64 xl → I64 xh → (xh % 18446744073709551616) * 18446744073709551616 + xl = (if hi * 18446744073709551616 + lo < 0 then -(hi * 18446744073709551616 + lo) else hi * 18446744073709551616 + lo) →
      wide_Div.j1 (k + 29) b way (IntKind.u64.wrap b) hi lo xh xl = some (mdiv (hi * 18446744073709551616 + lo) b way) := by
    intro xh xl ⟨xl0, xl1⟩ ⟨xh0, xh1⟩ hX
    have j2 : ∀ y : Int, y = (if b < 0 then -b else b) → wide_Div.j2 (k + 28) b way y hi lo xh xl = some (mdiv (hi * 18446744073709551616 + lo) b way) := by
      intro y hy
      have hy0 : 0 < y := by subst hy; split <;> omega
      have hy1 : y ≤ 9223372036854775808 := by subst hy; split <;> omega
      simp only [wide_Div.j2]
      rw [if_neg (by omega), wu xh, td_nn (by omega), tm_nn (by omega)]
      have x0 : 0 ≤ xh % 18446744073709551616 := by omega
      have x1 : xh % 18446744073709551616 ≤ 9223372036854775808 := by
        split at hX <;> omega
      generalize xh % 18446744073709551616 = X1 at *
      have a := Int.mul_ediv_add_emod X1 y
      have a0 := Int.emod_nonneg X1 (show y ≠ 0 by omega)
      have a1 := Int.emod_lt_of_pos X1 hy0
      have q0 : 0 ≤ X1 / y := Int.ediv_nonneg x0 (by omega)
      have q1 : X1 / y ≤ X1 := Int.ediv_le_self _ x0
      rw [div64 a0 a1 xl0 xl1 (by omega) (by omega)]
      simp only [Option.bind_some]
      generalize X1 / y = qh at *
      generalize X1 % y = rest at *
      have m := Int.mul_ediv_add_emod (rest * 18446744073709551616 + xl) y
      have m0 := Int.emod_nonneg (rest * 18446744073709551616 + xl) (show y ≠ 0 by omega)
      have m1 := Int.emod_lt_of_pos (rest * 18446744073709551616 + xl) hy0
      have p0 : 0 ≤ (rest * 18446744073709551616 + xl) / y := Int.ediv_nonneg (by omega) (by omega)
      have p1 : (rest * 18446744073709551616 + xl) / y < 18446744073709551616 := by
        rw [Int.ediv_lt_iff_lt_mul hy0, Int.mul_comm]
        omega
      generalize (rest * 18446744073709551616 + xl) / y = ql at *
      generalize (rest * 18446744073709551616 + xl) % y = rr at *
      have whole := Knuth.quot_uniq (A := X1 * 18446744073709551616 + xl) (b := y) (q := qh * 18446744073709551616 + ql) (r := rr) hy0 (by
        rw [Int.mul_add, ← Int.mul_assoc]
        generalize y * qh = u at *
        generalize y * ql = v at *
        omega) m0 m1
      have T := told_rnd (A := hi * 18446744073709551616 + lo) (b := b) (way := way) (X := X1 * 18446744073709551616 + xl) (y := y) hw cb hX hy
      unfold upf at T
      rw [whole.1, whole.2] at T
      have s : (!(decide (hi < 0) == decide (b < 0))) = (decide (hi * 18446744073709551616 + lo < 0) != decide (b < 0)) := by
        rw [show decide (hi < 0) = decide (hi * 18446744073709551616 + lo < 0) from decide_eq_decide.2 (by omega)]
        rfl
      rw [s, ← T]
      generalize (decide (hi * 18446744073709551616 + lo < 0) != decide (b < 0)) = less
      obtain ⟨u1, u2, u3, u4⟩ := up_one (qh := qh) (ql := ql) q0 (by omega) p0 p1
      rcases hw with rfl | rfl
      · simp only [if_true]
        have F : wide_quotient_floor.f (IntKind.u64.wrap qh) ql rr y less = some (less && decide (rr > 0)) := by
          unfold wide_quotient_floor.f
          cases less <;> simp
        rw [F]
        simp only [Option.bind_some]
        rw [wu_id (n := qh) q0 (by omega)]
        by_cases d : (less && decide (rr > 0)) = true
        · rw [if_pos d, if_pos d, if_pos p0]
          rw [j3_told u2 u3 u4, u1]
          first | done | rfl
        · rw [if_neg d, if_neg d]
          rw [j3_told q0 p0 p1]
          simp
      · simp only [show ((1 : Int) = 0) = False by simp, if_false, if_true]
        rw [near_told m0 m1 (by omega) p0 p1]
        simp only [Option.bind_some]
        rw [wu_id (n := qh) q0 (by omega)]
        have par : (qh * 18446744073709551616 + ql) % 2 = ql % 2 := by omega
        rw [par]
        by_cases d : (decide (2 * rr > y ∨ 2 * rr = y ∧ ql % 2 = 1)) = true
        · rw [if_pos d, if_pos d, if_pos p0]
          rw [j5_told u2 u3 u4, u1]
          first | done | rfl
        · rw [if_neg d, if_neg d]
          rw [j5_told q0 p0 p1]
          simp
    simp only [wide_Div.j1]
    by_cases d : b < 0
    · rw [if_pos d]
      refine j2 _ ?_
      rw [wu, wu, if_pos d]
      omega
    · rw [if_neg d]
      refine j2 _ ?_
      rw [wu, if_neg d]
      omega
  by_cases d : hi < 0
  · rw [if_pos d]
    obtain ⟨h', l', e, i1, i2, i3⟩ := turned ⟨h0, h1⟩ ⟨l0, l1⟩
    rw [e]
    simp only [Option.bind_some]
    refine main h' l' i2 i1 ?_
    rw [i3, if_pos (by omega)]
    omega
  · rw [if_neg d]
    refine main hi lo ⟨l0, l1⟩ ⟨h0, h1⟩ ?_
    rw [if_neg (by omega)]
    omega

theorem mulDiv {a b c way : Int} (ha : I64 a) (hb : I64 b) (hc : I64 c) {k : Nat} (hk : 30 ≤ k) : wide_MulDiv.f k a b c way = some (mdiv (a * b) c way) := by
  unfold wide_MulDiv.f
  rw [mul ha hb]
  have hm := mul_i64 ha hb
  simp only [Option.bind_some]
  rw [div ⟨by omega, by omega⟩ ⟨by omega, by omega⟩ hc hk]
  simp only [Option.bind_some]
  rw [show a * b / 18446744073709551616 * 18446744073709551616 + a * b % 18446744073709551616 = a * b by omega]
end Go.Proofs.Ytalnlphinlfenaa.XWide
end

section
namespace Go.Proofs.Ytalnlphinlfenaa.S
open Go.RowKit Go.Proofs.YtalnlphinlfenaaW.PrintWords Go.Proofs.YtalnlphinlfenaaW.PrintLast Go.Proofs.YtalnlphinlfenaaW.PrintMore
attribute [local go_sem] max2_int min2_int max_two min_two max_three min_three max_four min_four   -- for this text's walks alone
attribute [local go_sem] Go.Proofs.Ytalnlphinlfenaa.XWalk.cell2
set_option linter.unusedVariables false
set_option linter.unusedSimpArgs false

/-! ### money_May: function 54 -/
def money_May.f (a0 : Int) : Option (Bool) := if a0 ≥ (-10000000000000) then (some (decide (a0 ≤ 10000000000000))) else (some false)
end Go.Proofs.Ytalnlphinlfenaa.S
end

section
namespace Go.Proofs.Ytalnlphinlfenaa.XMoney
set_option linter.unusedVariables false
set_option linter.unusedSimpArgs false
open Go.RowKit Go.Proofs.Ytalnlphinlfenaa.S Go.Proofs.Ytalnlphinlfenaa.XNum Go.Proofs.Ytalnlphinlfenaa.XBits Go.Proofs.Ytalnlphinlfenaa.XWide Go.Proofs.YtalnlphinlfenaaW.PrintWords

/-- A number, or that it is too great. -/
def told (n : Int) : Int × Int := if -9223372036854775808 ≤ n ∧ n ≤ 9223372036854775807 then (n, 0) else (0, 3)
theorem told_in {n : Int} (h0 : -9223372036854775808 ≤ n) (h1 : n ≤ 9223372036854775807) : told n = (n, 0) := by unfold told; rw [if_pos ⟨h0, h1⟩]
theorem told_out {n : Int} (h : n < -9223372036854775808 ∨ 9223372036854775807 < n) : told n = (0, 3) := by unfold told; rw [if_neg (by omega)]
theorem told_f (n : Int) (b : Bool) : money_told.f n b = some (if b = true then (n, 0) else (0, 3)) := by
  unfold money_told.f
  cases b <;> simp

theorem add {a b : Int} (ha : I64 a) (hb : I64 b) : money_Add.f a b = some (told (a + b)) := by
  obtain ⟨a0, a1⟩ := ha
  obtain ⟨b0, b1⟩ := hb
  unfold money_Add.f money_sum_int64.f
  by_cases ca : a < 0
  · by_cases cb : b < 0
    · rw [decide_eq_true ca, decide_eq_true cb]
      simp only [beq_self_eq_true, Bool.not_true, Bool.false_eq_true, if_false, Option.bind_some, told_f]
      by_cases c : a + b < -9223372036854775808
      · rw [told_out (.inl c), decide_eq_false (by unfold wrap64; omega)]
        simp
      · rw [told_in (by omega) (by omega), w64 (by omega) (by omega), decide_eq_true (by omega)]
        simp
    · rw [decide_eq_true ca, decide_eq_false cb, told_in (by omega) (by omega), w64 (by omega) (by omega)]
      simp [told_f]
  · by_cases cb : b < 0
    · rw [decide_eq_false ca, decide_eq_true cb, told_in (by omega) (by omega), w64 (by omega) (by omega)]
      simp [told_f]
    · rw [decide_eq_false ca, decide_eq_false cb]
      simp only [beq_self_eq_true, Bool.not_true, Bool.false_eq_true, if_false, Option.bind_some, told_f]
      by_cases c : a + b > 9223372036854775807
      · rw [told_out (.inr c), decide_eq_true (by unfold wrap64; omega)]
        simp
      · rw [told_in (by omega) (by omega), w64 (by omega) (by omega), decide_eq_false (by omega)]
        simp

theorem sub {a b : Int} (ha : I64 a) (hb : I64 b) : money_Sub.f a b = some (told (a - b)) := by
  obtain ⟨a0, a1⟩ := ha
  obtain ⟨b0, b1⟩ := hb
  unfold money_Sub.f
  by_cases ca : a < 0
  · by_cases cb : b < 0
    · rw [decide_eq_true ca, decide_eq_true cb, told_in (by omega) (by omega), w64 (by omega) (by omega)]
      simp [told_f]
    · rw [decide_eq_true ca, decide_eq_false cb]
      simp only [beq_false, Bool.not_true, Bool.false_eq_true, if_false, Option.bind_some, told_f]
      by_cases c : a - b < -9223372036854775808
      · rw [told_out (.inl c), decide_eq_false (by unfold wrap64; omega)]
        simp
      · rw [told_in (by omega) (by omega), w64 (by omega) (by omega), decide_eq_true (by omega)]
        simp
  · by_cases cb : b < 0
    · rw [decide_eq_false ca, decide_eq_true cb]
      simp only [beq_true, Bool.false_eq_true, if_false, Option.bind_some, told_f]
      by_cases c : a - b > 9223372036854775807
      · rw [told_out (.inr c), decide_eq_true (by unfold wrap64; omega)]
        simp
      · rw [told_in (by omega) (by omega), w64 (by omega) (by omega), decide_eq_false (by omega)]
        simp
    · rw [decide_eq_false ca, decide_eq_false cb, told_in (by omega) (by omega), w64 (by omega) (by omega)]
      simp [told_f]

theorem may (n : Int) : money_May.f n = some (decide (-10000000000000 ≤ n ∧ n ≤ 10000000000000)) := by
  unfold money_May.f
  split
  · congr 1
    rw [decide_eq_decide]
    omega
  · rw [decide_eq_false (by omega)]
end Go.Proofs.Ytalnlphinlfenaa.XMoney
end

section
namespace Go.Proofs.Ytalnlphinlfenaa.XMdiv
set_option linter.unusedVariables false
set_option linter.unusedSimpArgs false
open Go.RowKit Go.Proofs.Ytalnlphinlfenaa.S Go.Proofs.Ytalnlphinlfenaa.XNum Go.Proofs.Ytalnlphinlfenaa.XBits Go.Proofs.Ytalnlphinlfenaa.XWide Go.Proofs.Ytalnlphinlfenaa.Rnd Go.Proofs.YtalnlphinlfenaaW.PrintWords

theorem mdiv_i64 (A b way : Int) : I64 (mdiv A b way).1 := by
  unfold mdiv
  split
  · exact ⟨by decide, by decide⟩
  · split
    · exact ⟨by decide, by decide⟩
    · split
      · assumption
      · exact ⟨by decide, by decide⟩
end Go.Proofs.Ytalnlphinlfenaa.XMdiv
end

section
namespace Go.Proofs.Ytalnlphinlfenaa.S
open Go.RowKit Go.Proofs.YtalnlphinlfenaaW.PrintWords Go.Proofs.YtalnlphinlfenaaW.PrintLast Go.Proofs.YtalnlphinlfenaaW.PrintMore
attribute [local go_sem] max2_int min2_int max_two min_two max_three min_three max_four min_four   -- for this text's walks alone
attribute [local go_sem] Go.Proofs.Ytalnlphinlfenaa.XWalk.cell2
set_option linter.unusedVariables false
set_option linter.unusedSimpArgs false

/-! ### rate_back_terms: function 99 -/
def rate_back_terms.f (a0 : Int) : Option (Int × Int) := some (1000000000000, wrap64 (1000000000000 + a0))
end Go.Proofs.Ytalnlphinlfenaa.S
end

section
namespace Go.Proofs.Ytalnlphinlfenaa.S
open Go.RowKit Go.Proofs.YtalnlphinlfenaaW.PrintWords Go.Proofs.YtalnlphinlfenaaW.PrintLast Go.Proofs.YtalnlphinlfenaaW.PrintMore
attribute [local go_sem] max2_int min2_int max_two min_two max_three min_three max_four min_four   -- for this text's walks alone
attribute [local go_sem] Go.Proofs.Ytalnlphinlfenaa.XWalk.cell2
set_option linter.unusedVariables false
set_option linter.unusedSimpArgs false

/-! ### rate_over_rate_back: function 40 -/
def rate_over_rate_back.f (k : Nat) (a0 : Int) (a1 : Int) : Option (Int × Int) := (rate_May.f a1).bind fun t290 => (if t290 = true then ((rate_back_terms.f a1).bind fun bt291 => ((wide_MulDiv.f k a0 bt291.1 bt291.2 1).bind fun bt293 => (some (bt293.1, bt293.2)))) else (some (0, 2)))
end Go.Proofs.Ytalnlphinlfenaa.S
end

section
namespace Go.Proofs.Ytalnlphinlfenaa.S
open Go.RowKit Go.Proofs.YtalnlphinlfenaaW.PrintWords Go.Proofs.YtalnlphinlfenaaW.PrintLast Go.Proofs.YtalnlphinlfenaaW.PrintMore
attribute [local go_sem] max2_int min2_int max_two min_two max_three min_three max_four min_four   -- for this text's walks alone
attribute [local go_sem] Go.Proofs.Ytalnlphinlfenaa.XWalk.cell2
set_option linter.unusedVariables false
set_option linter.unusedSimpArgs false

/-! ### rate_Discount: function 19 -/
def rate_Discount.f (k : Nat) (a0 : Int) (a1 : Int) : Option (Int × Int) := (rate_over_rate_back.f k a0 a1).bind fun bt295 => (some (bt295.1, bt295.2))
end Go.Proofs.Ytalnlphinlfenaa.S
end

section
namespace Go.Proofs.Ytalnlphinlfenaa.XRate
set_option linter.unusedVariables false
set_option linter.unusedSimpArgs false
open Go.RowKit Go.Proofs.Ytalnlphinlfenaa.S Go.Proofs.Ytalnlphinlfenaa.XNum Go.Proofs.Ytalnlphinlfenaa.XBits Go.Proofs.Ytalnlphinlfenaa.XWide Go.Proofs.Ytalnlphinlfenaa.Rnd Go.Proofs.Ytalnlphinlfenaa.XMdiv Go.Proofs.YtalnlphinlfenaaW.PrintWords

/-- may a rate be? -/
def mayR (r : Int) : Prop := -990000000000 ≤ r ∧ r ≤ 10000000000000
instance (r : Int) : Decidable (mayR r) := inferInstanceAs (Decidable (_ ∧ _))
theorem may (r : Int) : rate_May.f r = some (decide (mayR r)) := by
  unfold rate_May.f
  by_cases c : mayR r
  · rw [decide_eq_true c]
    unfold mayR at c
    rw [if_pos (by omega), decide_eq_true (by omega)]
  · rw [decide_eq_false c]
    unfold mayR at c
    by_cases d : r ≥ -990000000000
    · rw [if_pos d, decide_eq_false (by omega)]
    · rw [if_neg d]

def interest (x r : Int) : Int × Int := if mayR r then mdiv (x * r) 1000000000000 1 else (0, 2)
def grow (x r : Int) : Int × Int := if mayR r then mdiv (x * (1000000000000 + r)) 1000000000000 1 else (0, 2)
def discount (x r : Int) : Int × Int := if mayR r then mdiv (x * 1000000000000) (1000000000000 + r) 1 else (0, 2)

theorem interest_f {x r : Int} (hx : I64 x) {k : Nat} (hk : 30 ≤ k) : rate_Interest.f k x r = some (interest x r) := by
  unfold rate_Interest.f rate_over_rate_yield.f rate_yield_terms.f
  rw [may]
  simp only [Option.bind_some]
  unfold interest
  by_cases c : mayR r
  · rw [decide_eq_true c, if_pos c]
    simp only [if_true]
    unfold mayR at c
    rw [mulDiv hx ⟨by omega, by omega⟩ ⟨by omega, by omega⟩ hk]
    simp only [Option.bind_some]
  · rw [decide_eq_false c, if_neg c]
    simp
theorem interest_i64 (x r : Int) : I64 (interest x r).1 := by
  unfold interest
  split
  · exact mdiv_i64 _ _ _
  · exact ⟨by omega, by omega⟩

/-- a part of a rate -/
def part (r o all : Int) : Int × Int := if o < 0 ∨ all ≤ 0 then (0, 2) else mdiv (r * o) all 1
/-- what an amount grows to in n periods, or the first error -/
def powers (r : Int) : Nat → Int × Int
  | 0 => (1000000000000, 0)
  | n + 1 => if (powers r n).2 = 0 then grow (powers r n).1 r else powers r n
def power (r n : Int) : Int × Int := if mayR r ∧ 0 ≤ n ∧ n ≤ 600 then powers r n.toNat else (0, 2)
end Go.Proofs.Ytalnlphinlfenaa.XRate
end

section
namespace Go.Proofs.Ytalnlphinlfenaa.XRef02
set_option linter.unusedVariables false
set_option linter.unusedSimpArgs false
open Go.RowKit Go.Proofs.Ytalnlphinlfenaa.S Go.Proofs.Ytalnlphinlfenaa.XNum Go.Proofs.Ytalnlphinlfenaa.XWide Go.Proofs.Ytalnlphinlfenaa.Rnd Go.Proofs.YtalnlphinlfenaaW.PrintWords

theorem up_eq (way : Int) (L : Bool) (N D : Nat) : lombardref02_div.up way L N D = upf way N D L := by
  have e1 : ((N % D : Nat) : Int) = (N : Int) % D := Int.natCast_emod N D
  have e2 : ((N / D : Nat) : Int) = (N : Int) / D := Int.natCast_ediv N D
  unfold lombardref02_div.up upf
  rw [← e1, ← e2]
  by_cases c : way = 0
  · rw [if_pos c, if_pos c]
    congr 1
    exact decide_eq_decide.2 (by omega)
  · rw [if_neg c, if_neg c, Bool.eq_iff_iff]
    simp only [Bool.or_eq_true, Bool.and_eq_true, decide_eq_true_iff]
    omega
theorem Q_eq (way : Int) (L : Bool) (N D : Nat) : ((lombardref02_div.Q way L N D : Nat) : Int) = (N : Int) / D + if upf way N D L = true then 1 else 0 := by
  have e2 : ((N / D : Nat) : Int) = (N : Int) / D := Int.natCast_ediv N D
  unfold lombardref02_div.Q
  rw [up_eq, ← e2]
  split <;> omega
theorem told (way : Int) (L : Bool) (N D : Nat) : (lombardref02_div.r way L N D, lombardref02_div.e way L N D) = toldQ ((lombardref02_div.Q way L N D : Nat) : Int) L := by
  have e : (2 : Nat) ^ 63 = 9223372036854775808 := by decide
  unfold lombardref02_div.r lombardref02_div.e lombardref02_small.v lombardref02_small.ok toldQ
  rw [e]
  generalize lombardref02_div.Q way L N D = Q
  cases L
  · by_cases c : Q < 9223372036854775808
    · have z : ¬(9223372036854775808 < Q ∨ Q = 9223372036854775808 ∧ false = false) := by
        intro h
        rcases h with h | h <;> omega
      rw [if_neg z, if_neg z, if_pos rfl, if_pos rfl, if_neg (by simp), if_neg (by simp), if_pos (by omega)]
    · have z : 9223372036854775808 < Q ∨ Q = 9223372036854775808 ∧ false = false := by
        by_cases d : Q = 9223372036854775808
        · exact .inr ⟨d, rfl⟩
        · exact .inl (by omega)
      rw [if_pos z, if_neg (by simp), if_neg (by simp), if_neg (by simp), if_neg (by omega)]
  · by_cases c : Q ≤ 9223372036854775808
    · have z : ¬(9223372036854775808 < Q ∨ Q = 9223372036854775808 ∧ true = false) := by
        intro h
        rcases h with h | h
        · omega
        · exact absurd h.2 (by simp)
      rw [if_neg z, if_neg z, if_pos rfl, if_pos rfl, if_pos rfl, if_pos rfl, if_pos (by omega)]
    · have z : 9223372036854775808 < Q ∨ Q = 9223372036854775808 ∧ true = false := .inl (by omega)
      rw [if_pos z, if_neg (by simp), if_neg (by simp), if_pos rfl, if_neg (by omega)]
theorem zero {way y : Int} (hy : 0 < y) (L : Bool) : toldQ (0 / y + if upf way 0 y L = true then 1 else 0) L = (0, 0) := by
  have u : upf way 0 y L = false := by
    unfold upf
    rw [Int.zero_emod, Int.zero_ediv]
    split
    · simp
    · exact decide_eq_false (by omega)
  rw [u, Int.zero_ediv]
  unfold toldQ
  cases L <;> simp
theorem v_eq {less : Bool} {N : Nat} {b way : Int} : lombardref02_div.v less N b way = mdiv (if less = true then -(N : Int) else N) b way := by
  unfold lombardref02_div.v
  by_cases c : way ≠ 0 ∧ way ≠ 1
  · rw [if_pos c]
    unfold mdiv
    rw [if_pos (by omega)]
  · rw [if_neg c]
    by_cases z : b = 0
    · rw [if_pos z]
      unfold mdiv
      rw [if_neg (by omega), if_pos z]
    · rw [if_neg z, told, Q_eq]
      have hw : way = 0 ∨ way = 1 := by omega
      have hy : ((b.natAbs : Nat) : Int) = if b < 0 then -b else b := by split <;> omega
      have y0 : (0 : Int) < (b.natAbs : Nat) := by omega
      by_cases n0 : N = 0
      · subst n0
        have t := told_rnd (A := 0) (b := b) (way := way) (X := 0) (y := (b.natAbs : Nat)) hw z (by simp) hy
        rw [zero y0] at t
        have w : (if less = true then -((0 : Nat) : Int) else ((0 : Nat) : Int)) = 0 := by split <;> rfl
        rw [w, ← t]
        exact zero y0 _
      · have A0 : decide ((if less = true then -(N : Int) else (N : Int)) < 0) = less := by
          cases less
          · rw [if_neg (by simp)]
            exact decide_eq_false (by omega)
          · rw [if_pos rfl]
            exact decide_eq_true (by omega)
        have t := told_rnd (A := if less = true then -(N : Int) else (N : Int)) (b := b) (way := way) (X := N) (y := (b.natAbs : Nat)) hw z (by
          cases less
          · rw [if_neg (c := false = true) (by simp), if_neg (by omega)]
          · rw [if_pos (c := true = true) rfl, if_pos (by omega), Int.neg_neg]) hy
        rw [A0] at t
        exact t
theorem mulDiv {a b c way : Int} (ha : I64 a) (hb : I64 b) (hc : I64 c) : lombardref02_MulDiv.f a b c way = some (mdiv (a * b) c way) := by
  unfold lombardref02_MulDiv.f
  rw [if_pos ⟨ha.1, ha.2, hb.1, hb.2, hc.1, hc.2⟩, v_eq]
  congr 2
  have h1 : ((a.natAbs : Nat) : Int) = if a < 0 then -a else a := by split <;> omega
  have h2 : ((b.natAbs : Nat) : Int) = if b < 0 then -b else b := by split <;> omega
  rw [Int.natCast_mul, h1, h2]
  by_cases x : a < 0 <;> by_cases y : b < 0 <;> simp [x, y, Int.neg_mul, Int.mul_neg]
end Go.Proofs.Ytalnlphinlfenaa.XRef02
end

section
namespace Go.Proofs.Ytalnlphinlfenaa.XRefRate
set_option linter.unusedVariables false
set_option linter.unusedSimpArgs false
open Go.RowKit Go.Proofs.Ytalnlphinlfenaa.S Go.Proofs.Ytalnlphinlfenaa.XNum Go.Proofs.Ytalnlphinlfenaa.XBits Go.Proofs.Ytalnlphinlfenaa.XWide Go.Proofs.Ytalnlphinlfenaa.Rnd Go.Proofs.Ytalnlphinlfenaa.XMdiv Go.Proofs.Ytalnlphinlfenaa.XRate Go.Proofs.YtalnlphinlfenaaW.PrintWords

end Go.Proofs.Ytalnlphinlfenaa.XRefRate
end

section
namespace Go.Proofs.Ytalnlphinlfenaa.XTable
set_option linter.unusedVariables false
set_option linter.unusedSimpArgs false
open Go.RowKit Go.Proofs.Ytalnlphinlfenaa.S Go.Proofs.Ytalnlphinlfenaa.XNum Go.Proofs.Ytalnlphinlfenaa.XWide Go.Proofs.Ytalnlphinlfenaa.Rnd Go.Proofs.Ytalnlphinlfenaa.XMdiv Go.Proofs.Ytalnlphinlfenaa.XRate Go.Proofs.Ytalnlphinlfenaa.XMoney Go.Proofs.YtalnlphinlfenaaW.PrintWords Go.Proofs.YtalnlphinlfenaaW.PrintLast Go.Proofs.YtalnlphinlfenaaW.PrintMore

abbrev Big (n : Int) : Prop := -4611686018427387904 ≤ n ∧ n ≤ 4611686018427387904
abbrev okc (o i p : Int) : Prop := I64 (o + i) ∧ Big (o + i - p)
theorem within64 (n lo hi : Int) : table_within_int64.f n lo hi = some (decide (lo ≤ n ∧ n ≤ hi)) := by
  unfold table_within_int64.f
  by_cases c : n ≥ lo
  · rw [if_pos c]
    simp [show lo ≤ n from c]
  · rw [if_neg c]
    simp [show ¬ lo ≤ n from c]
theorem withinI (n lo hi : Int) : table_within_int.f n lo hi = some (decide (lo ≤ n ∧ n ≤ hi)) := by
  unfold table_within_int.f
  by_cases c : n ≥ lo
  · rw [if_pos c]
    simp [show lo ≤ n from c]
  · rw [if_neg c]
    simp [show ¬ lo ≤ n from c]
theorem told_pos {n : Int} (h : I64 n) : told n = (n, 0) := told_in h.1 h.2
theorem told_no {n : Int} (h : ¬ I64 n) : told n = (0, 3) := by unfold told; rw [if_neg h]
/-- what a row closes with -/
theorem close_ok {o i p : Int} (ho : I64 o) (hi : I64 i) (hp : I64 p) (h : okc o i p) : table_Row_close.f o i p 0 = some (o + i - p, 0) := by
  unfold table_Row_close.f
  rw [add ho hi, told_pos h.1]
  simp only [Option.bind_some, if_true]
  rw [sub h.1 hp, told_pos (by have := h.2; constructor <;> omega)]
  simp only [Option.bind_some, if_true]
  rw [within64, decide_eq_true h.2]
  rfl
theorem close_no {o i p : Int} (ho : I64 o) (hi : I64 i) (hp : I64 p) (h : ¬ okc o i p) : ∃ v, table_Row_close.f o i p 0 = some (v, 3) := by
  unfold table_Row_close.f
  rw [add ho hi]
  by_cases c : I64 (o + i)
  · rw [told_pos c]
    simp only [Option.bind_some, if_true]
    rw [sub c hp]
    by_cases d : I64 (o + i - p)
    · rw [told_pos d]
      simp only [Option.bind_some, if_true]
      rw [within64, decide_eq_false (fun q => h ⟨c, q⟩)]
      exact ⟨_, rfl⟩
    · rw [told_no d]
      exact ⟨_, rfl⟩
  · rw [told_no c]
    exact ⟨_, rfl⟩
/-- A loan's way from what is open: its rows, or none and the error. -/
def roll (r : Int) : Int → List Int → List S37 × Int
  | _, [] => ([], 0)
  | o, x :: xs =>
    if xs = [] then ([⟨o, x - o, x, 0⟩], 0) else if (interest o r).2 = 0 then
      (if okc o (interest o r).1 x then (if (roll r (o + (interest o r).1 - x) xs).2 = 0 then (⟨o, (interest o r).1, x, o + (interest o r).1 - x⟩ :: (roll r (o + (interest o r).1 - x) xs).1, 0) else ([], (roll r (o + (interest o r).1 - x) xs).2)) else ([], 3))
    else ([], (interest o r).2)
theorem roll_err (r : Int) : ∀ (l : List Int) (o : Int), (roll r o l).2 ≠ 0 → (roll r o l).1 = [] := by
  intro l
  cases l with
  | nil => intro o h; exact absurd rfl h
  | cons x xs =>
    intro o h
    unfold roll at h ⊢
    split at h
    · exact absurd rfl h
    · rename_i c0
      rw [if_neg c0]
      split at h
      · rename_i c1
        rw [if_pos c1]
        split at h
        · rename_i c2
          rw [if_pos c2]
          split at h
          · exact absurd rfl h
          · rename_i c3
            rw [if_neg c3]
        · rename_i c2
          rw [if_neg c2]
      · rename_i c1
        rw [if_neg c1]
theorem roll_len (r : Int) : ∀ (l : List Int) (o : Int), (roll r o l).2 = 0 → (roll r o l).1.length = l.length := by
  intro l
  induction l with
  | nil => intro o _; rfl
  | cons x xs ih =>
    intro o h
    unfold roll at h ⊢
    by_cases c0 : xs = []
    · rw [if_pos c0]
      subst c0
      rfl
    · rw [if_neg c0] at h ⊢
      by_cases c1 : (interest o r).2 = 0
      · rw [if_pos c1] at h ⊢
        by_cases c2 : okc o (interest o r).1 x
        · rw [if_pos c2] at h ⊢
          by_cases c3 : (roll r (o + (interest o r).1 - x) xs).2 = 0
          · rw [if_pos c3]
            simp only [List.length_cons, ih _ c3]
          · rw [if_neg c3] at h
            exact absurd h c3
        · rw [if_neg c2] at h
          exact absurd h (by decide)
      · rw [if_neg c1] at h
        exact absurd h c1
abbrev Amt (x : Int) : Prop := 0 ≤ x ∧ x ≤ 10000000000000
theorem rd_drop {l : List Int} {i : Nat} {x : Int} {xs : List Int} (h : l.drop i = x :: xs) : i < l.length ∧ rd l (i : Int) = x ∧ l.drop (i + 1) = xs := by
  have hi : i < l.length := by
    rcases Nat.lt_or_ge i l.length with c | c
    · exact c
    · rw [List.drop_eq_nil_of_le c] at h
      cases h
  rw [List.drop_eq_getElem_cons hi] at h
  have h1 := (List.cons.inj h).1
  have h2 := (List.cons.inj h).2
  refine ⟨hi, ?_, h2⟩
  rw [← h1]
  unfold rd
  simp [hi]

theorem scan_l0 {l : List Int} {r : Int} (hl : ∀ x ∈ l, Amt x) (hn : l.length ≤ 700) : ∀ (xs : List Int) (i : Nat) (acc : List S37) (o a b c : Int) (k : Nat), l.drop i = xs → acc.length ≤ i → Big o → xs.length + 40 ≤ k →
    table_scan_int64_table_Row__table_Roll_1.l0 k acc l l.length i l r a b c o = some (if (roll r o xs).2 = 0 then (acc ++ (roll r o xs).1, 0) else ([], (roll r o xs).2)) := by
  intro xs
  induction xs with
  | nil =>
    intro i acc o a b c k hd _ _ hk
    obtain ⟨k, rfl⟩ : ∃ m, k = m + 1 := ⟨k - 1, by omega⟩
    have hi : l.length ≤ i := List.drop_eq_nil_iff.mp hd
    simp only [table_scan_int64_table_Row__table_Roll_1.l0]
    rw [if_neg (by omega)]
    simp [roll]
  | cons x xs ih =>
    intro i acc o a b c k hd ha ho hk
    obtain ⟨k, rfl⟩ : ∃ m, k = m + 1 := ⟨k - 1, by omega⟩
    obtain ⟨hi, hx, hd'⟩ := rd_drop hd
    have hxl : x ∈ l := by
      have : x ∈ l.drop i := by rw [hd]; exact List.mem_cons_self ..
      exact List.mem_of_mem_drop this
    have hxa := hl x hxl
    have io : I64 o := by constructor <;> omega
    have ix : I64 x := by constructor <;> omega
    have ln : xs = [] ↔ i = l.length - 1 := by
      rw [← hd', List.drop_eq_nil_iff]
      omega
    simp only [table_scan_int64_table_Row__table_Roll_1.l0, table_Roll_1.f]
    rw [if_pos (by omega), if_pos (by omega), if_pos (by omega), hx, w64 (n := (l.length : Int) - 1) (by omega) (by omega), w64 (n := (i : Int) + 1) (by omega) (by omega)]
    unfold roll
    by_cases c0 : xs = []
    · have e := ln.mp c0
      rw [if_pos (by omega), if_pos c0]
      simp only [Option.bind_some, if_true]
      rw [if_pos (by omega), w64 (n := x - o) (by omega) (by omega), show (i : Int) + 1 = ((i + 1 : Nat) : Int) by omega, ih (i + 1) _ _ _ _ _ k hd' (by simp; omega) (by constructor <;> omega) (by simp at hk; omega)]
      subst c0
      simp [roll]
    · have e : ¬ i = l.length - 1 := fun h => c0 (ln.mpr h)
      rw [if_neg (by omega), if_neg c0, interest_f io (by omega)]
      simp only [Option.bind_some]
      by_cases c1 : (interest o r).2 = 0
      · rw [if_pos c1, if_pos c1]
        have ii := interest_i64 o r
        by_cases c2 : okc o (interest o r).1 x
        · rw [close_ok io ii ix c2, if_pos c2]
          simp only [Option.bind_some, if_true]
          rw [if_pos (by omega), show (i : Int) + 1 = ((i + 1 : Nat) : Int) by omega, ih (i + 1) _ _ _ _ _ k hd' (by simp; omega) c2.2 (by simp at hk; omega)]
          by_cases c3 : (roll r (o + (interest o r).1 - x) xs).2 = 0
          · rw [if_pos c3, if_pos c3]
            simp
          · rw [if_neg c3, if_neg c3, if_neg c3]
        · obtain ⟨v, hv⟩ := close_no io ii ix c2
          rw [hv, if_neg c2]
          rfl
      · rw [if_neg c1, if_neg c1]
        simp only [Option.bind_some]
        rw [if_neg c1, if_neg c1]

theorem check_l0 {o r : Int} {l : List Int} (hn : l.length ≤ 700) : ∀ (xs : List Int) (i : Nat) (k : Nat), l.drop i = xs → xs.length + 1 ≤ k →
    table_Roll.l0 k o l l.length i l r = if ∀ x ∈ xs, Amt x then (table_scan_int64_table_Row__table_Roll_1.f (k - xs.length - 1) l 0 0 0 o l r).bind fun b => some (b.1, b.2) else some ([], 2) := by
  intro xs
  induction xs with
  | nil =>
    intro i k hd hk
    obtain ⟨k, rfl⟩ : ∃ m, k = m + 1 := ⟨k - 1, by omega⟩
    have hi : l.length ≤ i := List.drop_eq_nil_iff.mp hd
    simp only [table_Roll.l0]
    rw [if_neg (by omega), if_pos (by simp)]
    rfl
  | cons x xs ih =>
    intro i k hd hk
    obtain ⟨k, rfl⟩ : ∃ m, k = m + 1 := ⟨k - 1, by omega⟩
    obtain ⟨hi, hx, hd'⟩ := rd_drop hd
    simp only [table_Roll.l0]
    rw [if_pos (by omega), if_pos (by omega), if_pos (by omega), hx, within64, Option.bind_some, w64 (n := (i : Int) + 1) (by omega) (by omega)]
    by_cases c : Amt x
    · rw [decide_eq_true c, if_pos rfl, show (i : Int) + 1 = ((i + 1 : Nat) : Int) by omega, ih (i + 1) k hd' (by simp at hk; omega)]
      by_cases d : ∀ y ∈ xs, Amt y
      · rw [if_pos d, if_pos (List.forall_mem_cons.mpr ⟨c, d⟩)]
        rw [show k + 1 - (x :: xs).length - 1 = k - xs.length - 1 by simp]
      · rw [if_neg d, if_neg (fun h => d (List.forall_mem_cons.mp h).2)]
    · rw [decide_eq_false c, if_neg (by simp), if_neg (fun h => c (h x (List.mem_cons_self ..)))]

def valid (o : Int) (l : List Int) (r : Int) : Prop := (1 ≤ l.length ∧ l.length ≤ 600) ∧ (1 ≤ o ∧ o ≤ 10000000000000) ∧ mayR r ∧ ∀ x ∈ l, Amt x
instance (o : Int) (l : List Int) (r : Int) : Decidable (valid o l r) := inferInstanceAs (Decidable (_ ∧ _ ∧ _ ∧ _))
def tab (o : Int) (l : List Int) (r : Int) : List S37 × Int := if valid o l r then roll r o l else ([], 2)
theorem roll_f {o r : Int} {l : List Int} (hn : l.length ≤ 700) {k : Nat} (hk : 2 * l.length + 100 ≤ k) : table_Roll.f k o l r = some (tab o l r) := by
  unfold table_Roll.f tab
  rw [withinI, Option.bind_some]
  obtain ⟨k, rfl⟩ : ∃ m, k = m + 1 := ⟨k - 1, by omega⟩
  by_cases c1 : 1 ≤ l.length ∧ l.length ≤ 600
  · rw [decide_eq_true (by omega), if_pos rfl, within64, Option.bind_some]
    by_cases c2 : 1 ≤ o ∧ o ≤ 10000000000000
    · rw [decide_eq_true c2, if_pos rfl, XRate.may, Option.bind_some]
      by_cases c3 : mayR r
      · rw [decide_eq_true c3]
        simp only [Bool.not_true, table_Roll.j0, Bool.false_eq_true, if_false]
        rw [show (0 : Int) = ((0 : Nat) : Int) from rfl, check_l0 hn l 0 k rfl (by omega)]
        by_cases c4 : ∀ x ∈ l, Amt x
        · rw [if_pos c4, if_pos ⟨c1, c2, c3, c4⟩]
          unfold table_scan_int64_table_Row__table_Roll_1.f
          rw [show (0 : Int) = ((0 : Nat) : Int) from rfl, scan_l0 c4 hn l 0 [] o _ _ _ _ rfl (by simp) (by constructor <;> omega) (by omega), Option.bind_some]
          by_cases c5 : (roll r o l).2 = 0
          · rw [if_pos c5, List.nil_append, ← c5]
          · rw [if_neg c5]
            show some (([] : List S37), (roll r o l).2) = _
            rw [← roll_err r l o c5]
        · rw [if_neg c4, if_neg (fun h => c4 h.2.2.2)]
      · rw [decide_eq_false c3, if_neg (fun h => c3 h.2.2.1)]
        rfl
    · rw [decide_eq_false c2, if_neg (by simp), if_neg (fun h => c2 h.2.1)]
      rfl
  · rw [decide_eq_false (by omega), if_neg (by simp), if_neg (fun h => c1 h.1)]
    rfl

-- ------------------------------------------------ the document's
def conv (x : S37) : S59 := ⟨x.f0, x.f1, x.f2, x.f3⟩
-- ------------------------------------------------ rows, from one to the other; the same rows
theorem rd37 {l : List S37} {i : Nat} (h : i < l.length) : rd_T37 l (i : Int) = l[i] := by
  unfold rd_T37
  simp [h]
theorem from_l0 {l : List S37} (hn : l.length ≤ 1000) : ∀ (d i : Nat) (acc : List S59) (k : Nat), i + d = l.length → acc.length ≤ i → d + 1 ≤ k → lombardlaw11_from.l0 k acc l l.length i = some (acc ++ (l.drop i).map conv) := by
  intro d
  induction d with
  | zero =>
    intro i acc k hi _ hk
    obtain ⟨k, rfl⟩ : ∃ m, k = m + 1 := ⟨k - 1, by omega⟩
    simp only [lombardlaw11_from.l0]
    rw [if_neg (by omega), List.drop_eq_nil_of_le (by omega)]
    simp
  | succ d ih =>
    intro i acc k hi ha hk
    obtain ⟨k, rfl⟩ : ∃ m, k = m + 1 := ⟨k - 1, by omega⟩
    have hlt : i < l.length := by omega
    simp only [lombardlaw11_from.l0]
    rw [if_pos (by omega), if_pos (by omega), if_pos (by omega), if_pos (by omega), rd37 hlt, w64 (n := (i : Int) + 1) (by omega) (by omega), show (i : Int) + 1 = ((i + 1 : Nat) : Int) by omega, ih (i + 1) _ k (by omega) (by simp; omega) (by omega), List.drop_eq_getElem_cons hlt]
    simp only [List.map_cons, List.append_assoc, List.singleton_append]
    rfl
theorem from_f {l : List S37} (hn : l.length ≤ 1000) {k : Nat} (hk : 1001 ≤ k) : lombardlaw11_from.f k l = some (l.map conv) := by
  unfold lombardlaw11_from.f
  rw [show (0 : Int) = ((0 : Nat) : Int) from rfl, from_l0 hn l.length 0 [] k (by omega) (by simp) (by omega)]
  simp
theorem same_l0 {l : List S59} (hn : l.length ≤ 1000) : ∀ (d i k : Nat), i + d = l.length → d + 1 ≤ k → lombardref11_Same.l0 k l l l.length i = some true := by
  intro d
  induction d with
  | zero =>
    intro i k hi hk
    obtain ⟨k, rfl⟩ : ∃ m, k = m + 1 := ⟨k - 1, by omega⟩
    simp only [lombardref11_Same.l0]
    rw [if_neg (by omega)]
  | succ d ih =>
    intro i k hi hk
    obtain ⟨k, rfl⟩ : ∃ m, k = m + 1 := ⟨k - 1, by omega⟩
    simp only [lombardref11_Same.l0]
    rw [if_pos (by omega), if_pos (by omega), if_pos (by omega), if_pos (by omega), w64 (n := (i : Int) + 1) (by omega) (by omega), show (i : Int) + 1 = ((i + 1 : Nat) : Int) by omega]
    simp only [beq_self_eq_true, Bool.not_true, Bool.or_self, Bool.false_eq_true, if_false]
    exact ih (i + 1) k (by omega) (by omega)
theorem same_self {l : List S59} (hn : l.length ≤ 1000) {k : Nat} (hk : 1001 ≤ k) : lombardref11_Same.f k l l = some true := by
  unfold lombardref11_Same.f
  rw [if_pos rfl, show (0 : Int) = ((0 : Nat) : Int) from rfl, same_l0 hn l.length 0 k (by omega) (by omega)]
-- ------------------------------------------------ the plug
def plugV (l : List S37) (r : Int) : Int × Int :=
  if h : 0 < l.length then (if mayR r then (if (interest l[l.length - 1].f0 r).2 = 0 then told (l[l.length - 1].f1 - (interest l[l.length - 1].f0 r).1) else (0, (interest l[l.length - 1].f0 r).2)) else (0, 2)) else (0, 8)
theorem plug {l : List S37} {r : Int} (hl : ∀ x ∈ l, I64 x.f0 ∧ I64 x.f1) (hn : l.length ≤ 1000) {k : Nat} (hk : 40 ≤ k) : table_Plug.f k l r = some (plugV l r) := by
  unfold table_Plug.f plugV
  by_cases c : 0 < l.length
  · rw [if_neg (by omega), dif_pos c, XRate.may, Option.bind_some]
    by_cases c3 : mayR r
    · obtain ⟨h0, h1⟩ := hl l[l.length - 1] (List.getElem_mem _)
      rw [decide_eq_true c3, if_pos rfl, if_pos c3, w64 (n := (l.length : Int) - 1) (by omega) (by omega), if_pos (by omega), if_pos (by omega), show (l.length : Int) - 1 = ((l.length - 1 : Nat) : Int) by omega, rd37 (by omega), interest_f h0 (by omega), Option.bind_some]
      by_cases c4 : (interest l[l.length - 1].f0 r).2 = 0
      · rw [if_pos c4, if_pos c4, sub h1 (interest_i64 _ _), Option.bind_some]
      · rw [if_neg c4, if_neg c4]
    · rw [decide_eq_false c3, if_neg (by simp), if_neg c3]
  · rw [if_pos (by omega), dif_neg c]
theorem alive {k : Nat} (hk : 2000 ≤ k) : lombardlaw11_alive.f k = some true := by
  have i1 : interest 1000 100000000000 = (100, 0) := by decide +kernel
  have i2 : interest 600 100000000000 = (60, 0) := by decide +kernel
  have v : valid 1000 [500, 605] 100000000000 := ⟨by decide, by decide, by decide, by decide⟩
  have t : tab 1000 [500, 605] 100000000000 = ([⟨1000, 100, 500, 600⟩, ⟨600, 5, 605, 0⟩], 0) := by
    unfold tab
    rw [if_pos v]
    have e : roll 100000000000 (1000 + 100 - 500) [605] = ([⟨600, 5, 605, 0⟩], 0) := rfl
    unfold roll
    rw [i1, if_neg (by decide), if_pos rfl, if_pos (by decide)]
    simp only [e, if_true]
    rfl
  unfold lombardlaw11_alive.f
  rw [roll_f (by decide) (by simp; omega), t, Option.bind_some, plug (by decide) (by decide) (by omega)]
  have p : plugV [⟨1000, 100, 500, 600⟩, ⟨600, 5, 605, 0⟩] 100000000000 = (-55, 0) := by
    unfold plugV
    rw [dif_pos (by decide), if_pos (by decide)]
    simp only [List.length_cons, List.length_nil, List.getElem_cons_succ, List.getElem_cons_zero, i2]
    decide
  rw [p]
  simp only [Option.bind_some, if_true]
  rw [from_f (by decide) (by omega), Option.bind_some]
  show (lombardref11_Same.f k [⟨1000, 100, 500, 600⟩, ⟨600, 5, 605, 0⟩] [⟨1000, 100, 500, 600⟩, ⟨600, 5, 605, 0⟩]).bind _ = _
  rw [same_self (by decide) (by omega)]
  decide
end Go.Proofs.Ytalnlphinlfenaa.XTable
end

section
namespace Go.Proofs.Ytalnlphinlfenaa.S
open Go.RowKit Go.Proofs.YtalnlphinlfenaaW.PrintWords Go.Proofs.YtalnlphinlfenaaW.PrintLast Go.Proofs.YtalnlphinlfenaaW.PrintMore
attribute [local go_sem] max2_int min2_int max_two min_two max_three min_three max_four min_four   -- for this text's walks alone
attribute [local go_sem] Go.Proofs.Ytalnlphinlfenaa.XWalk.cell2
set_option linter.unusedVariables false
set_option linter.unusedSimpArgs false

/-! ### money_Sum: function 20 -/
def money_Sum.l0 : Nat → Int → Int → List Int → Int → Int → Option (Int × Int)
  | 0, _, _, _, _, _ => none
  | k + 1, x4, x5, x10, x11, x12 => if x12 < x11 then (if 0 ≤ x12 then (if x12 < (x10.length : Int) then (if 0 ≤ x4 then (if 0 ≤ (IntKind.u64.wrap (rd x10 x12)) then (money_Sum.l0 k (Go.Proofs.Ytalnlphinlfenaa.XWalk.s64 x4 (IntKind.u64.wrap (rd x10 x12)) 0) (wrap64 ((wrap64 (x5 + ((rd x10 x12) / 9223372036854775808))) + (wrap64 (Go.Proofs.Ytalnlphinlfenaa.XWalk.c64 x4 (IntKind.u64.wrap (rd x10 x12)) 0)))) x10 x11 (wrap64 (x12 + 1))) else (none)) else (none)) else (none)) else (none)) else ((money_told.f (wrap64 (x4)) (x5 == ((wrap64 (x4)) / 9223372036854775808))).bind fun bt398 => (some (bt398.1, bt398.2)))
def money_Sum.f (k : Nat) (l0 : List Int) : Option (Int × Int) := money_Sum.l0 k 0 0 l0 (l0.length : Int) 0
end Go.Proofs.Ytalnlphinlfenaa.S
end

section
namespace Go.Proofs.Ytalnlphinlfenaa.XSum
set_option linter.unusedVariables false
set_option linter.unusedSimpArgs false
open Go.RowKit Go.Proofs.Ytalnlphinlfenaa.S Go.Proofs.Ytalnlphinlfenaa.XNum Go.Proofs.Ytalnlphinlfenaa.XBits Go.Proofs.Ytalnlphinlfenaa.XWide Go.Proofs.Ytalnlphinlfenaa.XMoney Go.Proofs.YtalnlphinlfenaaW.PrintWords

/-- all together -/
def tot : List Int → Int
  | [] => 0
  | x :: l => x + tot l
theorem tot_append (a b : List Int) : tot (a ++ b) = tot a + tot b := by
  induction a with
  | nil => simp [tot]
  | cons x a ih => simp only [List.cons_append, tot, ih]; omega
theorem rd_lt {l : List Int} {i : Nat} (h : i < l.length) : rd l (i : Int) = l[i] := by
  unfold rd
  simp [h]
theorem tot_take {l : List Int} {i : Nat} (h : i < l.length) : tot (l.take (i + 1)) = tot (l.take i) + l[i] := by
  rw [List.take_add_one, List.getElem?_eq_getElem h, tot_append]
  simp [tot]

theorem sum_l0 {l : List Int} (hl : ∀ x ∈ l, I64 x) (hn : l.length ≤ 1099511627776) : ∀ (d i : Nat) (lo hi : Int) (k : Nat), i + d = l.length → d + 1 ≤ k → 0 ≤ lo → lo < 18446744073709551616 → -(i : Int) ≤ hi → hi ≤ i →
    hi * 18446744073709551616 + lo = tot (l.take i) → money_Sum.l0 k lo hi l l.length i = some (told (tot l)) := by
  intro d
  induction d with
  | zero =>
    intro i lo hi k hi' hk l0 l1 h0 h1 e
    obtain ⟨k, rfl⟩ : ∃ m, k = m + 1 := ⟨k - 1, by omega⟩
    rw [List.take_of_length_le (by omega)] at e
    simp only [money_Sum.l0]
    rw [if_neg (by omega), told_f, ← e]
    simp only [Option.bind_some]
    by_cases c : -9223372036854775808 ≤ hi * 18446744073709551616 + lo ∧ hi * 18446744073709551616 + lo ≤ 9223372036854775807
    · rw [told_in c.1 c.2, if_pos (by rw [beq_iff_eq]; unfold wrap64; omega)]
      congr 2
      unfold wrap64
      omega
    · rw [told_out (by omega), if_neg (by rw [beq_iff_eq]; unfold wrap64; omega)]
  | succ d ih =>
    intro i lo hi k hi' hk l0 l1 h0 h1 e
    obtain ⟨k, rfl⟩ : ∃ m, k = m + 1 := ⟨k - 1, by omega⟩
    have hlt : i < l.length := by omega
    obtain ⟨x0, x1⟩ := hl l[i] (List.getElem_mem hlt)
    simp only [money_Sum.l0]
    rw [if_pos (by omega), if_pos (by omega), if_pos (by omega), if_pos l0, rd_lt hlt, if_pos (by rw [wu]; omega), w64 (n := (i : Int) + 1) (by omega) (by omega)]
    have c0 : 0 ≤ XWalk.c64 lo (IntKind.u64.wrap l[i]) 0 ∧ XWalk.c64 lo (IntKind.u64.wrap l[i]) 0 ≤ 1 := by
      rw [wu]; unfold XWalk.c64; omega
    have s0 : 0 ≤ XWalk.s64 lo (IntKind.u64.wrap l[i]) 0 ∧ XWalk.s64 lo (IntKind.u64.wrap l[i]) 0 < 18446744073709551616 := by
      unfold XWalk.s64; omega
    have e0 : XWalk.c64 lo (IntKind.u64.wrap l[i]) 0 * 18446744073709551616 + XWalk.s64 lo (IntKind.u64.wrap l[i]) 0 = lo + l[i] - l[i] / 9223372036854775808 * 18446744073709551616 := by
      rw [wu]; unfold XWalk.c64 XWalk.s64; omega
    generalize XWalk.c64 lo (IntKind.u64.wrap l[i]) 0 = c at *
    generalize XWalk.s64 lo (IntKind.u64.wrap l[i]) 0 = s at *
    have d0 : -1 ≤ l[i] / 9223372036854775808 ∧ l[i] / 9223372036854775808 ≤ 0 := by omega
    rw [w64 (n := c) (by omega) (by omega), w64 (n := hi + l[i] / 9223372036854775808) (by omega) (by omega), w64 (n := hi + l[i] / 9223372036854775808 + c) (by omega) (by omega)]
    refine ih (i + 1) _ _ k (by omega) (by omega) s0.1 s0.2 (by omega) (by omega) ?_
    rw [tot_take hlt, ← e]
    omega

theorem sum {l : List Int} (hl : ∀ x ∈ l, I64 x) (hn : l.length ≤ 1099511627776) {k : Nat} (hk : l.length + 1 ≤ k) : money_Sum.f k l = some (told (tot l)) := by
  unfold money_Sum.f
  exact sum_l0 hl hn l.length 0 0 0 k (by omega) hk (by omega) (by omega) (by omega) (by omega) (by simp [tot])
end Go.Proofs.Ytalnlphinlfenaa.XSum
end

section
namespace Go.Proofs.Ytalnlphinlfenaa.S
open Go.RowKit Go.Proofs.YtalnlphinlfenaaW.PrintWords Go.Proofs.YtalnlphinlfenaaW.PrintLast Go.Proofs.YtalnlphinlfenaaW.PrintMore
attribute [local go_sem] max2_int min2_int max_two min_two max_three min_three max_four min_four   -- for this text's walks alone
attribute [local go_sem] Go.Proofs.Ytalnlphinlfenaa.XWalk.cell2
set_option linter.unusedVariables false
set_option linter.unusedSimpArgs false

/-! ### table_Sums_1: function 45 -/
def table_Sums_1.f (a0_0 : Int) (a0_1 : Int) (a0_2 : Int) (a0_3 : Int) : Option (Int) := some a0_1
end Go.Proofs.Ytalnlphinlfenaa.S
end

section
namespace Go.Proofs.Ytalnlphinlfenaa.S
open Go.RowKit Go.Proofs.YtalnlphinlfenaaW.PrintWords Go.Proofs.YtalnlphinlfenaaW.PrintLast Go.Proofs.YtalnlphinlfenaaW.PrintMore
attribute [local go_sem] max2_int min2_int max_two min_two max_three min_three max_four min_four   -- for this text's walks alone
attribute [local go_sem] Go.Proofs.Ytalnlphinlfenaa.XWalk.cell2
set_option linter.unusedVariables false
set_option linter.unusedSimpArgs false

/-! ### table_column__table_Sums_1: function 44 -/
def table_column__table_Sums_1.l0 : Nat → List Int → List (S37) → Int → Int → Option (Int × Int)
  | 0, _, _, _, _ => none
  | k + 1, x6, x9, x10, x11 => if x11 < x10 then (if 0 ≤ x11 then (if x11 < (x9.length : Int) then ((table_Sums_1.f ((rd_T37 x9 x11).f0) ((rd_T37 x9 x11).f1) ((rd_T37 x9 x11).f2) ((rd_T37 x9 x11).f3)).bind fun t425 => (if x6.length < 17592186044416 then (table_column__table_Sums_1.l0 k (x6 ++ [t425]) x9 x10 (wrap64 (x11 + 1))) else (none))) else (none)) else (none)) else ((money_Sum.f k x6).bind fun bt429 => (some (bt429.1, bt429.2)))
def table_column__table_Sums_1.f (k : Nat) (l0 : List (S37))  : Option (Int × Int) := table_column__table_Sums_1.l0 k ([] : List Int) l0 (l0.length : Int) 0
end Go.Proofs.Ytalnlphinlfenaa.S
end

section
namespace Go.Proofs.Ytalnlphinlfenaa.S
open Go.RowKit Go.Proofs.YtalnlphinlfenaaW.PrintWords Go.Proofs.YtalnlphinlfenaaW.PrintLast Go.Proofs.YtalnlphinlfenaaW.PrintMore
attribute [local go_sem] max2_int min2_int max_two min_two max_three min_three max_four min_four   -- for this text's walks alone
attribute [local go_sem] Go.Proofs.Ytalnlphinlfenaa.XWalk.cell2
set_option linter.unusedVariables false
set_option linter.unusedSimpArgs false

/-! ### table_Sums_2: function 46 -/
def table_Sums_2.f (a0_0 : Int) (a0_1 : Int) (a0_2 : Int) (a0_3 : Int) : Option (Int) := some a0_2
end Go.Proofs.Ytalnlphinlfenaa.S
end

section
namespace Go.Proofs.Ytalnlphinlfenaa.S
open Go.RowKit Go.Proofs.YtalnlphinlfenaaW.PrintWords Go.Proofs.YtalnlphinlfenaaW.PrintLast Go.Proofs.YtalnlphinlfenaaW.PrintMore
attribute [local go_sem] max2_int min2_int max_two min_two max_three min_three max_four min_four   -- for this text's walks alone
attribute [local go_sem] Go.Proofs.Ytalnlphinlfenaa.XWalk.cell2
set_option linter.unusedVariables false
set_option linter.unusedSimpArgs false

/-! ### table_column__table_Sums_2: function 44 -/
def table_column__table_Sums_2.l0 : Nat → List Int → List (S37) → Int → Int → Option (Int × Int)
  | 0, _, _, _, _ => none
  | k + 1, x6, x9, x10, x11 => if x11 < x10 then (if 0 ≤ x11 then (if x11 < (x9.length : Int) then ((table_Sums_2.f ((rd_T37 x9 x11).f0) ((rd_T37 x9 x11).f1) ((rd_T37 x9 x11).f2) ((rd_T37 x9 x11).f3)).bind fun t435 => (if x6.length < 17592186044416 then (table_column__table_Sums_2.l0 k (x6 ++ [t435]) x9 x10 (wrap64 (x11 + 1))) else (none))) else (none)) else (none)) else ((money_Sum.f k x6).bind fun bt439 => (some (bt439.1, bt439.2)))
def table_column__table_Sums_2.f (k : Nat) (l0 : List (S37))  : Option (Int × Int) := table_column__table_Sums_2.l0 k ([] : List Int) l0 (l0.length : Int) 0
end Go.Proofs.Ytalnlphinlfenaa.S
end

section
namespace Go.Proofs.Ytalnlphinlfenaa.S
open Go.RowKit Go.Proofs.YtalnlphinlfenaaW.PrintWords Go.Proofs.YtalnlphinlfenaaW.PrintLast Go.Proofs.YtalnlphinlfenaaW.PrintMore
attribute [local go_sem] max2_int min2_int max_two min_two max_three min_three max_four min_four   -- for this text's walks alone
attribute [local go_sem] Go.Proofs.Ytalnlphinlfenaa.XWalk.cell2
set_option linter.unusedVariables false
set_option linter.unusedSimpArgs false

/-! ### table_Sums: function 22 -/
def table_Sums.f (k : Nat) (l0 : List (S37)) : Option (Int × Int × Int) := (table_column__table_Sums_1.f k l0).bind fun bt441 => (if bt441.2 = 0 then ((table_column__table_Sums_2.f k l0).bind fun bt443 => (if bt443.2 = 0 then (some (bt441.1, bt443.1, 0)) else (some (0, 0, bt443.2)))) else (some (0, 0, bt441.2)))
end Go.Proofs.Ytalnlphinlfenaa.S
end

section
namespace Go.Proofs.Ytalnlphinlfenaa.Pure
set_option linter.unusedVariables false
set_option linter.unusedSimpArgs false
open Go.RowKit Go.Proofs.Ytalnlphinlfenaa.S Go.Proofs.Ytalnlphinlfenaa.XNum Go.Proofs.Ytalnlphinlfenaa.XWide Go.Proofs.Ytalnlphinlfenaa.Rnd Go.Proofs.Ytalnlphinlfenaa.XMdiv Go.Proofs.Ytalnlphinlfenaa.XRate Go.Proofs.Ytalnlphinlfenaa.XTable Go.Proofs.YtalnlphinlfenaaW.PrintWords Go.Proofs.YtalnlphinlfenaaW.PrintLast Go.Proofs.YtalnlphinlfenaaW.PrintMore

open Go.Proofs.Ytalnlphinlfenaa.XSum
open Go.Proofs.Ytalnlphinlfenaa.XMoney (told)
theorem col1_l0 {l : List S37} (hl : ∀ x ∈ l, I64 x.f1) (hn : l.length ≤ 1000) : ∀ (d i : Nat) (acc : List Int) (k : Nat), i + d = l.length → acc = (l.take i).map (·.f1) → d + 1010 ≤ k → table_column__table_Sums_1.l0 k acc l l.length i = some (told (tot (l.map (·.f1)))) := by
  intro d
  induction d with
  | zero =>
    intro i acc k hi ha hk
    obtain ⟨k, rfl⟩ : ∃ m, k = m + 1 := ⟨k - 1, by omega⟩
    simp only [table_column__table_Sums_1.l0]
    rw [List.take_of_length_le (by omega)] at ha
    rw [if_neg (by omega), ha, XSum.sum (by intro y hy; obtain ⟨z, hz, rfl⟩ := List.mem_map.mp hy; exact hl z hz) (by rw [List.length_map]; omega) (by rw [List.length_map]; omega), Option.bind_some]
  | succ d ih =>
    intro i acc k hi ha hk
    obtain ⟨k, rfl⟩ : ∃ m, k = m + 1 := ⟨k - 1, by omega⟩
    have hlt : i < l.length := by omega
    have al : acc.length ≤ 1000 := by rw [ha, List.length_map, List.length_take]; omega
    simp only [table_column__table_Sums_1.l0, table_Sums_1.f, Option.bind_some]
    rw [if_pos (by omega), if_pos (by omega), if_pos (by omega), if_pos (by omega), w64 (n := (i : Int) + 1) (by omega) (by omega), show (i : Int) + 1 = ((i + 1 : Nat) : Int) by omega, rd37 hlt]
    exact ih (i + 1) _ k (by omega) (by rw [ha, List.take_add_one, List.getElem?_eq_getElem hlt, List.map_append]; rfl) (by omega)
theorem col2_l0 {l : List S37} (hl : ∀ x ∈ l, I64 x.f2) (hn : l.length ≤ 1000) : ∀ (d i : Nat) (acc : List Int) (k : Nat), i + d = l.length → acc = (l.take i).map (·.f2) → d + 1010 ≤ k → table_column__table_Sums_2.l0 k acc l l.length i = some (told (tot (l.map (·.f2)))) := by
  intro d
  induction d with
  | zero =>
    intro i acc k hi ha hk
    obtain ⟨k, rfl⟩ : ∃ m, k = m + 1 := ⟨k - 1, by omega⟩
    simp only [table_column__table_Sums_2.l0]
    rw [List.take_of_length_le (by omega)] at ha
    rw [if_neg (by omega), ha, XSum.sum (by intro y hy; obtain ⟨z, hz, rfl⟩ := List.mem_map.mp hy; exact hl z hz) (by rw [List.length_map]; omega) (by rw [List.length_map]; omega), Option.bind_some]
  | succ d ih =>
    intro i acc k hi ha hk
    obtain ⟨k, rfl⟩ : ∃ m, k = m + 1 := ⟨k - 1, by omega⟩
    have hlt : i < l.length := by omega
    have al : acc.length ≤ 1000 := by rw [ha, List.length_map, List.length_take]; omega
    simp only [table_column__table_Sums_2.l0, table_Sums_2.f, Option.bind_some]
    rw [if_pos (by omega), if_pos (by omega), if_pos (by omega), if_pos (by omega), w64 (n := (i : Int) + 1) (by omega) (by omega), show (i : Int) + 1 = ((i + 1 : Nat) : Int) by omega, rd37 hlt]
    exact ih (i + 1) _ k (by omega) (by rw [ha, List.take_add_one, List.getElem?_eq_getElem hlt, List.map_append]; rfl) (by omega)
def sumsV (l : List S37) : Int × Int × Int :=
  if (told (tot (l.map (·.f1)))).2 = 0 then (if (told (tot (l.map (·.f2)))).2 = 0 then ((told (tot (l.map (·.f1)))).1, (told (tot (l.map (·.f2)))).1, 0) else (0, 0, (told (tot (l.map (·.f2)))).2)) else (0, 0, (told (tot (l.map (·.f1)))).2)
theorem sums {l : List S37} (hl : ∀ x ∈ l, I64 x.f1 ∧ I64 x.f2) (hn : l.length ≤ 1000) {k : Nat} (hk : 2010 ≤ k) : table_Sums.f k l = some (sumsV l) := by
  unfold table_Sums.f sumsV table_column__table_Sums_1.f table_column__table_Sums_2.f
  rw [show (0 : Int) = ((0 : Nat) : Int) from rfl, col1_l0 (fun x h => (hl x h).1) hn l.length 0 [] k (by omega) rfl (by omega), col2_l0 (fun x h => (hl x h).2) hn l.length 0 [] k (by omega) rfl (by omega)]
  simp only [Option.bind_some]
  split
  · split <;> rfl
  · rfl
end Go.Proofs.Ytalnlphinlfenaa.Pure
end

section
namespace Go.Proofs.Ytalnlphinlfenaa.S
open Go.RowKit Go.Proofs.YtalnlphinlfenaaW.PrintWords Go.Proofs.YtalnlphinlfenaaW.PrintLast Go.Proofs.YtalnlphinlfenaaW.PrintMore
attribute [local go_sem] max2_int min2_int max_two min_two max_three min_three max_four min_four   -- for this text's walks alone
attribute [local go_sem] Go.Proofs.Ytalnlphinlfenaa.XWalk.cell2
set_option linter.unusedVariables false
set_option linter.unusedSimpArgs false

/-! ### lombardlaw11_TableEnds: function 10 -/
def lombardlaw11_TableEnds.l0 : Nat → Int → List Int → Int → List (S37) → Int → List (S37) → Int → Int → Option (Bool)
  | 0, _, _, _, _, _, _, _, _ => none
  | k + 1, x0, x1, x2, x7, x9, x35, x36, x37 => if x37 < x36 then (if 0 ≤ x37 then (if x37 < (x35.length : Int) then ((rate_Interest.f k ((rd_T37 x35 x37).f0) x2).bind fun bt520 => (if ((rd_T37 x35 x37).f0) = x9 then (if x37 < (x1.length : Int) then (if ((rd_T37 x35 x37).f2) = (rd x1 x37) then (if ((rd_T37 x35 x37).f3) = (wrap64 ((wrap64 (((rd_T37 x35 x37).f0) + ((rd_T37 x35 x37).f1))) - ((rd_T37 x35 x37).f2))) then (if x37 < (wrap64 ((x7.length : Int) - 1)) then (if bt520.2 = 0 then (if bt520.1 = ((rd_T37 x35 x37).f1) then (lombardlaw11_TableEnds.l0 k x0 x1 x2 x7 ((rd_T37 x35 x37).f3) x35 x36 (wrap64 (x37 + 1))) else (some false)) else (some false)) else (lombardlaw11_TableEnds.l0 k x0 x1 x2 x7 ((rd_T37 x35 x37).f3) x35 x36 (wrap64 (x37 + 1)))) else (some false)) else (some false)) else (none)) else (some false))) else (none)) else (none)) else ((table_Sums.f k x7).bind fun bt523 => (if x9 = 0 then (if (x7.length : Int) = (x1.length : Int) then (if bt523.2.2 = 0 then (some (bt523.1 == (wrap64 (bt523.2.1 - x0)))) else (some false)) else (some false)) else (some false)))
def lombardlaw11_TableEnds.f (k : Nat) (a0 : Int) (l1 : List Int) (a2 : Int) : Option (Bool) := (lombardlaw11_alive.f k).bind fun t513 => (if t513 = true then (if (l1.length : Int) > 200 then (some true) else ((table_Roll.f k a0 l1 a2).bind fun bt514 => (if bt514.2 = 0 then (lombardlaw11_TableEnds.l0 k a0 l1 a2 bt514.1 a0 bt514.1 (bt514.1.length : Int) 0) else (some ((bt514.1.length : Int) == 0))))) else (some false))
/-- THE ONE PURE STATEMENT of lombardlaw11_TableEnds: yours. -/
def lombardlaw11_TableEnds.Pure : Prop := ∀ (a0 : Int) (l1 : List Int) (a2 : Int), (Lit.int .i64 a0).wf = true → l1.length ≤ maxLen → l1.length * 8 ≤ 140737488351232 → (∀ x ∈ l1, (Lit.int .i64 x).wf = true) → (Lit.int .i64 a2).wf = true → ∃ k, lombardlaw11_TableEnds.f k a0 l1 a2 = some true
end Go.Proofs.Ytalnlphinlfenaa.S
end

section
namespace Go.Proofs.Ytalnlphinlfenaa.Pure
set_option linter.unusedVariables false
set_option linter.unusedSimpArgs false
open Go.RowKit Go.Proofs.Ytalnlphinlfenaa.S Go.Proofs.Ytalnlphinlfenaa.XNum Go.Proofs.Ytalnlphinlfenaa.XWide Go.Proofs.Ytalnlphinlfenaa.Rnd Go.Proofs.Ytalnlphinlfenaa.XMdiv Go.Proofs.Ytalnlphinlfenaa.XRate Go.Proofs.Ytalnlphinlfenaa.XTable Go.Proofs.YtalnlphinlfenaaW.PrintWords Go.Proofs.YtalnlphinlfenaaW.PrintLast Go.Proofs.YtalnlphinlfenaaW.PrintMore

open Go.Proofs.Ytalnlphinlfenaa.XSum
open Go.Proofs.Ytalnlphinlfenaa.XMoney (told told_in)
theorem tot_amt : ∀ {l : List Int}, (∀ x ∈ l, Amt x) → 0 ≤ tot l ∧ tot l ≤ 10000000000000 * l.length
  | [], _ => by simp [tot]
  | x :: l, h => by
    have ih := tot_amt (l := l) (fun y hy => h y (List.mem_cons_of_mem _ hy))
    have hx := h x (List.mem_cons_self ..)
    simp only [tot, List.length_cons]
    omega
/-- a row that is not the last one -/
theorem roll_cons {r o x : Int} {xs : List Int} (hx : xs ≠ []) (h : (roll r o (x :: xs)).2 = 0) : (interest o r).2 = 0 ∧ okc o (interest o r).1 x ∧ (roll r (o + (interest o r).1 - x) xs).2 = 0 ∧ roll r o (x :: xs) = (⟨o, (interest o r).1, x, o + (interest o r).1 - x⟩ :: (roll r (o + (interest o r).1 - x) xs).1, 0) := by
  rw [roll] at h ⊢
  rw [if_neg hx] at h ⊢
  by_cases c1 : (interest o r).2 = 0
  · rw [if_pos c1] at h ⊢
    by_cases c2 : okc o (interest o r).1 x
    · rw [if_pos c2] at h ⊢
      by_cases c3 : (roll r (o + (interest o r).1 - x) xs).2 = 0
      · rw [if_pos c3]
        exact ⟨c1, c2, c3, rfl⟩
      · rw [if_neg c3] at h
        exact absurd h c3
    · rw [if_neg c2] at h
      exact absurd h (by decide)
  · rw [if_neg c1] at h
    exact absurd h c1
theorem roll_one (r o x : Int) : roll r o [x] = ([⟨o, x - o, x, 0⟩], 0) := rfl
theorem roll_facts {r : Int} : ∀ (l : List Int) (o : Int), (∀ x ∈ l, Amt x) → Big o → (roll r o l).2 = 0 → (∀ x ∈ (roll r o l).1, I64 x.f1 ∧ I64 x.f2) ∧ (roll r o l).1.map (·.f2) = l ∧ (l ≠ [] → tot ((roll r o l).1.map (·.f1)) = tot l - o) := by
  intro l
  induction l with
  | nil =>
    intro o _ _ _
    exact ⟨fun x hx => absurd hx List.not_mem_nil, rfl, fun h => absurd rfl h⟩
  | cons x xs ih =>
    intro o hl ho h
    have hx := hl x (List.mem_cons_self ..)
    by_cases c : xs = []
    · subst c
      rw [roll_one]
      refine ⟨fun y hy => ?_, rfl, fun _ => by simp [tot]⟩
      obtain rfl := List.mem_singleton.mp hy
      refine ⟨?_, ?_⟩
      · show I64 (x - o)
        constructor <;> omega
      · show I64 x
        constructor <;> omega
    · obtain ⟨c1, c2, c3, e⟩ := roll_cons c h
      obtain ⟨i1, i2, i3⟩ := ih (o + (interest o r).1 - x) (fun y hy => hl y (List.mem_cons_of_mem _ hy)) c2.2 c3
      rw [e]
      refine ⟨fun y hy => ?_, by simp [i2], fun _ => ?_⟩
      · rcases List.mem_cons.mp hy with rfl | hy
        · refine ⟨interest_i64 o r, ?_⟩
          show I64 x
          constructor <;> omega
        · exact i1 y hy
      · simp only [List.map_cons, tot, i3 c]
        omega
theorem ends_l0 {o r : Int} {l : List Int} {rows : List S37} (hl : ∀ x ∈ l, Amt x) (hn : rows.length ≤ 200) (hlen : rows.length = l.length) (S P : Int) (hs : ∀ k, 3000 ≤ k → table_Sums.f k rows = some (S, P, 0)) (hS : S = wrap64 (P - o)) :
    ∀ (xs : List Int) (i : Nat) (c : Int) (k : Nat), l.drop i = xs → (roll r c xs).2 = 0 → rows.drop i = (roll r c xs).1 → Big c → (xs = [] → c = 0) → xs.length + 3010 ≤ k →
    lombardlaw11_TableEnds.l0 k o l r rows c rows rows.length i = some true := by
  intro xs
  induction xs with
  | nil =>
    intro i c k hd _ _ _ hc hk
    obtain ⟨k, rfl⟩ : ∃ m, k = m + 1 := ⟨k - 1, by omega⟩
    have hi : l.length ≤ i := List.drop_eq_nil_iff.mp hd
    simp only [lombardlaw11_TableEnds.l0]
    rw [if_neg (by omega), hs k (by simp at hk; omega), Option.bind_some, if_pos (hc rfl), if_pos (by omega)]
    simp only [if_true]
    rw [hS, beq_self_eq_true]
  | cons x xs ih =>
    intro i c k hd h hr hb _ hk
    obtain ⟨k, rfl⟩ : ∃ m, k = m + 1 := ⟨k - 1, by omega⟩
    obtain ⟨hi, hx, hd'⟩ := rd_drop hd
    have hxl : x ∈ l := by
      have : x ∈ l.drop i := by rw [hd]; exact List.mem_cons_self ..
      exact List.mem_of_mem_drop this
    have hxa := hl x hxl
    have hir : i < rows.length := by omega
    have ib : I64 c := by constructor <;> omega
    rw [List.drop_eq_getElem_cons hir] at hr
    simp only [lombardlaw11_TableEnds.l0]
    rw [if_pos (by omega), if_pos (by omega), if_pos (by omega), rd37 hir]
    by_cases c0 : xs = []
    · subst c0
      rw [roll_one] at hr
      have e1 := (List.cons.inj hr).1
      have e2 := (List.cons.inj hr).2
      have last : i + 1 = l.length := by
        have := congrArg List.length hd'
        rw [List.length_drop] at this
        simp at this
        omega
      rw [e1, interest_f ib (by omega), Option.bind_some, if_pos rfl, if_pos (by omega), hx, if_pos rfl]
      simp only []
      rw [w64 (n := c + (x - c)) (by omega) (by omega), w64 (n := c + (x - c) - x) (by omega) (by omega), if_pos (by omega), w64 (n := (rows.length : Int) - 1) (by omega) (by omega), if_neg (by omega), w64 (n := (i : Int) + 1) (by omega) (by omega), show (i : Int) + 1 = ((i + 1 : Nat) : Int) by omega]
      exact ih (i + 1) 0 k hd' rfl (by rw [e2]; rfl) (by constructor <;> omega) (fun _ => rfl) (by simp at hk ⊢; omega)
    · obtain ⟨c1, c2, c3, e⟩ := roll_cons c0 h
      rw [e] at hr
      have e1 := (List.cons.inj hr).1
      have e2 := (List.cons.inj hr).2
      have nl : i + 1 < l.length := by
        have := congrArg List.length hd'
        rw [List.length_drop] at this
        have : xs.length ≠ 0 := fun h => c0 (List.length_eq_zero_iff.mp h)
        omega
      rw [e1, interest_f ib (by omega), Option.bind_some, if_pos rfl, if_pos (by omega), hx, if_pos rfl]
      simp only []
      obtain ⟨d1, d2⟩ := id c2
      rw [w64 (n := c + (interest c r).1) d1.1 d1.2, w64 (n := c + (interest c r).1 - x) (by omega) (by omega), if_pos rfl, w64 (n := (rows.length : Int) - 1) (by omega) (by omega), if_pos (by omega), if_pos c1, if_pos trivial, w64 (n := (i : Int) + 1) (by omega) (by omega), show (i : Int) + 1 = ((i + 1 : Nat) : Int) by omega]
      exact ih (i + 1) _ k hd' c3 e2 c2.2 (fun h => absurd h c0) (by simp at hk ⊢; omega)
theorem TableEnds : lombardlaw11_TableEnds.Pure := by
  intro o l r ho _ _ _ _
  rw [wf64] at ho
  refine ⟨4000, ?_⟩
  unfold lombardlaw11_TableEnds.f
  rw [alive (by omega), Option.bind_some, if_pos rfl]
  by_cases c : (l.length : Int) > 200
  · rw [if_pos c]
  · rw [if_neg c, roll_f (by omega) (by omega), Option.bind_some]
    unfold tab
    by_cases v : valid o l r
    · rw [if_pos v]
      obtain ⟨v1, v2, v3, v4⟩ := v
      by_cases e : (roll r o l).2 = 0
      · rw [if_pos e]
        have ln := roll_len r l o e
        obtain ⟨f1, f2, f3⟩ := roll_facts l o v4 (by constructor <;> omega) e
        have ne : l ≠ [] := fun h => by subst h; simp at v1
        have t := tot_amt v4
        have tb : tot l ≤ 2000000000000000 := by omega
        have sv : sumsV (roll r o l).1 = (tot l - o, tot l, 0) := by
          unfold sumsV
          rw [f2, f3 ne, told_in (n := tot l - o) (by omega) (by omega), told_in (n := tot l) (by omega) (by omega)]
          rfl
        refine ends_l0 v4 (by omega) ln (tot l - o) (tot l) (fun k hk => ?_) (by rw [w64 (by omega) (by omega)]) l 0 o _ rfl e rfl (by constructor <;> omega) (fun h => absurd h ne) (by omega)
        rw [sums f1 (by omega) (by omega), sv]
      · rw [if_neg e, roll_err r l o e]
        rfl
    · rw [if_neg v]
      rfl
end Go.Proofs.Ytalnlphinlfenaa.Pure
end

section
namespace Go.Proofs.Ytalnlphinlfenaa.Pure
set_option linter.unusedVariables false
set_option linter.unusedSimpArgs false
open Go.RowKit Go.Proofs.Ytalnlphinlfenaa.S Go.Proofs.Ytalnlphinlfenaa.XNum Go.Proofs.Ytalnlphinlfenaa.XWide Go.Proofs.Ytalnlphinlfenaa.Rnd Go.Proofs.Ytalnlphinlfenaa.XMdiv Go.Proofs.Ytalnlphinlfenaa.XRate Go.Proofs.Ytalnlphinlfenaa.XTable Go.Proofs.YtalnlphinlfenaaW.PrintWords Go.Proofs.YtalnlphinlfenaaW.PrintLast Go.Proofs.YtalnlphinlfenaaW.PrintMore

theorem interest_zero (o : Int) : interest o 0 = (0, 0) := by
  unfold interest
  rw [if_pos (by unfold mayR; omega), Int.mul_zero]
  decide +kernel
theorem roll_drop {r : Int} : ∀ (i : Nat) (l : List Int) (o : Int) (h : (roll r o l).2 = 0) (hi : i < (roll r o l).1.length), roll r ((roll r o l).1[i].f0) (l.drop i) = ((roll r o l).1.drop i, 0) := by
  intro i
  induction i with
  | zero =>
    intro l o h hi
    cases l with
    | nil => exact absurd hi (by simp [roll])
    | cons x xs =>
      have e : ((roll r o (x :: xs)).1[0]'hi).f0 = o := by
        by_cases c : xs = []
        · subst c
          rfl
        · have q := (roll_cons c h).2.2.2
          have z : ∀ (L : List S37 × Int) (h0 : 0 < L.1.length), L = (⟨o, (interest o r).1, x, o + (interest o r).1 - x⟩ :: (roll r (o + (interest o r).1 - x) xs).1, 0) → (L.1[0]'h0).f0 = o := by
            rintro L h0 rfl
            rfl
          exact z _ hi q
      rw [e, List.drop_zero, List.drop_zero, ← h]
  | succ i ih =>
    intro l o h hi
    cases l with
    | nil => exact absurd hi (by simp [roll])
    | cons x xs =>
      by_cases c : xs = []
      · subst c
        rw [roll_one] at hi
        exact absurd hi (by simp)
      · obtain ⟨c1, c2, c3, q⟩ := roll_cons c h
        have z : ∀ (L : List S37 × Int) (h0 : i + 1 < L.1.length), L = (⟨o, (interest o r).1, x, o + (interest o r).1 - x⟩ :: (roll r (o + (interest o r).1 - x) xs).1, 0) → roll r (L.1[i + 1]'h0).f0 (xs.drop i) = (L.1.drop (i + 1), 0) := by
          rintro L h0 rfl
          simp only [List.getElem_cons_succ, List.drop_succ_cons]
          exact ih xs _ c3 (by simpa using h0)
        exact z _ hi q
theorem zero_l0 {o r at_ : Int} {l : List Int} {rows : List S37} (hn : l.length ≤ 100) (hlen : rows.length = l.length) (R : Nat → Option Bool) (hR : ∀ k, lombardlaw11_TableZero.l0 (k + 1) o l r at_ rows rows rows.length rows.length = R k) :
    ∀ (xs : List Int) (i : Nat) (c : Int) (k : Nat), l.drop i = xs → (roll 0 c xs).2 = 0 → rows.drop i = (roll 0 c xs).1 → xs.length ≤ k → lombardlaw11_TableZero.l0 (k + 1) o l r at_ rows rows rows.length i = R (k - xs.length) := by
  intro xs
  induction xs with
  | nil =>
    intro i c k hd _ hr hk
    have hi : l.length ≤ i := List.drop_eq_nil_iff.mp hd
    rw [← hR]
    simp only [lombardlaw11_TableZero.l0, List.length_nil, Nat.sub_zero]
    rw [if_neg (by omega), if_neg (by omega)]
  | cons x xs ih =>
    intro i c k hd h hr hk
    obtain ⟨k, rfl⟩ : ∃ m, k = m + 1 := ⟨k - 1, by simp at hk; omega⟩
    obtain ⟨hi, hx, hd'⟩ := rd_drop hd
    have hir : i < rows.length := by omega
    rw [List.drop_eq_getElem_cons hir] at hr
    rw [lombardlaw11_TableZero.l0, if_pos (by omega), if_pos (by omega), if_pos (by omega), rd37 hir, w64 (n := (rows.length : Int) - 1) (by omega) (by omega), w64 (n := (i : Int) + 1) (by omega) (by omega), show (i : Int) + 1 = ((i + 1 : Nat) : Int) by omega]
    have kk : k + 1 - (x :: xs).length = k - xs.length := by simp
    rw [kk]
    by_cases c0 : xs = []
    · subst c0
      rw [roll_one] at hr
      have e2 := (List.cons.inj hr).2
      have last : i + 1 = l.length := by
        have := congrArg List.length hd'
        rw [List.length_drop] at this
        simp at this
        omega
      rw [if_neg (by omega)]
      exact ih (i + 1) 0 k hd' rfl (by rw [e2]; rfl) (by simp)
    · obtain ⟨c1, c2, c3, e⟩ := roll_cons c0 h
      rw [e] at hr
      have e1 := (List.cons.inj hr).1
      have e2 := (List.cons.inj hr).2
      have nl : i + 1 < l.length := by
        have := congrArg List.length hd'
        rw [List.length_drop] at this
        have : xs.length ≠ 0 := fun h => c0 (List.length_eq_zero_iff.mp h)
        omega
      rw [if_pos (by omega), e1, interest_zero, if_pos rfl]
      rw [interest_zero] at c3 e2
      exact ih (i + 1) _ k hd' c3 e2 (by simp at hk; omega)
theorem TableZero : lombardlaw11_TableZero.Pure := by
  intro o l r at_ _ _ _ ha
  rw [wfu8] at ha
  refine ⟨6000, ?_⟩
  unfold lombardlaw11_TableZero.f
  rw [alive (by omega), Option.bind_some, if_pos rfl]
  by_cases c : (l.length : Int) > 100
  · rw [if_pos c]
  · have hn : l.length ≤ 100 := by omega
    rw [if_neg c, roll_f (by omega) (by omega), Option.bind_some]
    by_cases e : (tab o l 0).2 = 0
    · rw [if_pos e]
      have v : valid o l 0 := by
        unfold tab at e
        split at e
        · assumption
        · exact absurd e (by decide)
      have te : tab o l 0 = roll 0 o l := by unfold tab; rw [if_pos v]
      rw [te] at e ⊢
      have ln := roll_len 0 l o e
      obtain ⟨v1, v2, v3, v4⟩ := v
      obtain ⟨K, hK⟩ : ∃ K : Nat, K = 5999 := ⟨_, rfl⟩
      rw [show (6000 : Nat) = K + 1 by omega]
      have main := zero_l0 (o := o) (r := r) (at_ := at_) hn ln (fun k => lombardlaw11_TableZero.l0 (k + 1) o l r at_ (roll 0 o l).1 (roll 0 o l).1 (roll 0 o l).1.length (roll 0 o l).1.length) (fun _ => rfl) l 0 o K rfl e rfl (by omega)
      refine main.trans ?_
      show lombardlaw11_TableZero.l0 (K - l.length + 1) o l r at_ (roll 0 o l).1 (roll 0 o l).1 (roll 0 o l).1.length (roll 0 o l).1.length = some true
      obtain ⟨k, hk⟩ : ∃ k, k = K - l.length := ⟨_, rfl⟩
      rw [← hk]
      have k5 : 5000 ≤ k := by omega
      simp only [lombardlaw11_TableZero.l0]
      rw [if_neg (by omega), roll_f (by omega) (by omega), Option.bind_some]
      unfold tab
      by_cases vr : valid o l r
      · rw [if_pos vr]
        by_cases er : (roll r o l).2 = 0
        · have lr := roll_len r l o er
          rw [if_pos er, if_neg (by omega), w64 (n := at_) (by omega) (by omega), tm_nn (by omega)]
          obtain ⟨m, hm⟩ : ∃ m : Nat, at_ % (l.length : Int) = m := ⟨(at_ % (l.length : Int)).toNat, by have := Int.emod_nonneg at_ (show (l.length : Int) ≠ 0 by omega); omega⟩
          have ml : m < l.length := by have := Int.emod_lt_of_pos at_ (show 0 < (l.length : Int) by omega); omega
          have mr : m < (roll r o l).1.length := by omega
          rw [hm, if_pos (by omega), if_pos (by omega), if_pos (by omega), rd37 mr, Int.toNat_natCast, roll_f (by rw [List.length_drop]; omega) (by rw [List.length_drop]; omega), Option.bind_some]
          have rdp := roll_drop m l o er mr
          by_cases vd : valid (roll r o l).1[m].f0 (l.drop m) r
          · have t2 : tab (roll r o l).1[m].f0 (l.drop m) r = ((roll r o l).1.drop m, 0) := by
              unfold tab
              rw [if_pos vd, rdp]
            rw [t2]
            simp only [if_true]
            rw [from_f (by rw [List.length_drop]; omega) (by omega), Option.bind_some, from_f (by omega) (by omega), Option.bind_some, if_pos (by rw [List.length_map]; omega), ← List.map_drop, same_self (by rw [List.length_map, List.length_drop]; omega) (by omega), Option.bind_some]
          · have t2 : tab (roll r o l).1[m].f0 (l.drop m) r = ([], 2) := by
              unfold tab
              rw [if_neg vd]
            rw [t2]
            simp only []
            rw [if_neg (by decide)]
            by_cases b1 : (roll r o l).1[m].f0 < 1
            · rw [if_pos b1]
            · rw [if_neg b1, decide_eq_true]
              rcases Int.lt_or_le 10000000000000 (roll r o l).1[m].f0 with b2 | b2
              · exact b2
              · exact absurd (⟨by rw [List.length_drop]; omega, ⟨by omega, b2⟩, vr.2.2.1, fun x hx => v4 x (List.mem_of_mem_drop hx)⟩ : valid (roll r o l).1[m].f0 (l.drop m) r) vd
        · rw [if_neg er]
      · rw [if_neg vr]
        rfl
    · rw [if_neg e]
end Go.Proofs.Ytalnlphinlfenaa.Pure
end

section
namespace Go.Proofs.Ytalnlphinlfenaa.XOpen
set_option linter.unusedVariables false
set_option linter.unusedSimpArgs false
open Go.ChangeShapes Go.WideShapes Go.RowKit Go.Proofs.YtalnlphinlfenaaW.PrintWords
section
variable {H : Type} {enc : TypeId × Value → H} {P : Program} {w : World} {base : Nat} {spare : Nat → Bool} {held : Bool}

/-- Whatever reads as data of type t holds a value of the kind d, and it is good. -/
def Opens {α : Type} (enc : TypeId × Value → H) (P : Program) (w : World) (base : Nat) (spare : Nat → Bool) (held : Bool) (t : TypeId) (d : Kd α) (g : α → Prop) : Prop :=
  ∀ fuel cs x, DataW.trod enc P w base spare held fuel t cs = some x → ∃ a, d.K w a cs ∧ g a

theorem opens_int {t : TypeId} {k : IntKind} (ht : P.underlying t = some (.int k)) : Opens enc P w base spare held t (Kd.int k) (fun a => (Lit.int k a).wf = true) := by
  intro fuel cs x h
  obtain ⟨n, rfl, _, hw⟩ := DataW.trod_int ht h
  exact ⟨n, rfl, hw⟩

theorem choose_list {α : Type} (n : Nat) (p : Nat → α → Prop) (h : ∀ i, i < n → ∃ a, p i a) : ∃ l : List α, l.length = n ∧ ∀ i a, l[i]? = some a → p i a := by
  induction n with
  | zero => exact ⟨[], rfl, fun i a hi => by simp at hi⟩
  | succ n ih =>
    obtain ⟨l, hl, hp⟩ := ih (fun i hi => h i (by omega))
    obtain ⟨a, ha⟩ := h n (by omega)
    refine ⟨l ++ [a], by simp [hl], fun i b hi => ?_⟩
    by_cases hin : i < n
    · rw [List.getElem?_append_left (by omega)] at hi
      exact hp i b hi
    · by_cases e : i = n
      · subst e
        rw [List.getElem?_append_right (by omega), hl] at hi
        simp at hi
        subst hi
        exact ha
      · rw [List.getElem?_append_right (by omega), hl, List.getElem?_eq_none (by simp; omega)] at hi
        cases hi

theorem opens_slice {α : Type} {t e : TypeId} {d : Kd α} {g : α → Prop} (ht : P.underlying t = some (.slice e)) (hc : P.cellsOf e = d.sz) (he : Opens enc P w base spare held e d g) :
    Opens enc P w base spare held t (Kd.slice e d) (fun l => l.length ≤ maxLen ∧ ∀ a ∈ l, g a) := by
  intro fuel cs x h
  rcases DataW.trod_slice ht h with ⟨rfl, _⟩ | ⟨a, len, cap, elems, rest, n, _, rfl, _, _, hl, hm, hlen, hel, _⟩
  · exact ⟨[], ⟨none, 0, rfl, Nat.le_refl _, rfl, Nat.zero_le _, fun h0 => absurd h0 (Nat.lt_irrefl 0)⟩, Nat.zero_le _, fun a ha => absurd ha List.not_mem_nil⟩
  · have hp : ∀ i, i < len → ∃ q : α, (∃ c : List Value, c.length = d.sz ∧ d.K w q c ∧ ∀ j u, c[j]? = some u → w.cell? (a.add (i * d.sz + j)) = some u) ∧ g q := by
      intro i hi
      have h1 := hel i hi
      have hi' : i < elems.length := by omega
      rw [List.getElem?_eq_getElem hi', Option.bind_eq_some_iff] at h1
      obtain ⟨c, hcs, hy⟩ := h1
      obtain ⟨q, hk, hg⟩ := he _ _ _ hy
      obtain ⟨_, hcl, hat⟩ := World.cells?_some hcs
      refine ⟨q, ⟨c, hcl.trans hc, hk, fun j u hu => ?_⟩, hg⟩
      have hj : j < P.cellsOf e := by
        have := (List.getElem?_eq_some_iff.1 hu).1
        omega
      have h2 := hat j hj
      rw [hu, hc] at h2
      have h3 : (a.add (i * d.sz)).add j = a.add (i * d.sz + j) := by
        exact Go.Deep.add_add a (i * d.sz) j
      rw [h3] at h2
      exact h2
    obtain ⟨l, hll, hall⟩ := choose_list len _ hp
    subst hll
    refine ⟨l, ⟨some a, cap, rfl, hl, ?_⟩, Nat.le_trans hl hm, fun q hq => ?_⟩
    · refine ⟨rfl, ?_, fun _ => ⟨a, rfl, fun j p hj => (hall j p hj).1⟩⟩
      have := Nat.le_trans hl hm
      unfold maxLen at this
      exact this
    · obtain ⟨i, hi⟩ := List.getElem?_of_mem hq
      exact (hall i q hi).2

/-- A field: its cells are those that stand at its place. -/
theorem field_of {α : Type} {t : TypeId} {fs : Array Field} {d : Kd α} {g : α → Prop} {fuel : Nat} {cs : List Value} {x : DataW H × List MemPlace} (ht : P.underlying t = some (.struct fs)) (h : DataW.trod enc P w base spare held fuel t cs = some x)
    (i : Nat) (f : Field) (hf : fs[i]? = some f) (ho : Opens enc P w base spare held f.type d g) (off sz : Nat) (h0 : f.offset = off) (h1 : P.cellsOf f.type = sz) : ∃ a, d.K w a ((cs.drop off).take sz) ∧ g a := by
  subst h0 h1
  obtain ⟨xs, n, _, _, _, hl, hat⟩ := DataW.trod_struct ht h
  have hi : i < xs.length := by
    rw [hl]
    exact (Array.getElem?_eq_some_iff.1 hf).1
  have h2 := hat i f hf
  rw [List.getElem?_eq_getElem hi] at h2
  exact ho _ _ _ h2

theorem cells_len {t : TypeId} {fs : Array Field} {fuel : Nat} {cs : List Value} {x : DataW H × List MemPlace} (ht : P.underlying t = some (.struct fs)) (h : DataW.trod enc P w base spare held fuel t cs = some x) : cs.length = P.cellsOf t := by
  obtain ⟨xs, n, _, _, hl, _⟩ := DataW.trod_struct ht h
  exact hl

theorem K_pair {α β : Type} {a : Kd α} {b : Kd β} {x : α} {y : β} {cs : List Value} (n : Nat) (h0 : a.K w x (cs.take n)) (h1 : b.K w y (cs.drop n)) : (Kd.pair a b).K w (x, y) cs :=
  ⟨cs.take n, cs.drop n, (List.take_append_drop n cs).symm, h0, h1⟩

theorem drop_drop' (cs : List Value) (m n : Nat) : (cs.drop m).drop n = cs.drop (m + n) := List.drop_drop

theorem K_pair' {α β : Type} {a : Kd α} {b : Kd β} {x : α} {y : β} {cs : List Value} (off n : Nat) (h0 : a.K w x ((cs.drop off).take n)) (h1 : b.K w y (cs.drop (off + n))) : (Kd.pair a b).K w (x, y) (cs.drop off) :=
  K_pair n h0 (by rw [drop_drop']; exact h1)

theorem K_last {α : Type} {a : Kd α} {x : α} {cs : List Value} (off n : Nat) (h0 : a.K w x ((cs.drop off).take n)) (hl : cs.length ≤ off + n) : a.K w x (cs.drop off) := by
  rw [List.take_of_length_le (by rw [List.length_drop]; omega)] at h0
  exact h0

theorem K_all {α : Type} {a : Kd α} {x : α} {cs : List Value} (h0 : a.K w x (cs.drop 0)) : a.K w x cs := h0

theorem okWide_agg {r : Reach} {t : TypeId} {fs : Array Field} {v : Value} (ht : P.underlying t = some (.struct fs)) (h : Value.okWide P w r base t v) : ∃ cs, v = .agg cs := by
  obtain ⟨cs, h, _⟩ := okWide_struct ht h
  exact ⟨cs, h⟩

theorem agg_of {cs : Array Value} {l : List Value} (h : (Value.agg cs).cells.toList = l) : cs = l.toArray := by
  subst h
  simp [Value.cells]

end
end Go.Proofs.Ytalnlphinlfenaa.XOpen
end

section
namespace Go.Proofs.Ytalnlphinlfenaa.tableZero
open Go.ChangeShapes Go.WideShapes Go.ChangeAt Go.RowKit Go.Proofs.Ytalnlphinlfenaa.S Go.Proofs.YtalnlphinlfenaaW.PrintWords Go.Proofs.Ytalnlphinlfenaa.XOpen
open Go.ChangeMaps (open_string shut_string)
set_option linter.unusedVariables false
theorem own : ownKnob Try.prog.godebug = none := by kernel_rfl
theorem laidOut : laidOutB Try.prog = true := by kernel_rfl
theorem opens_S35 {H : Type} {enc : TypeId × Value → H} {w : World} {base : Nat} {spare : Nat → Bool} {held : Bool} : Opens enc Try.prog w base spare held 35 k35 (fun a => ((Lit.int .i64 a.f0).wf = true ∧ (a.f1.length ≤ maxLen ∧ ∀ y_ ∈ a.f1, (Lit.int .i64 y_).wf = true) ∧ (Lit.int .i64 a.f2).wf = true ∧ (Lit.int .u8 a.f3).wf = true)) := by
  intro fuel cs x h
  have hl : cs.length = 4 := (cells_len Try.underlying35 h).trans (by kernel_rfl)
  obtain ⟨a0, h0, g0⟩ := field_of Try.underlying35 h 0 _ rfl (opens_int Try.underlying2) 0 1 rfl (by kernel_rfl)
  obtain ⟨a1, h1, g1⟩ := field_of Try.underlying35 h 1 _ rfl (opens_slice Try.underlying22 (by kernel_rfl) (opens_int Try.underlying2)) 1 1 rfl (by kernel_rfl)
  obtain ⟨a2, h2, g2⟩ := field_of Try.underlying35 h 2 _ rfl (opens_int Try.underlying2) 2 1 rfl (by kernel_rfl)
  obtain ⟨a3, h3, g3⟩ := field_of Try.underlying35 h 3 _ rfl (opens_int Try.underlying5) 3 1 rfl (by kernel_rfl)
  refine ⟨⟨a0, a1, a2, a3⟩, ?_, ⟨g0, g1, g2, g3⟩⟩
  exact K_all (K_pair' 0 1 h0 (K_pair' 1 1 h1 (K_pair' 2 1 h2 (K_last 3 1 h3 (by omega)))))
set_option maxRecDepth 100000 in
theorem lifted (os : Os) (started : os.Started) (H : Type) (enc : TypeId × Value → H) :
    ReturnsInHanded {} Try.checked os 4 .any (Rows.tableZeroSpec.pre6 enc Try.prog Try.f4 Rows.tableZeroRow.domain false) (Rows.tableZeroSpec.post enc Try.prog Try.f4 false true false false) := by
  refine returnsInHanded_of_change_sized (C := Try.checked) own started (by kernel_rfl) Try.func4
    (ChangeSpec.witness6 (enc := enc) (C := Try.checked) false ⟨#[], #[.agg #[.int .i64 0, .slice none 0 0, .int .i64 0, .int .u8 0]], []⟩ 8 (by kernel_rfl) (by kernel_rfl) (by kernel_rfl) (by kernel_rfl)) ?_
  intro W base args ds gs before hval0 hW hcnd hsz0 _
  have hval : ∀ (j : Nat) t v, Try.f4.params[j]? = some t → args[j]? = some v → Value.okWide Try.prog W .any base t v := hval0
  have hW' := hW
  obtain ⟨p, q, hA0, hV, rfl, hfz, hnd⟩ := hW
  have hA : DataW.TrodAll enc Try.prog W 0 (fun _ => true) true Try.f4.params.toList args.toList ds p := hA0
  rw [Try.params4] at hA hval
  obtain ⟨v0, vs0, d0, ds0, p0, q0, hargs, rfl, rfl, h0, r0⟩ := trodAll_cons hA
  obtain ⟨rfl, rfl, rfl⟩ := trodAll_nil r0
  obtain rfl : args = #[v0] := by cases args; simp_all
  obtain ⟨rfl, rfl⟩ := trodVars_none hV
  clear hA0 hsz0
  have k0 := h0
  have lt0 : ∀ x ∈ p0, x.block < W.heap.size := by obtain ⟨m, hm⟩ := k0; exact DataW.trod_lt m _ _ _ hm
  obtain ⟨u0, hf0⟩ := h0
  obtain ⟨s0, hk0, hg0⟩ := opens_S35 _ _ _ hf0
  obtain ⟨A0_1, c0_1, he0, hc0_1, hr0_1⟩ := k35_open hk0
  obtain ⟨b0, rfl⟩ := okWide_agg Try.underlying35 (hval 0 35 v0 rfl rfl)
  obtain rfl := agg_of he0
  refine (S.lombardlaw11_TableZero.walk Pure.TableZero s0.f0 _ _ s0.f1 s0.f2 s0.f3 W hr0_1 hc0_1 hg0.1 hg0.2.1 hg0.2.2.1 hg0.2.2.2).mono fun e W' ⟨he, bel⟩ => ?_
  subst he
  exact ⟨_, rfl, _, _, _, [], _, [], hW', trodAll_mk1 (shut_bool Try.underlying4 _), (trodAll_cons_mk (Below.trod laidOut (by kernel_rfl) (of_decide_eq_true (by kernel_rfl)) k0 bel lt0) trodAll_mk0), rfl, bel.frame _, fun h => by cases h⟩
theorem over : Rows.tableZeroRow.holds Try.pinned (OpenSpec.ofChange Rows.tableZeroSpec) :=
  OpenClaim.holds_of_wide 4 Try.f4 rfl rfl rfl rfl rfl rfl rfl ⟨rfl, rfl, rfl, rfl, rfl⟩ rfl rfl rfl rfl rfl (by kernel_rfl) Try.func4 (by kernel_rfl)
    (of_decide_eq_true (by kernel_rfl)) (by unfold Func.isWrapper; first | (rw [if_pos (by decide +kernel)]; kernel_rfl) | (rw [if_neg (by decide +kernel)]; exact ⟨rfl, rfl⟩))
    (fun os started H enc _ => lifted os started H enc)
theorem proved : Rows.TableZeroSaid := over
#print axioms proved
end Go.Proofs.Ytalnlphinlfenaa.tableZero
namespace Go.Proofs.Ytalnlphinlfenaa
/-- The row, under a short name, for the claim. -/
theorem tableZero_holds : Rows.TableZeroSaid := tableZero.proved
end Go.Proofs.Ytalnlphinlfenaa
end
