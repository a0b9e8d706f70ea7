/-
  Rows of 260 bits: sums, differences, quotients bit by bit, as plain laws of numbers.
  Conditions: none beyond those that each theorem names.
-/
import Derived.Lib.EndianBits
namespace Go.Proofs.Ytohbdjfabghagaa.BigMath
set_option linter.unusedVariables false
set_option linter.unusedSimpArgs false
open Go

/-- bit i of N -/
def bitN (N i : Nat) : Nat := N / 2 ^ i % 2
theorem bitN_test (N i : Nat) : bitN N i = (N.testBit i).toNat := (Nat.toNat_testBit N i).symm
theorem bitN_lt (N i : Nat) : bitN N i < 2 := Nat.mod_lt _ (by omega)
theorem bitN_mod (N m i : Nat) : bitN (N % 2 ^ m) i = if i < m then bitN N i else 0 := by
  rw [bitN_test, bitN_test, Nat.testBit_mod_two_pow]
  split <;> simp [*]
theorem bitN_mul (N m i : Nat) : bitN (N * 2 ^ m) i = if m ≤ i then bitN N (i - m) else 0 := by
  rw [bitN_test, bitN_test, Nat.testBit_mul_two_pow]
  split <;> simp [*]
theorem bitN_high (N m i : Nat) : bitN (N / 2 ^ m * 2 ^ m) i = if m ≤ i then bitN N i else 0 := by
  rw [bitN_mul]
  split
  · rw [bitN_test, bitN_test, Nat.testBit_div_two_pow]
    congr 2
    omega
  · rfl
theorem bitN_zero (i : Nat) : bitN 0 i = 0 := by simp [bitN]
theorem bitN_big {N m i : Nat} (h : N < 2 ^ m) (hi : m ≤ i) : bitN N i = 0 := by
  have : N = N % 2 ^ m := (Nat.mod_eq_of_lt h).symm
  rw [this, bitN_mod, if_neg (by omega)]
theorem mod_up (N i : Nat) : N % 2 ^ (i + 1) = N % 2 ^ i + 2 ^ i * bitN N i := Nat.mod_pow_succ
theorem div_down (N i : Nat) : N / 2 ^ i = 2 * (N / 2 ^ (i + 1)) + bitN N i := by
  unfold bitN
  rw [Nat.pow_succ, ← Nat.div_div_eq_div_mul]
  omega
theorem bitN_up {R x j : Nat} (hx : x < 2) : bitN (2 * R + x) (j + 1) = bitN R j := by
  unfold bitN
  rw [Nat.pow_succ, Nat.mul_comm (2 ^ j) 2, ← Nat.div_div_eq_div_mul, show (2 * R + x) / 2 = R by omega]
theorem bitN_up0 {R x : Nat} (hx : x < 2) : bitN (2 * R + x) 0 = x := by
  unfold bitN
  rw [Nat.pow_zero, Nat.div_one]
  omega
theorem high_same {Q i : Nat} (hq : bitN Q i = 0) : Q / 2 ^ (i + 1) * 2 ^ (i + 1) = Q / 2 ^ i * 2 ^ i := by
  have e : Q / 2 ^ i = 2 * (Q / 2 ^ (i + 1)) + bitN Q i := by
    unfold bitN
    rw [Nat.pow_succ, ← Nat.div_div_eq_div_mul]
    omega
  rw [hq, Nat.add_zero] at e
  rw [e]
  generalize Q / 2 ^ (i + 1) = X
  rw [Nat.pow_succ, Nat.mul_comm 2 X, Nat.mul_assoc, Nat.mul_comm 2 (2 ^ i)]
/-- bits that are alike everywhere -/
theorem same_bits {a b m : Nat} (ha : a < 2 ^ m) (hb : b < 2 ^ m) (h : ∀ i, i < m → bitN a i = bitN b i) : a = b := by
  apply Nat.eq_of_testBit_eq
  intro i
  by_cases c : i < m
  · have := h i c
    rw [bitN_test, bitN_test] at this
    revert this
    cases a.testBit i <;> cases b.testBit i <;> simp
  · rw [Nat.testBit_lt_two_pow (Nat.lt_of_lt_of_le ha (Nat.pow_le_pow_right (by omega) (by omega))), Nat.testBit_lt_two_pow (Nat.lt_of_lt_of_le hb (Nat.pow_le_pow_right (by omega) (by omega)))]

/-- one bit laid beside those below it -/
theorem or_bit {N i : Nat} (hi : i < 64) : Go.bits .or .u64 ((N % 2 ^ i : Nat) : Int) (IntKind.u64.wrap (((bitN N i : Nat) : Int) * 2 ^ i)) = ((N % 2 ^ (i + 1) : Nat) : Int) := by
  have h1 := bitN_lt N i
  have P : 0 < 2 ^ i := Nat.two_pow_pos i
  have lt : N % 2 ^ i < 2 ^ i := Nat.mod_lt _ P
  have ub : 2 ^ i ≤ 2 ^ 63 := Nat.pow_le_pow_right (by omega) (by omega)
  have e64 : (2 : Nat) ^ 63 = 9223372036854775808 := by decide
  have m : bitN N i * 2 ^ i ≤ 2 ^ i := by
    have : bitN N i ≤ 1 := by omega
    have := Nat.mul_le_mul_right (2 ^ i) this
    omega
  have c : ((bitN N i : Nat) : Int) * 2 ^ i = ((bitN N i * 2 ^ i : Nat) : Int) := by push_cast; rfl
  rw [c, u64_wrap_id _ (by omega) (by omega)]
  rw [bits_join_low .u64 64 (by decide) wraps_u64 i _ _ (by omega) (by exact_mod_cast lt) (by
    have : ((2 : Int) ^ 64) = 18446744073709551616 := by decide
    rw [this]
    omega) (by omega) (by
    have : (bitN N i * 2 ^ i) % 2 ^ i = 0 := Nat.mul_mod_left _ _
    exact_mod_cast this) (by
    have : ((2 : Int) ^ 64) = 18446744073709551616 := by decide
    rw [this]
    omega)]
  rw [mod_up, Nat.mul_comm (2 ^ i)]
  omega
-- ------------------------------------------------ sums
/-- what is carried to bit i -/
def carry (a b i : Nat) : Nat := (a % 2 ^ i + b % 2 ^ i) / 2 ^ i
theorem carry_zero (a b : Nat) : carry a b 0 = 0 := by simp [carry, Nat.mod_one]
theorem carry_lt (a b i : Nat) : carry a b i < 2 := by
  unfold carry
  have h1 := Nat.mod_lt a (Nat.two_pow_pos i)
  have h2 := Nat.mod_lt b (Nat.two_pow_pos i)
  rw [Nat.div_lt_iff_lt_mul (Nat.two_pow_pos i)]
  omega
theorem plus_step (a b i : Nat) : bitN a i + bitN b i + carry a b i = 2 * carry a b (i + 1) + bitN (a + b) i := by
  have hp := Nat.two_pow_pos i
  have e1 : carry a b (i + 1) = (carry a b i + bitN a i + bitN b i) / 2 := by
    unfold carry
    rw [mod_up, mod_up, Nat.pow_succ, ← Nat.div_div_eq_div_mul]
    congr 1
    rw [show a % 2 ^ i + 2 ^ i * bitN a i + (b % 2 ^ i + 2 ^ i * bitN b i) = a % 2 ^ i + b % 2 ^ i + 2 ^ i * (bitN a i + bitN b i) by rw [Nat.mul_add]; omega, Nat.add_mul_div_left _ _ hp]
    omega
  have e2 : bitN (a + b) i = (carry a b i + bitN a i + bitN b i) % 2 := by
    unfold bitN carry
    have ha := Nat.div_add_mod a (2 ^ i)
    have hb := Nat.div_add_mod b (2 ^ i)
    have : (a + b) / 2 ^ i = (a % 2 ^ i + b % 2 ^ i) / 2 ^ i + a / 2 ^ i + b / 2 ^ i := by
      rw [show a + b = a % 2 ^ i + b % 2 ^ i + 2 ^ i * (a / 2 ^ i + b / 2 ^ i) by rw [Nat.mul_add]; omega, Nat.add_mul_div_left _ _ hp]
      omega
    rw [this]
    omega
  rw [e1, e2]
  omega

-- ------------------------------------------------ differences
/-- what is borrowed at bit i -/
def borrow (a b i : Nat) : Nat := if a % 2 ^ i < b % 2 ^ i then 1 else 0
theorem borrow_zero (a b : Nat) : borrow a b 0 = 0 := by simp [borrow, Nat.mod_one]
theorem borrow_lt (a b i : Nat) : borrow a b i < 2 := by unfold borrow; split <;> omega
theorem minus_step {a b : Nat} (h : b ≤ a) (i : Nat) : bitN (a - b) i = (2 + bitN a i - bitN b i - borrow a b i) % 2 ∧ borrow a b (i + 1) = 1 - (2 + bitN a i - bitN b i - borrow a b i) / 2 := by
  have hp := Nat.two_pow_pos i
  have la := bitN_lt a i
  have lb := bitN_lt b i
  have lx := Nat.mod_lt a hp
  have ly := Nat.mod_lt b hp
  constructor
  · have ha := Nat.div_add_mod a (2 ^ i)
    have hb := Nat.div_add_mod b (2 ^ i)
    have key : (a - b) / 2 ^ i = a / 2 ^ i - b / 2 ^ i - borrow a b i ∧ b / 2 ^ i + borrow a b i ≤ a / 2 ^ i := by
      have hle := Nat.div_le_div_right (c := 2 ^ i) h
      unfold borrow
      by_cases c : a % 2 ^ i < b % 2 ^ i
      · rw [if_pos c]
        have hlt : b / 2 ^ i < a / 2 ^ i := by
          rcases Nat.lt_or_ge (b / 2 ^ i) (a / 2 ^ i) with d | d
          · exact d
          · have : a / 2 ^ i = b / 2 ^ i := by omega
            rw [this] at ha
            omega
        refine ⟨?_, by omega⟩
        have e : a - b = 2 ^ i + a % 2 ^ i - b % 2 ^ i + 2 ^ i * (a / 2 ^ i - b / 2 ^ i - 1) := by
          obtain ⟨d, hd⟩ : ∃ d, a / 2 ^ i = b / 2 ^ i + 1 + d := ⟨a / 2 ^ i - b / 2 ^ i - 1, by omega⟩
          rw [hd] at ha ⊢
          rw [show b / 2 ^ i + 1 + d - b / 2 ^ i - 1 = d by omega]
          rw [Nat.mul_add, Nat.mul_add, Nat.mul_one] at ha
          omega
        rw [e, Nat.add_mul_div_left _ _ hp, Nat.div_eq_of_lt (by omega)]
        omega
      · rw [if_neg c]
        refine ⟨?_, by omega⟩
        have e : a - b = a % 2 ^ i - b % 2 ^ i + 2 ^ i * (a / 2 ^ i - b / 2 ^ i) := by
          obtain ⟨d, hd⟩ : ∃ d, a / 2 ^ i = b / 2 ^ i + d := ⟨a / 2 ^ i - b / 2 ^ i, by omega⟩
          rw [hd] at ha ⊢
          rw [show b / 2 ^ i + d - b / 2 ^ i = d by omega]
          rw [Nat.mul_add] at ha
          omega
        rw [e, Nat.add_mul_div_left _ _ hp, Nat.div_eq_of_lt (by omega)]
        omega
    obtain ⟨k1, k2⟩ := key
    have l := borrow_lt a b i
    unfold bitN
    rw [k1]
    omega
  · unfold borrow
    rw [mod_up, mod_up]
    have m1 : bitN a i = 0 ∨ bitN a i = 1 := by omega
    have m2 : bitN b i = 0 ∨ bitN b i = 1 := by omega
    rcases m1 with m1 | m1 <;> rcases m2 with m2 | m2 <;> rw [m1, m2] <;> split <;> split <;> omega

-- ------------------------------------------------ how two stand
theorem size_step {a b i : Nat} (h : a / 2 ^ (i + 1) = b / 2 ^ (i + 1)) : (bitN a i = bitN b i → a / 2 ^ i = b / 2 ^ i) ∧ (bitN a i < bitN b i → a < b) ∧ (bitN b i < bitN a i → b < a) := by
  have ha := div_down a i
  have hb := div_down b i
  refine ⟨fun e => by omega, fun e => ?_, fun e => ?_⟩
  · rcases Nat.lt_or_ge a b with c | c
    · exact c
    · have := Nat.div_le_div_right (c := 2 ^ i) c
      omega
  · rcases Nat.lt_or_ge b a with c | c
    · exact c
    · have := Nat.div_le_div_right (c := 2 ^ i) c
      omega

-- ------------------------------------------------ quotients
theorem rest_step {b : Nat} (hb : 0 < b) (a i : Nat) :
    (2 * (a / 2 ^ (i + 1) % b) + bitN a i < b → a / 2 ^ i % b = 2 * (a / 2 ^ (i + 1) % b) + bitN a i ∧ bitN (a / b) i = 0) ∧
    (b ≤ 2 * (a / 2 ^ (i + 1) % b) + bitN a i → a / 2 ^ i % b = 2 * (a / 2 ^ (i + 1) % b) + bitN a i - b ∧ bitN (a / b) i = 1) := by
  have h := div_down a i
  have e := Nat.div_add_mod (a / 2 ^ (i + 1)) b
  have lr := Nat.mod_lt (a / 2 ^ (i + 1)) hb
  have lb := bitN_lt a i
  have comm : a / b / 2 ^ i = a / 2 ^ i / b := by rw [Nat.div_div_eq_div_mul, Nat.div_div_eq_div_mul, Nat.mul_comm]
  generalize a / 2 ^ (i + 1) % b = r at *
  generalize a / 2 ^ (i + 1) / b = q at *
  constructor
  · intro c
    have x : a / 2 ^ i = 2 * r + bitN a i + b * (2 * q) := by
      rw [h, ← e, Nat.mul_add, Nat.mul_left_comm]
      omega
    constructor
    · rw [x, Nat.add_mul_mod_self_left, Nat.mod_eq_of_lt c]
    · unfold bitN
      rw [comm, x, Nat.add_mul_div_left _ _ hb, Nat.div_eq_of_lt c]
      omega
  · intro c
    have x : a / 2 ^ i = (2 * r + bitN a i - b) + b * (2 * q + 1) := by
      rw [h, ← e, Nat.mul_add, Nat.mul_add, Nat.mul_left_comm]
      omega
    constructor
    · rw [x, Nat.add_mul_mod_self_left, Nat.mod_eq_of_lt (by omega)]
    · unfold bitN
      rw [comm, x, Nat.add_mul_div_left _ _ hb, Nat.div_eq_of_lt (by omega)]
      omega

-- ------------------------------------------------ two's complement, bit by bit
theorem ofInt_mod (x : Int) : BitVec.ofInt 64 (x % 18446744073709551616) = BitVec.ofInt 64 x := by
  apply BitVec.eq_of_toNat_eq
  simp only [BitVec.toNat_ofInt]
  omega
theorem ofInt_wrap (x : Int) : BitVec.ofInt 64 (IntKind.i64.wrap x) = BitVec.ofInt 64 x := by
  rw [← ofInt_mod (IntKind.i64.wrap x), ← ofInt_mod x, IntKind.wrap_i64]
  congr 1
  omega
theorem or_signed (x y : Int) : bits .or .i64 (IntKind.i64.wrap x) (IntKind.i64.wrap y) = IntKind.i64.wrap (bits .or .u64 x y) := by
  show IntKind.i64.wrap _ = IntKind.i64.wrap (IntKind.u64.wrap _)
  rw [show IntKind.i64.bits = 64 from rfl, show IntKind.u64.bits = 64 from rfl, ofInt_wrap, ofInt_wrap]
  generalize (BitVec.ofInt 64 x).or (BitVec.ofInt 64 y) = z
  rw [IntKind.wrap_i64, IntKind.wrap_i64, IntKind.wrap_u64]
  omega
/-- one bit laid beside those below it, in a signed word -/
theorem or_bit_signed {N i : Nat} (hi : i < 64) : bits .or .i64 (IntKind.i64.wrap ((N % 2 ^ i : Nat) : Int)) (IntKind.i64.wrap (((bitN N i : Nat) : Int) * 2 ^ i)) = IntKind.i64.wrap ((N % 2 ^ (i + 1) : Nat) : Int) := by
  rw [← or_bit hi, or_signed]
  congr 1
  show IntKind.u64.wrap _ = IntKind.u64.wrap _
  have q : BitVec.ofInt 64 (IntKind.u64.wrap (((bitN N i : Nat) : Int) * 2 ^ i)) = BitVec.ofInt 64 (((bitN N i : Nat) : Int) * 2 ^ i) := by rw [IntKind.wrap_u64, ofInt_mod]
  rw [show IntKind.u64.bits = 64 from rfl, q]
/-- what is carried to bit i of 0 less N -/
def turn (N i : Nat) : Nat := if N % 2 ^ i = 0 then 1 else 0
theorem turn_zero (N : Nat) : turn N 0 = 1 := by simp [turn, Nat.mod_one]
theorem turn_lt (N i : Nat) : turn N i < 2 := by unfold turn; split <;> omega
theorem turn_step {N m i : Nat} (hN : N ≤ 2 ^ m) (hi : i < m) : 1 - bitN N i + turn N i = 2 * turn N (i + 1) + bitN ((2 ^ m - N) % 2 ^ m) i := by
  have hp := Nat.two_pow_pos i
  obtain ⟨q, hq⟩ : ∃ q, 2 ^ m = 2 * 2 ^ i * (q + 1) := by
    refine ⟨2 ^ (m - i - 1) - 1, ?_⟩
    have : 0 < 2 ^ (m - i - 1) := Nat.two_pow_pos _
    rw [show 2 ^ (m - i - 1) - 1 + 1 = 2 ^ (m - i - 1) by omega, ← Nat.pow_succ', ← Nat.pow_add]
    congr 1
    omega
  have hb := bitN_lt N i
  have hr : N % 2 ^ i < 2 ^ i := Nat.mod_lt _ hp
  have hu := mod_up N i
  rw [bitN_mod, if_pos hi]
  unfold turn
  rw [hu]
  have hd := Nat.div_add_mod N (2 * 2 ^ i)
  have hs : 2 ^ (i + 1) = 2 * 2 ^ i := by rw [Nat.pow_succ]; omega
  rw [hs] at hu
  rw [hu] at hd
  have hk : N / (2 * 2 ^ i) ≤ q + 1 := by
    rw [hq] at hN
    have := Nat.div_le_div_right (c := 2 * 2 ^ i) hN
    rw [Nat.mul_div_cancel_left _ (by omega)] at this
    exact this
  generalize N / (2 * 2 ^ i) = k at *
  have key : ∀ x : Nat, bitN (2 * 2 ^ i * x) i = 0 := fun x => by
    unfold bitN
    rw [show 2 * 2 ^ i * x = 2 ^ i * (2 * x) by rw [Nat.mul_comm 2, Nat.mul_assoc], Nat.mul_div_cancel_left _ hp]
    omega
  have keyb : ∀ x y : Nat, y < 2 * 2 ^ i → bitN (2 * 2 ^ i * x + y) i = y / 2 ^ i := fun x y hy => by
    unfold bitN
    rw [show 2 * 2 ^ i * x + y = y + 2 ^ i * (2 * x) by rw [Nat.mul_comm 2 (2 ^ i), Nat.mul_assoc, Nat.add_comm], Nat.add_mul_div_left _ _ hp]
    have : y / 2 ^ i < 2 := by rw [Nat.div_lt_iff_lt_mul hp]; omega
    rw [Nat.add_mul_mod_self_left]
    exact Nat.mod_eq_of_lt this
  generalize hP : 2 ^ i = P at *
  generalize N % P = r at *
  generalize bitN N i = b at *
  obtain ⟨d, hd2⟩ : ∃ d, q + 1 = k + d := ⟨q + 1 - k, by omega⟩
  have e : 2 ^ m - N = 2 * P * d - (r + P * b) := by
    rw [hq, hd2, ← hd, Nat.mul_add]
    omega
  rw [e]
  rcases Nat.lt_or_ge b 1 with hb0 | hb1
  · obtain rfl : b = 0 := by omega
    rw [Nat.mul_zero, Nat.add_zero] at *
    by_cases h0 : r = 0
    · subst h0
      simp only [Nat.sub_zero, key]
      simp
    · rcases d with _ | d
      · exfalso
        rw [hq, hd2] at hN
        rw [Nat.add_zero] at hN
        omega
      · rw [show 2 * P * (d + 1) - r = 2 * P * d + (2 * P - r) by rw [Nat.mul_add]; omega, keyb _ _ (by omega)]
        have : (2 * P - r) / P = 1 := by
          rw [show 2 * P - r = (P - r) + P * 1 by omega, Nat.add_mul_div_left _ _ hp, Nat.div_eq_of_lt (by omega)]
        rw [this, if_neg h0]
  · obtain rfl : b = 1 := by omega
    rw [Nat.mul_one] at *
    rcases d with _ | d
    · exfalso
      rw [hq, hd2] at hN
      rw [Nat.add_zero] at hN
      omega
    · rw [show 2 * P * (d + 1) - (r + P) = 2 * P * d + (P - r) by rw [Nat.mul_add]; omega, keyb _ _ (by omega)]
      by_cases h0 : r = 0
      · subst h0
        simp only [Nat.sub_zero, Nat.zero_add]
        rw [Nat.div_self hp, if_pos True.intro, if_neg (by omega)]
      · rw [Nat.div_eq_of_lt (by omega), if_neg h0, if_neg (by omega)]
end Go.Proofs.Ytohbdjfabghagaa.BigMath
