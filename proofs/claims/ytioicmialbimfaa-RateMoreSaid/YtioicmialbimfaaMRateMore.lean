/- The statement RateMoreSaid: for every input the law returns true, and each argument reads afterwards as it read before. Conditions: none. -/
import Derived.Test.YtioicmialbimfaaXBits
import Derived.Test.YtioicmialbimfaaSxWideMulDiv
import Derived.Test.YtioicmialbimfaaSx0
import Derived.Test.YtioicmialbimfaaSxRateInterest
import Derived.Test.YtioicmialbimfaaSxRateGrow
import Derived.Test.YtioicmialbimfaaSxRateDiscount
import Derived.Test.YtioicmialbimfaaSxRatePower
import Derived.Test.YtioicmialbimfaaSxLombardlaw03Alive
import Derived.Test.YtioicmialbimfaaSxLombardlaw03RateMore
import Derived.Test.YtioicmialbimfaaWWords
import Derived.ChangeArms
import Derived.DataReads
import Derived.WideShapes
import Derived.Deep.Slices
import Derived.Test.YtioicmialbimfaaRows
import Derived.WalkKit
import Derived.ProofKit
import Derived.OpenShut
import Derived.ShutString
import Derived.ChangeOld
import Derived.Below
import Derived.SizedLaws
import Derived.Carry
section
namespace Go.Proofs.Ytioicmialbimfaa.Rnd
set_option linter.unusedVariables false
set_option linter.unusedSimpArgs false

/-- A over b rounded to the nearer whole number, to the even one of two; b above 0. -/
def near (A b : Int) : Int := if 2 * (A % b) > b ∨ 2 * (A % b) = b ∧ (A / b) % 2 = 1 then A / b + 1 else A / b

theorem div_split (A b : Int) (hb : 0 < b) : A = b * (A / b) + A % b ∧ 0 ≤ A % b ∧ A % b < b :=
  ⟨(Int.mul_ediv_add_emod A b).symm, Int.emod_nonneg A (by omega), Int.emod_lt_of_pos A hb⟩

theorem near_spec {A b : Int} (hb : 0 < b) : 2 * (b * near A b) ≤ 2 * A + b ∧ 2 * A ≤ 2 * (b * near A b) + b ∧
    (2 * (b * near A b) = 2 * A + b ∨ 2 * A = 2 * (b * near A b) + b → near A b % 2 = 0) := by
  obtain ⟨h, h0, h1⟩ := div_split A b hb
  unfold near
  generalize A % b = r at *
  generalize A / b = q at *
  split
  · rw [Int.mul_add, Int.mul_one]
    generalize b * q = m at *
    refine ⟨by omega, by omega, by omega⟩
  · generalize b * q = m at *
    refine ⟨by omega, by omega, by omega⟩

theorem mul_step {b N M : Int} (hb : 0 < b) (h : N < M) : b * N + b ≤ b * M := by
  have : b * (N + 1) ≤ b * M := Int.mul_le_mul_of_nonneg_left (by omega) (by omega)
  rw [Int.mul_add, Int.mul_one] at this
  exact this

theorem near_mono {A A' b : Int} (hb : 0 < b) (h : A ≤ A') : near A b ≤ near A' b := by
  obtain ⟨a1, a2, a3⟩ := near_spec (A := A) hb
  obtain ⟨b1, b2, b3⟩ := near_spec (A := A') hb
  generalize near A b = N at *
  generalize near A' b = M at *
  by_cases c : N ≤ M
  · exact c
  have s := mul_step hb (show M < N by omega)
  have s2 : M + 2 ≤ N → b * M + 2 * b ≤ b * N := fun h => by
    have := mul_step hb (show M < M + 1 by omega)
    have := mul_step hb (show M + 1 < N by omega)
    omega
  by_cases d : M + 2 ≤ N
  · have := s2 d
    omega
  have e : N = M + 1 := by omega
  subst e
  rw [Int.mul_add, Int.mul_one] at *
  omega

theorem near_uniq {A b N : Int} (hb : 0 < b) (h1 : 2 * (b * N) ≤ 2 * A + b) (h2 : 2 * A ≤ 2 * (b * N) + b)
    (h3 : 2 * (b * N) = 2 * A + b ∨ 2 * A = 2 * (b * N) + b → N % 2 = 0) : near A b = N := by
  obtain ⟨a1, a2, a3⟩ := near_spec (A := A) hb
  generalize near A b = M at *
  rcases Int.lt_trichotomy M N with c | c | c
  · have s := mul_step hb c
    by_cases d : M + 2 ≤ N
    · have := mul_step hb (show M < M + 1 by omega)
      have := mul_step hb (show M + 1 < N by omega)
      omega
    have e : N = M + 1 := by omega
    subst e
    rw [Int.mul_add, Int.mul_one] at *
    omega
  · exact c
  · have s := mul_step hb c
    by_cases d : N + 2 ≤ M
    · have := mul_step hb (show N < N + 1 by omega)
      have := mul_step hb (show N + 1 < M by omega)
      omega
    have e : M = N + 1 := by omega
    subst e
    rw [Int.mul_add, Int.mul_one] at *
    omega

theorem near_neg {A b : Int} (hb : 0 < b) : near (-A) b = -near A b := by
  obtain ⟨a1, a2, a3⟩ := near_spec (A := A) hb
  have e : b * -near A b = -(b * near A b) := Int.mul_neg _ _
  refine near_uniq hb ?_ ?_ ?_ <;> rw [e] <;> omega

theorem near_exact {b N : Int} (hb : 0 < b) : near (b * N) b = N := near_uniq hb (by omega) (by omega) (by omega)

/-- of an amount of 0 or more -/
theorem near_nn {A b : Int} (hb : 0 < b) (h : 0 ≤ A) : 0 ≤ near A b := by
  have := near_mono hb h
  have e : near (b * 0) b = 0 := near_exact hb
  rw [Int.mul_zero] at e
  omega

/-- the quotient: way 0 downwards, way 1 to the nearer one -/
def rnd (A b way : Int) : Int := if way = 0 then (if b < 0 then (-A) / (-b) else A / b) else (if b < 0 then near (-A) (-b) else near A b)

theorem floor_neg {X b : Int} (hb : 0 < b) : (-X) / b = -(X / b + if X % b > 0 then 1 else 0) := by
  obtain ⟨h, h0, h1⟩ := div_split X b hb
  obtain ⟨g, g0, g1⟩ := div_split (-X) b hb
  generalize X % b = r at *
  generalize X / b = q at *
  generalize (-X) % b = r' at *
  generalize (-X) / b = q' at *
  -- b q' + r' = -(b q + r)
  split
  · rcases Int.lt_trichotomy q' (-(q + 1)) with c | c | c
    · have := mul_step hb c
      rw [Int.mul_neg, Int.mul_add, Int.mul_one] at this
      omega
    · omega
    · have := mul_step hb c
      rw [Int.mul_neg, Int.mul_add, Int.mul_one] at this
      omega
  · rcases Int.lt_trichotomy q' (-q) with c | c | c
    · have := mul_step hb c
      rw [Int.mul_neg] at this
      omega
    · omega
    · have := mul_step hb c
      rw [Int.mul_neg] at this
      omega

/-- whether the size of a quotient is rounded up -/
def upf (way X y : Int) (less : Bool) : Bool := if way = 0 then less && decide (X % y > 0) else decide (2 * (X % y) > y ∨ 2 * (X % y) = y ∧ (X / y) % 2 = 1)
/-- by sizes and signs, as the code does it -/
theorem rnd_sizes {A b way X y : Int} (hw : way = 0 ∨ way = 1) (hb : b ≠ 0) (hX : X = if A < 0 then -A else A) (hy : y = if b < 0 then -b else b) :
    rnd A b way = if (decide (A < 0) != decide (b < 0)) = true then -(X / y + (if upf way X y (decide (A < 0) != decide (b < 0)) = true then 1 else 0)) else X / y + (if upf way X y (decide (A < 0) != decide (b < 0)) = true then 1 else 0) := by
  unfold upf
  have hy0 : 0 < y := by subst hy; split <;> omega
  have hX0 : 0 ≤ X := by subst hX; split <;> omega
  rcases hw with rfl | rfl
  · unfold rnd
    rw [if_pos rfl]
    simp only [if_true]
    by_cases c : A < 0
    · rw [if_pos c] at hX
      by_cases d : b < 0
      · rw [if_pos d] at hy ⊢
        rw [decide_eq_true c, decide_eq_true d, ← hX, ← hy]
        simp
      · rw [if_neg d] at hy ⊢
        rw [decide_eq_true c, decide_eq_false d, ← hy]
        have : A = -X := by omega
        rw [this, floor_neg hy0]
        simp
    · rw [if_neg c] at hX
      by_cases d : b < 0
      · rw [if_pos d] at hy ⊢
        rw [decide_eq_false c, decide_eq_true d, ← hX, ← hy, floor_neg hy0]
        simp
      · rw [if_neg d] at hy ⊢
        rw [decide_eq_false c, decide_eq_false d, ← hX, ← hy]
        simp
  · unfold rnd
    rw [if_neg (by omega)]
    simp only [show ((1 : Int) = 0) = False by simp, if_false]
    have hn : (X / y + if decide (2 * (X % y) > y ∨ 2 * (X % y) = y ∧ X / y % 2 = 1) = true then 1 else 0) = near X y := by
      unfold near
      simp only [decide_eq_true_eq]
      split <;> omega
    rw [hn]
    by_cases c : A < 0
    · rw [if_pos c] at hX
      by_cases d : b < 0
      · rw [if_pos d] at hy ⊢
        rw [decide_eq_true c, decide_eq_true d, ← hX, ← hy]
        simp
      · rw [if_neg d] at hy ⊢
        rw [decide_eq_true c, decide_eq_false d, ← hy]
        have : A = -X := by omega
        rw [this, near_neg hy0]
        simp
    · rw [if_neg c] at hX
      by_cases d : b < 0
      · rw [if_pos d] at hy ⊢
        rw [decide_eq_false c, decide_eq_true d, ← hX, ← hy, near_neg hy0]
        simp
      · rw [if_neg d] at hy ⊢
        rw [decide_eq_false c, decide_eq_false d, ← hX, ← hy]
        simp
end Go.Proofs.Ytioicmialbimfaa.Rnd
end

section
namespace Go.Proofs.Ytioicmialbimfaa.XWide
set_option linter.unusedVariables false
set_option linter.unusedSimpArgs false
open Go.RowKit Go.Proofs.Ytioicmialbimfaa.S Go.Proofs.Ytioicmialbimfaa.XNum Go.Proofs.Ytioicmialbimfaa.XBits Go.Proofs.Ytioicmialbimfaa.Rnd Go.Proofs.YtioicmialbimfaaW.PrintWords

abbrev I64 (n : Int) : Prop := -9223372036854775808 ≤ n ∧ n ≤ 9223372036854775807
abbrev U64 (n : Int) : Prop := 0 ≤ n ∧ n < 18446744073709551616

theorem and_ones {b : Int} (hb : I64 b) : Go.bits .and .i64 (-1) b = b := by
  show IntKind.i64.wrap (((BitVec.ofInt 64 (-1) &&& BitVec.ofInt 64 b).toNat : Nat) : Int) = b
  have e : BitVec.ofInt 64 (-1) = BitVec.allOnes 64 := by decide
  rw [e, BitVec.allOnes_and, BitVec.toNat_ofInt]
  simp only [IntKind.wrap, IntKind.bits, IntKind.signed, if_true]
  have := hb.1
  have := hb.2
  simp
  omega
theorem and_none (b : Int) : Go.bits .and .i64 0 b = 0 := by
  show IntKind.i64.wrap (((BitVec.ofInt 64 0 &&& BitVec.ofInt 64 b).toNat : Nat) : Int) = 0
  have e : BitVec.ofInt 64 0 = 0#64 := by decide
  rw [e, BitVec.zero_and]
  decide
theorem and1 {x : Int} (h0 : 0 ≤ x) (h1 : x < 18446744073709551616) : Go.bits .and .u64 x 1 = x % 2 := bits_mask .u64 64 (by decide) wraps_u64 1 (by decide) x h0 h1

theorem mul_bd {a b C D : Int} (ha : -C ≤ a) (ha' : a ≤ C) (hb : -D ≤ b) (hb' : b ≤ D) : -(C * D) ≤ a * b ∧ a * b ≤ C * D := by
  have e : (a * b).natAbs ≤ C.natAbs * D.natAbs := by
    rw [Int.natAbs_mul]
    exact Nat.mul_le_mul (by omega) (by omega)
  have f : C * D = ((C.natAbs * D.natAbs : Nat) : Int) := by
    rw [Int.natCast_mul, Int.natAbs_of_nonneg (by omega), Int.natAbs_of_nonneg (by omega)]
  rw [f]
  omega
theorem mul_i64 {a b : Int} (ha : I64 a) (hb : I64 b) : -85070591730234615865843651857942052864 ≤ a * b ∧ a * b ≤ 85070591730234615865843651857942052864 := by
  have := mul_bd (C := 9223372036854775808) (D := 9223372036854775808) (a := a) (b := b) (by have := ha.1; omega) (by have := ha.2; omega) (by have := hb.1; omega) (by have := hb.2; omega)
  omega

theorem mul {a b : Int} (ha : I64 a) (hb : I64 b) : wide_Mul.f a b = some (a * b / 18446744073709551616, a * b % 18446744073709551616) := by
  have hm := mul_i64 ha hb
  obtain ⟨a0, a1⟩ := ha
  obtain ⟨b0, b1⟩ := hb
  unfold wide_Mul.f
  rw [wu a, wu b, mul64 (by omega) (by omega) (by omega) (by omega)]
  simp only [Option.bind_some]
  by_cases ca : a < 0
  · rw [show a / 9223372036854775808 = -1 by omega, and_ones ⟨b0, b1⟩, show a % 18446744073709551616 = a + 18446744073709551616 by omega]
    by_cases cb : b < 0
    · rw [show b / 9223372036854775808 = -1 by omega, and_ones ⟨a0, a1⟩, show b % 18446744073709551616 = b + 18446744073709551616 by omega]
      have e : (a + 18446744073709551616) * (b + 18446744073709551616) = a * b + a * 18446744073709551616 + b * 18446744073709551616 + 18446744073709551616 * 18446744073709551616 := by grind
      rw [e]
      unfold wrap64
      generalize a * b = m at *
      congr 2 <;> omega
    · rw [show b / 9223372036854775808 = 0 by omega, and_none, show b % 18446744073709551616 = b by omega]
      have e : (a + 18446744073709551616) * b = a * b + b * 18446744073709551616 := by grind
      rw [e]
      unfold wrap64
      generalize a * b = m at *
      congr 2 <;> omega
  · rw [show a / 9223372036854775808 = 0 by omega, and_none, show a % 18446744073709551616 = a by omega]
    by_cases cb : b < 0
    · rw [show b / 9223372036854775808 = -1 by omega, and_ones ⟨a0, a1⟩, show b % 18446744073709551616 = b + 18446744073709551616 by omega]
      have e : a * (b + 18446744073709551616) = a * b + a * 18446744073709551616 := by grind
      rw [e]
      unfold wrap64
      generalize a * b = m at *
      congr 2 <;> omega
    · rw [show b / 9223372036854775808 = 0 by omega, and_none, show b % 18446744073709551616 = b by omega]
      unfold wrap64
      generalize a * b = m at *
      congr 2 <;> omega

theorem turned {hi lo : Int} (h : I64 hi) (l : U64 lo) : ∃ h' l', wide_turned.f hi lo = some (h', l') ∧ I64 h' ∧ U64 l' ∧
    (h' % 18446744073709551616) * 18446744073709551616 + l' = (-(hi * 18446744073709551616 + lo)) % 340282366920938463463374607431768211456 := by
  obtain ⟨h0, h1⟩ := h
  obtain ⟨l0, l1⟩ := l
  unfold wide_turned.f
  rw [if_pos l0, if_pos l1]
  refine ⟨_, _, rfl, ?_, ?_, ?_⟩
  · unfold wrap64
    omega
  · unfold XWalk.d64
    omega
  · unfold wrap64 XWalk.b64 XWalk.d64
    split <;> omega

/-- A quotient, or the error. -/
def mdiv (A b way : Int) : Int × Int :=
  if way < 0 ∨ way ≥ 2 then (0, 2) else if b = 0 then (0, 4) else if -9223372036854775808 ≤ rnd A b way ∧ rnd A b way ≤ 9223372036854775807 then (rnd A b way, 0) else (0, 3)

/-- what is told of a quotient without its sign -/
def toldQ (Q : Int) (less : Bool) : Int × Int := if less = true then (if Q ≤ 9223372036854775808 then (-Q, 0) else (0, 3)) else (if Q < 9223372036854775808 then (Q, 0) else (0, 3))

theorem j3_told {h l rest by_ : Int} {less : Bool} (h0 : 0 ≤ h) (l0 : 0 ≤ l) (l1 : l < 18446744073709551616) (k : Nat) : wide_Div.j3 (k + 2) h l rest by_ less = some (toldQ (h * 18446744073709551616 + l) less) := by
  simp only [wide_Div.j3]
  unfold toldQ
  by_cases c : h > 0
  · rw [if_pos c, if_neg (c := h * 18446744073709551616 + l ≤ _) (by omega), if_neg (c := h * 18446744073709551616 + l < _) (by omega)]
    simp
  · rw [if_neg c, show h * 18446744073709551616 + l = l by omega]
    cases less
    · simp only [wide_Div.j4, Bool.false_eq_true, if_false]
      split
      · rw [w64 (by omega) (by omega)]
      · rfl
    · simp only [wide_Div.j4, if_true]
      by_cases d : l ≤ 9223372036854775808
      · rw [decide_eq_true d, if_pos d]
        simp only [if_true]
        congr 2
        rw [wu]
        unfold wrap64
        omega
      · rw [decide_eq_false d, if_neg d]
        simp

theorem j5_told {h l rest by_ : Int} {less : Bool} (h0 : 0 ≤ h) (l0 : 0 ≤ l) (l1 : l < 18446744073709551616) (k : Nat) : wide_Div.j5 (k + 2) h l rest by_ less = some (toldQ (h * 18446744073709551616 + l) less) := by
  simp only [wide_Div.j5]
  unfold toldQ
  by_cases c : h > 0
  · rw [if_pos c, if_neg (c := h * 18446744073709551616 + l ≤ _) (by omega), if_neg (c := h * 18446744073709551616 + l < _) (by omega)]
    simp
  · rw [if_neg c, show h * 18446744073709551616 + l = l by omega]
    cases less
    · simp only [wide_Div.j6, Bool.false_eq_true, if_false]
      split
      · rw [w64 (by omega) (by omega)]
      · rfl
    · simp only [wide_Div.j6, if_true]
      by_cases d : l ≤ 9223372036854775808
      · rw [decide_eq_true d, if_pos d]
        simp only [if_true]
        congr 2
        rw [wu]
        unfold wrap64
        omega
      · rw [decide_eq_false d, if_neg d]
        simp

theorem near_told {q0 lo rest y : Int} {less : Bool} (r0 : 0 ≤ rest) (r1 : rest < y) (y1 : y < 18446744073709551616) (l0 : 0 ≤ lo) (l1 : lo < 18446744073709551616) :
    wide_quotient_near.f q0 lo rest y less = some (decide (2 * rest > y ∨ 2 * rest = y ∧ lo % 2 = 1)) := by
  unfold wide_quotient_near.f
  by_cases c : rest / 9223372036854775808 = 1
  · rw [if_pos c, decide_eq_true (by omega)]
  · rw [if_neg c, wu_id (n := rest * 2) (by omega) (by omega), and1 l0 l1]
    by_cases d : rest * 2 > y
    · rw [if_pos d, decide_eq_true (by omega)]
    · rw [if_neg d]
      by_cases e : rest * 2 = y
      · rw [if_pos e]
        congr 1
        rw [Bool.eq_iff_iff, beq_iff_eq, decide_eq_true_iff]
        omega
      · rw [if_neg e, decide_eq_false (by omega)]

/-- what is told of the sizes, by the law of sizes and signs -/
theorem told_rnd {A b way X y : Int} (hw : way = 0 ∨ way = 1) (hb : b ≠ 0) (hX : X = if A < 0 then -A else A) (hy : y = if b < 0 then -b else b) :
    toldQ (X / y + if upf way X y (decide (A < 0) != decide (b < 0)) = true then 1 else 0) (decide (A < 0) != decide (b < 0)) = mdiv A b way := by
  have this := rnd_sizes hw hb hX hy
  have hy0 : 0 < y := by subst hy; split <;> omega
  have hX0 : 0 ≤ X := by subst hX; split <;> omega
  have q0 : 0 ≤ X / y := Int.ediv_nonneg hX0 (by omega)
  unfold mdiv
  rw [if_neg (c := way < 0 ∨ way ≥ 2) (by omega), if_neg hb, this]
  generalize upf way X y (decide (A < 0) != decide (b < 0)) = up
  generalize (decide (A < 0) != decide (b < 0)) = less
  have p0 : 0 ≤ X / y + if up = true then (1 : Int) else 0 := by
    split <;> omega
  generalize (X / y + if up = true then (1 : Int) else 0) = Q at *
  unfold toldQ
  cases less
  · simp only [Bool.false_eq_true, if_false]
    by_cases c : Q < 9223372036854775808
    · rw [if_pos c, if_pos (by omega)]
    · rw [if_neg c, if_neg (by omega)]
  · simp only [if_true]
    by_cases c : Q ≤ 9223372036854775808
    · rw [if_pos c, if_pos (by omega)]
    · rw [if_neg c, if_neg (by omega)]

/-- the sum of a word and 1, with what goes over -/
theorem up_one {qh ql : Int} (h0 : 0 ≤ qh) (h1 : qh ≤ 9223372036854775808) (l0 : 0 ≤ ql) (l1 : ql < 18446744073709551616) :
    IntKind.u64.wrap (qh + XWalk.c64 ql 1 0) * 18446744073709551616 + XWalk.s64 ql 1 0 = qh * 18446744073709551616 + ql + 1 ∧ 0 ≤ IntKind.u64.wrap (qh + XWalk.c64 ql 1 0) ∧ 0 ≤ XWalk.s64 ql 1 0 ∧ XWalk.s64 ql 1 0 < 18446744073709551616 := by
  rw [wu]
  unfold XWalk.c64 XWalk.s64
  refine ⟨by omega, by omega, by omega, by omega⟩

theorem div {hi lo b way : Int} (h : I64 hi) (l : U64 lo) (hb : I64 b) {k : Nat} (hk : 30 ≤ k) : wide_Div.f k hi lo b way = some (mdiv (hi * 18446744073709551616 + lo) b way) := by
  obtain ⟨k, rfl⟩ : ∃ m, k = m + 30 := ⟨k - 30, by omega⟩
  unfold wide_Div.f
  by_cases c : way < 0 ∨ way ≥ 2
  · have e : mdiv (hi * 18446744073709551616 + lo) b way = (0, 2) := by unfold mdiv; rw [if_pos c]
    rw [e]
    by_cases c1 : way < 0
    · rw [if_pos c1]
      simp only [wide_Div.j0, if_true]
    · rw [if_neg c1, decide_eq_true (by omega)]
      simp only [wide_Div.j0, if_true]
  rw [if_neg (by omega), decide_eq_false (by omega)]
  simp only [wide_Div.j0, Bool.false_eq_true, if_false]
  by_cases cb : b = 0
  · rw [if_pos cb]
    unfold mdiv
    rw [if_neg c, if_pos cb]
  rw [if_neg cb]
  have hw : way = 0 ∨ way = 1 := by omega
  obtain ⟨h0, h1⟩ := h
  obtain ⟨l0, l1⟩ := l
  obtain ⟨b0, b1⟩ := hb
  have main : ∀ xh xl : Int, U64 xl → I64 xh → (xh % 18446744073709551616) * 18446744073709551616 + xl = (if hi * 18446744073709551616 + lo < 0 then -(hi * 18446744073709551616 + lo) else hi * 18446744073709551616 + lo) →
      wide_Div.j1 (k + 29) b way (IntKind.u64.wrap b) hi lo xh xl = some (mdiv (hi * 18446744073709551616 + lo) b way) := by
    intro xh xl ⟨xl0, xl1⟩ ⟨xh0, xh1⟩ hX
    have j2 : ∀ y : Int, y = (if b < 0 then -b else b) → wide_Div.j2 (k + 28) b way y hi lo xh xl = some (mdiv (hi * 18446744073709551616 + lo) b way) := by
      intro y hy
      have hy0 : 0 < y := by subst hy; split <;> omega
      have hy1 : y ≤ 9223372036854775808 := by subst hy; split <;> omega
      simp only [wide_Div.j2]
      rw [if_neg (by omega), wu xh, td_nn (by omega), tm_nn (by omega)]
      have x0 : 0 ≤ xh % 18446744073709551616 := by omega
      have x1 : xh % 18446744073709551616 ≤ 9223372036854775808 := by
        split at hX <;> omega
      generalize xh % 18446744073709551616 = X1 at *
      have a := Int.mul_ediv_add_emod X1 y
      have a0 := Int.emod_nonneg X1 (show y ≠ 0 by omega)
      have a1 := Int.emod_lt_of_pos X1 hy0
      have q0 : 0 ≤ X1 / y := Int.ediv_nonneg x0 (by omega)
      have q1 : X1 / y ≤ X1 := Int.ediv_le_self _ x0
      rw [div64 a0 a1 xl0 xl1 (by omega) (by omega)]
      simp only [Option.bind_some]
      generalize X1 / y = qh at *
      generalize X1 % y = rest at *
      have m := Int.mul_ediv_add_emod (rest * 18446744073709551616 + xl) y
      have m0 := Int.emod_nonneg (rest * 18446744073709551616 + xl) (show y ≠ 0 by omega)
      have m1 := Int.emod_lt_of_pos (rest * 18446744073709551616 + xl) hy0
      have p0 : 0 ≤ (rest * 18446744073709551616 + xl) / y := Int.ediv_nonneg (by omega) (by omega)
      have p1 : (rest * 18446744073709551616 + xl) / y < 18446744073709551616 := by
        rw [Int.ediv_lt_iff_lt_mul hy0, Int.mul_comm]
        omega
      generalize (rest * 18446744073709551616 + xl) / y = ql at *
      generalize (rest * 18446744073709551616 + xl) % y = rr at *
      have whole := Knuth.quot_uniq (A := X1 * 18446744073709551616 + xl) (b := y) (q := qh * 18446744073709551616 + ql) (r := rr) hy0 (by
        rw [Int.mul_add, ← Int.mul_assoc]
        generalize y * qh = u at *
        generalize y * ql = v at *
        omega) m0 m1
      have T := told_rnd (A := hi * 18446744073709551616 + lo) (b := b) (way := way) (X := X1 * 18446744073709551616 + xl) (y := y) hw cb hX hy
      unfold upf at T
      rw [whole.1, whole.2] at T
      have s : (!(decide (hi < 0) == decide (b < 0))) = (decide (hi * 18446744073709551616 + lo < 0) != decide (b < 0)) := by
        rw [show decide (hi < 0) = decide (hi * 18446744073709551616 + lo < 0) from decide_eq_decide.2 (by omega)]
        rfl
      rw [s, ← T]
      generalize (decide (hi * 18446744073709551616 + lo < 0) != decide (b < 0)) = less
      obtain ⟨u1, u2, u3, u4⟩ := up_one (qh := qh) (ql := ql) q0 (by omega) p0 p1
      rcases hw with rfl | rfl
      · simp only [if_true]
        have F : wide_quotient_floor.f (IntKind.u64.wrap qh) ql rr y less = some (less && decide (rr > 0)) := by
          unfold wide_quotient_floor.f
          cases less <;> simp
        rw [F]
        simp only [Option.bind_some]
        rw [wu_id (n := qh) q0 (by omega)]
        by_cases d : (less && decide (rr > 0)) = true
        · rw [if_pos d, if_pos d, if_pos p0]
          rw [j3_told u2 u3 u4, u1]
          first | done | rfl
        · rw [if_neg d, if_neg d]
          rw [j3_told q0 p0 p1]
          simp
      · simp only [show ((1 : Int) = 0) = False by simp, if_false, if_true]
        rw [near_told m0 m1 (by omega) p0 p1]
        simp only [Option.bind_some]
        rw [wu_id (n := qh) q0 (by omega)]
        have par : (qh * 18446744073709551616 + ql) % 2 = ql % 2 := by omega
        rw [par]
        by_cases d : (decide (2 * rr > y ∨ 2 * rr = y ∧ ql % 2 = 1)) = true
        · rw [if_pos d, if_pos d, if_pos p0]
          rw [j5_told u2 u3 u4, u1]
          first | done | rfl
        · rw [if_neg d, if_neg d]
          rw [j5_told q0 p0 p1]
          simp
    simp only [wide_Div.j1]
    by_cases d : b < 0
    · rw [if_pos d]
      refine j2 _ ?_
      rw [wu, wu, if_pos d]
      omega
    · rw [if_neg d]
      refine j2 _ ?_
      rw [wu, if_neg d]
      omega
  by_cases d : hi < 0
  · rw [if_pos d]
    obtain ⟨h', l', e, i1, i2, i3⟩ := turned ⟨h0, h1⟩ ⟨l0, l1⟩
    rw [e]
    simp only [Option.bind_some]
    refine main h' l' i2 i1 ?_
    rw [i3, if_pos (by omega)]
    omega
  · rw [if_neg d]
    refine main hi lo ⟨l0, l1⟩ ⟨h0, h1⟩ ?_
    rw [if_neg (by omega)]
    omega

theorem mulDiv {a b c way : Int} (ha : I64 a) (hb : I64 b) (hc : I64 c) {k : Nat} (hk : 30 ≤ k) : wide_MulDiv.f k a b c way = some (mdiv (a * b) c way) := by
  unfold wide_MulDiv.f
  rw [mul ha hb]
  have hm := mul_i64 ha hb
  simp only [Option.bind_some]
  rw [div ⟨by omega, by omega⟩ ⟨by omega, by omega⟩ hc hk]
  simp only [Option.bind_some]
  rw [show a * b / 18446744073709551616 * 18446744073709551616 + a * b % 18446744073709551616 = a * b by omega]
end Go.Proofs.Ytioicmialbimfaa.XWide
end

section
namespace Go.Proofs.Ytioicmialbimfaa.XMdiv
set_option linter.unusedVariables false
set_option linter.unusedSimpArgs false
open Go.RowKit Go.Proofs.Ytioicmialbimfaa.S Go.Proofs.Ytioicmialbimfaa.XNum Go.Proofs.Ytioicmialbimfaa.XBits Go.Proofs.Ytioicmialbimfaa.XWide Go.Proofs.Ytioicmialbimfaa.Rnd Go.Proofs.YtioicmialbimfaaW.PrintWords

theorem rnd_n {A b : Int} (hb : 0 < b) : rnd A b 1 = near A b := by
  unfold rnd
  rw [if_neg (c := (1 : Int) = 0) (by omega), if_neg (c := b < 0) (by omega)]
/-- to the nearer one, by a number above 0 -/
theorem mdiv_n {A b : Int} (hb : 0 < b) : mdiv A b 1 = if I64 (near A b) then (near A b, 0) else (0, 3) := by
  unfold mdiv
  rw [if_neg (c := (1 : Int) < 0 ∨ (1 : Int) ≥ 2) (by omega), if_neg (c := b = 0) (by omega), rnd_n hb]
theorem mdiv_in {A b : Int} (hb : 0 < b) (h : I64 (near A b)) : mdiv A b 1 = (near A b, 0) := by
  rw [mdiv_n hb, if_pos h]
theorem mdiv_i64 (A b way : Int) : I64 (mdiv A b way).1 := by
  unfold mdiv
  split
  · exact ⟨by decide, by decide⟩
  · split
    · exact ⟨by decide, by decide⟩
    · split
      · assumption
      · exact ⟨by decide, by decide⟩
theorem mdiv_err (A b way : Int) : (mdiv A b way).2 ≠ 0 → (mdiv A b way).1 = 0 := by
  unfold mdiv
  split
  · intro _; rfl
  · split
    · intro _; rfl
    · split
      · intro h; exact absurd rfl h
      · intro _; rfl
/-- of a number of 0 or more, by a greater one there is no more -/
theorem near_anti {A b c : Int} (hA : 0 ≤ A) (hb : 0 < b) (h : b ≤ c) : near A c ≤ near A b := by
  obtain ⟨a1, a2, a3⟩ := near_spec (A := A) hb
  obtain ⟨b1, b2, b3⟩ := near_spec (A := A) (b := c) (by omega)
  have n0 := near_nn (A := A) hb hA
  have m0 := near_nn (A := A) (b := c) (by omega) hA
  generalize near A b = N at *
  generalize near A c = M at *
  by_cases d : M ≤ N
  · exact d
  -- M ≥ N + 1: c M ≥ c (N + 1) ≥ b N + ..
  have e1 : c * (N + 1) ≤ c * M := Int.mul_le_mul_of_nonneg_left (by omega) (by omega)
  have e2 : b * N ≤ c * N := Int.mul_le_mul_of_nonneg_right h n0
  rw [Int.mul_add, Int.mul_one] at e1
  -- 2 c M ≤ 2 A + c, 2 A ≤ 2 b N + b
  have e3 : M = N + 1 := by
    by_cases f : M = N + 1
    · exact f
    · have : c * (N + 2) ≤ c * M := Int.mul_le_mul_of_nonneg_left (by omega) (by omega)
      rw [Int.mul_add] at this
      omega
  subst e3
  rw [Int.mul_add, Int.mul_one] at *
  by_cases g : b = c
  · subst g
    omega
  · omega
end Go.Proofs.Ytioicmialbimfaa.XMdiv
end

section
namespace Go.Proofs.Ytioicmialbimfaa.S
open Go.RowKit Go.Proofs.YtioicmialbimfaaW.PrintWords Go.Proofs.YtioicmialbimfaaW.PrintLast Go.Proofs.YtioicmialbimfaaW.PrintMore
attribute [local go_sem] max2_int min2_int max_two min_two max_three min_three max_four min_four   -- for this text's walks alone
attribute [local go_sem] Go.Proofs.Ytioicmialbimfaa.XWalk.cell2
set_option linter.unusedVariables false
set_option linter.unusedSimpArgs false

/-! ### rate_Part: function 26 -/
def rate_Part.f (k : Nat) (a0 : Int) (a1 : Int) (a2 : Int) : Option (Int × Int) := if a1 < 0 then (some (0, 2)) else (if a2 ≤ 0 then (some (0, 2)) else ((wide_MulDiv.f k a0 a1 a2 1).bind fun bt226 => (some (bt226.1, bt226.2))))
theorem rate_Part.mono : ∀ a0 a1 a2 k, LeO (rate_Part.f k a0 a1 a2) (rate_Part.f (k + 1) a0 a1 a2) := by
  intro a0 a1 a2 k
  unfold rate_Part.f
  repeat' first
      | (with_reducible exact wide_MulDiv.mono _ _ _ _ _)
      | (with_reducible exact LeO.refl _)
      | (with_reducible exact LeO.none _)
      | (with_reducible refine LeO.ite ?_ ?_)
      | (with_reducible refine LeO.bind ?_ (fun _ => ?_))
      | exact wide_MulDiv.mono _ _ _ _ _
      | exact LeO.none _
      | refine LeO.ite ?_ ?_
      | refine LeO.bind ?_ (fun _ => ?_)
set_option maxHeartbeats 8000000 in
set_option maxRecDepth 100000 in
theorem rate_Part.calls (k : Nat) (a0 : Int) (a1 : Int) (a2 : Int) (r1 : Int) (r2 : Int) (w : World) (h : rate_Part.f k a0 a1 a2 = some (r1, r2)) :
    Calls Try.prog 26 #[.int .i64 a0, .int .i64 a1, .int .i64 a2] w fun e w' => e = .returned (.tuple #[.int .i64 r1, .int .i64 r2]) ∧ Below w.heap.size w w' := by
  have HB := Aside0.mk (Below.refl w.heap.size w)
  have H : (if a1 < 0 then (some (0, 2)) else (if a2 ≤ 0 then (some (0, 2)) else ((wide_MulDiv.f k a0 a1 a2 1).bind fun bt226 => (some (bt226.1, bt226.2))))) = some (r1, r2) := h
  clear h
  by_cases c4 : a1 < 0
  · rw [if_pos c4] at H
    have c4b0 : decide (a1 < 0) = true := decide_eq_true c4
    clear c4
    simp only [Option.some.injEq, Prod.mk.injEq] at H
    obtain ⟨rfl, rfl⟩ := H
    go_enter Try.func26, Try.ntmps26
    go_wp2
    go_ret2
    exact ⟨by first | rfl | (simp [errW_none, errW_some] <;> rfl) | (simp [*, errW_none, errW_some] <;> rfl), by repeat (first | (with_reducible first | exact HB.out | apply below_alloc | apply pw_below_drewN | apply below_drew1) | exact HB.out)⟩
  · rw [if_neg c4] at H
    have c4b0 : decide (a1 < 0) = false := decide_eq_false c4
    clear c4
    by_cases c5 : a2 ≤ 0
    · rw [if_pos c5] at H
      have c5b0 : decide (a2 ≤ 0) = true := decide_eq_true c5
      clear c5
      simp only [Option.some.injEq, Prod.mk.injEq] at H
      obtain ⟨rfl, rfl⟩ := H
      go_enter Try.func26, Try.ntmps26
      go_wp2
      go_ret2
      exact ⟨by first | rfl | (simp [errW_none, errW_some] <;> rfl) | (simp [*, errW_none, errW_some] <;> rfl), by repeat (first | (with_reducible first | exact HB.out | apply below_alloc | apply pw_below_drewN | apply below_drew1) | exact HB.out)⟩
    · rw [if_neg c5] at H
      have c5b0 : decide (a2 ≤ 0) = false := decide_eq_false c5
      clear c5
      replace H := Option.bind_eq_some_iff.mp H
      obtain ⟨⟨t226, t227⟩, A60, H⟩ := H
      replace H : (some (t226, t227)) = some (r1, r2) := H
      have A6 := Aside0.mk A60
      clear A60
      simp only [Option.some.injEq, Prod.mk.injEq] at H
      obtain ⟨rfl, rfl⟩ := H
      go_enter Try.func26, Try.ntmps26
      go_wp2_with (first | ((with_reducible refine gate_callee (f := 40) rfl ?_); refine goesL_ (some 17) rfl rfl Try.func40 (by kernel_rfl) rfl #[.int .i64 a0, .int .i64 a1, .int .i64 a2, .int .i64 1] rfl (by (try simp only [List.map_toArray, List.map_cons, List.map_nil]); first | done | rfl | (simp only [List.length_drop, List.length_take]; rfl)) ?_; (with_reducible refine (wide_MulDiv.calls k a0 a1 a2 1 t226 t227 _ A6.out).mono ?_); rintro e w7 ⟨rfl, hb⟩; refine ⟨_, rfl, ?_⟩; have n0_ := Aside0.mk (below_step (by repeat (first | (with_reducible first | exact HB.out | apply below_alloc | apply pw_below_drewN | apply below_drew1) | exact HB.out)) hb); clear HB; have HB := n0_; clear n0_; (try clear hb); (try clear hb2); (try clear hk); (try clear hi)))
      go_ret2
      exact ⟨by first | rfl | (simp [errW_none, errW_some] <;> rfl) | (simp [*, errW_none, errW_some] <;> rfl), by repeat (first | (with_reducible first | exact HB.out | apply below_alloc | apply pw_below_drewN | apply below_drew1) | exact HB.out)⟩

end Go.Proofs.Ytioicmialbimfaa.S
end

section
namespace Go.Proofs.Ytioicmialbimfaa.XRate
set_option linter.unusedVariables false
set_option linter.unusedSimpArgs false
open Go.RowKit Go.Proofs.Ytioicmialbimfaa.S Go.Proofs.Ytioicmialbimfaa.XNum Go.Proofs.Ytioicmialbimfaa.XBits Go.Proofs.Ytioicmialbimfaa.XWide Go.Proofs.Ytioicmialbimfaa.Rnd Go.Proofs.Ytioicmialbimfaa.XMdiv Go.Proofs.YtioicmialbimfaaW.PrintWords

/-- may a rate be? -/
def mayR (r : Int) : Prop := -990000000000 ≤ r ∧ r ≤ 10000000000000
instance (r : Int) : Decidable (mayR r) := inferInstanceAs (Decidable (_ ∧ _))
theorem may (r : Int) : rate_May.f r = some (decide (mayR r)) := by
  unfold rate_May.f
  by_cases c : mayR r
  · rw [decide_eq_true c]
    unfold mayR at c
    rw [if_pos (by omega), decide_eq_true (by omega)]
  · rw [decide_eq_false c]
    unfold mayR at c
    by_cases d : r ≥ -990000000000
    · rw [if_pos d, decide_eq_false (by omega)]
    · rw [if_neg d]

def interest (x r : Int) : Int × Int := if mayR r then mdiv (x * r) 1000000000000 1 else (0, 2)
def grow (x r : Int) : Int × Int := if mayR r then mdiv (x * (1000000000000 + r)) 1000000000000 1 else (0, 2)
def discount (x r : Int) : Int × Int := if mayR r then mdiv (x * 1000000000000) (1000000000000 + r) 1 else (0, 2)

theorem interest_f {x r : Int} (hx : I64 x) {k : Nat} (hk : 30 ≤ k) : rate_Interest.f k x r = some (interest x r) := by
  unfold rate_Interest.f rate_over_rate_yield.f rate_yield_terms.f
  rw [may]
  simp only [Option.bind_some]
  unfold interest
  by_cases c : mayR r
  · rw [decide_eq_true c, if_pos c]
    simp only [if_true]
    unfold mayR at c
    rw [mulDiv hx ⟨by omega, by omega⟩ ⟨by omega, by omega⟩ hk]
    simp only [Option.bind_some]
  · rw [decide_eq_false c, if_neg c]
    simp
theorem over_forth {x r : Int} (hx : I64 x) {k : Nat} (hk : 30 ≤ k) : rate_over_rate_forth.f k x r = some (grow x r) := by
  unfold rate_over_rate_forth.f rate_forth_terms.f
  rw [may]
  simp only [Option.bind_some]
  unfold grow
  by_cases c : mayR r
  · rw [decide_eq_true c, if_pos c]
    simp only [if_true]
    unfold mayR at c
    rw [w64 (by omega) (by omega), mulDiv hx ⟨by omega, by omega⟩ ⟨by omega, by omega⟩ hk]
    simp only [Option.bind_some]
  · rw [decide_eq_false c, if_neg c]
    simp
theorem grow_f {x r : Int} (hx : I64 x) {k : Nat} (hk : 30 ≤ k) : rate_Grow.f k x r = some (grow x r) := by
  unfold rate_Grow.f
  rw [over_forth hx hk]
  rfl
theorem discount_f {x r : Int} (hx : I64 x) {k : Nat} (hk : 30 ≤ k) : rate_Discount.f k x r = some (discount x r) := by
  unfold rate_Discount.f rate_over_rate_back.f rate_back_terms.f
  rw [may]
  simp only [Option.bind_some]
  unfold discount
  by_cases c : mayR r
  · rw [decide_eq_true c, if_pos c]
    simp only [if_true]
    unfold mayR at c
    rw [w64 (by omega) (by omega), mulDiv hx ⟨by omega, by omega⟩ ⟨by omega, by omega⟩ hk]
    simp only [Option.bind_some]
  · rw [decide_eq_false c, if_neg c]
    simp
theorem grow_i64 (x r : Int) : I64 (grow x r).1 := by
  unfold grow
  split
  · exact mdiv_i64 _ _ _
  · exact ⟨by omega, by omega⟩
theorem discount_i64 (x r : Int) : I64 (discount x r).1 := by
  unfold discount
  split
  · exact mdiv_i64 _ _ _
  · exact ⟨by omega, by omega⟩
theorem interest_i64 (x r : Int) : I64 (interest x r).1 := by
  unfold interest
  split
  · exact mdiv_i64 _ _ _
  · exact ⟨by omega, by omega⟩

/-- a part of a rate -/
def part (r o all : Int) : Int × Int := if o < 0 ∨ all ≤ 0 then (0, 2) else mdiv (r * o) all 1
theorem part_f {r o all : Int} (hr : I64 r) (ho : I64 o) (ha : I64 all) {k : Nat} (hk : 30 ≤ k) : rate_Part.f k r o all = some (part r o all) := by
  unfold rate_Part.f part
  by_cases c : o < 0
  · rw [if_pos c, if_pos (.inl c)]
  · rw [if_neg c]
    by_cases d : all ≤ 0
    · rw [if_pos d, if_pos (.inr d)]
    · rw [if_neg d, if_neg (by omega), mulDiv hr ho ha hk]
      rfl

/-- what an amount grows to in n periods, or the first error -/
def powers (r : Int) : Nat → Int × Int
  | 0 => (1000000000000, 0)
  | n + 1 => if (powers r n).2 = 0 then grow (powers r n).1 r else powers r n
theorem powers_i64 (r : Int) (n : Nat) : I64 (powers r n).1 := by
  induction n with
  | zero => exact ⟨by show (-9223372036854775808 : Int) ≤ 1000000000000; omega, by show (1000000000000 : Int) ≤ 9223372036854775807; omega⟩
  | succ n ih =>
    unfold powers
    split
    · exact grow_i64 _ _
    · exact ih
/-- an error stays -/
theorem powers_err (r : Int) {n : Nat} (h : (powers r n).2 ≠ 0) : ∀ m, powers r (n + m) = powers r n
  | 0 => rfl
  | m + 1 => by
    rw [← Nat.add_assoc, powers, powers_err r h m, if_neg h]
theorem power_l0 {r : Int} : ∀ (d j k : Nat), d ≤ 600 → d + 40 ≤ k → rate_Power.l0 k r d (powers r j).1 (powers r j).2 = some (powers r (j + d)) := by
  intro d
  induction d with
  | zero =>
    intro j k hd hk
    obtain ⟨k, rfl⟩ : ∃ m, k = m + 1 := ⟨k - 1, by omega⟩
    rw [rate_Power.l0, if_neg (by omega)]
    rfl
  | succ d ih =>
    intro j k hd hk
    obtain ⟨k, rfl⟩ : ∃ m, k = m + 1 := ⟨k - 1, by omega⟩
    rw [rate_Power.l0, if_pos (by omega)]
    by_cases c : (powers r j).2 = 0
    · rw [if_pos c, over_forth (powers_i64 r j) (by omega)]
      simp only [Option.bind_some]
      have e : grow (powers r j).1 r = powers r (j + 1) := by rw [powers, if_pos c]
      rw [e, w64 (by omega) (by omega), show ((d + 1 : Nat) : Int) - 1 = (d : Int) by omega, ih (j + 1) k (by omega) (by omega), show j + 1 + d = j + (d + 1) by omega]
    · rw [if_neg c, powers_err r c]
def power (r n : Int) : Int × Int := if mayR r ∧ 0 ≤ n ∧ n ≤ 600 then powers r n.toNat else (0, 2)
theorem power_ok {r n : Int} (h : mayR r) (h0 : 0 ≤ n) (h1 : n ≤ 600) : power r n = powers r n.toNat := by
  unfold power
  rw [if_pos ⟨h, h0, h1⟩]
theorem power_no {r n : Int} (h : ¬mayR r) : power r n = (0, 2) := by
  unfold power
  rw [if_neg (fun g => h g.1)]
theorem power_f {r n : Int} {k : Nat} (hk : 700 ≤ k) : rate_Power.f k r n = some (power r n) := by
  obtain ⟨k, rfl⟩ : ∃ m, k = m + 1 := ⟨k - 1, by omega⟩
  unfold rate_Power.f power
  rw [may]
  simp only [Option.bind_some]
  by_cases c : mayR r
  · rw [decide_eq_true c]
    simp only [if_true]
    by_cases d : n < 0
    · rw [if_pos d, rate_Power.j0, if_pos rfl, if_neg (by omega)]
    · rw [if_neg d]
      by_cases e : n > 600
      · rw [decide_eq_true e, rate_Power.j0, if_pos rfl, if_neg (by omega)]
      · rw [decide_eq_false e, rate_Power.j0, if_neg (by simp), if_pos ⟨c, by omega, by omega⟩]
        have := power_l0 (r := r) n.toNat 0 k (by omega) (by omega)
        rw [Nat.zero_add, show ((n.toNat : Nat) : Int) = n by omega] at this
        exact this
  · rw [decide_eq_false c, if_neg (c := mayR r ∧ _) (fun h => c h.1)]
    simp only [Bool.false_eq_true, if_false]
    rw [rate_Power.j0, if_pos rfl]
end Go.Proofs.Ytioicmialbimfaa.XRate
end

section
namespace Go.Proofs.Ytioicmialbimfaa.RateAlive
set_option linter.unusedVariables false
set_option linter.unusedSimpArgs false
open Go.RowKit Go.Proofs.Ytioicmialbimfaa.S Go.Proofs.Ytioicmialbimfaa.XNum Go.Proofs.Ytioicmialbimfaa.XWide Go.Proofs.Ytioicmialbimfaa.Rnd Go.Proofs.Ytioicmialbimfaa.XMdiv Go.Proofs.Ytioicmialbimfaa.XRate Go.Proofs.YtioicmialbimfaaW.PrintWords

theorem alive {k : Nat} (hk : 700 ≤ k) : lombardlaw03_alive.f k = some true := by
  unfold lombardlaw03_alive.f
  rw [interest_f ⟨by omega, by omega⟩ (by omega), discount_f ⟨by omega, by omega⟩ (by omega), power_f hk, grow_f ⟨by omega, by omega⟩ (by omega)]
  decide

/-- no rate, or a rounded quotient -/
theorem interest_in {x r : Int} (h : mayR r) : interest x r = if I64 (near (x * r) 1000000000000) then (near (x * r) 1000000000000, 0) else (0, 3) := by
  unfold interest
  rw [if_pos h, mdiv_n (by omega)]
theorem grow_in {x r : Int} (h : mayR r) : grow x r = if I64 (near (x * (1000000000000 + r)) 1000000000000) then (near (x * (1000000000000 + r)) 1000000000000, 0) else (0, 3) := by
  unfold grow
  rw [if_pos h, mdiv_n (by omega)]
theorem discount_in {x r : Int} (h : mayR r) : discount x r = if I64 (near (x * 1000000000000) (1000000000000 + r)) then (near (x * 1000000000000) (1000000000000 + r), 0) else (0, 3) := by
  unfold discount
  rw [if_pos h, mdiv_n (by unfold mayR at h; omega)]
/-- grown, it is itself and its interest, or 1 beside -/
theorem grow_split (x r : Int) : -1 ≤ near (x * (1000000000000 + r)) 1000000000000 - x - near (x * r) 1000000000000 ∧ near (x * (1000000000000 + r)) 1000000000000 - x - near (x * r) 1000000000000 ≤ 1 := by
  obtain ⟨a1, a2, _⟩ := near_spec (A := x * (1000000000000 + r)) (b := 1000000000000) (by omega)
  obtain ⟨b1, b2, _⟩ := near_spec (A := x * r) (b := 1000000000000) (by omega)
  rw [Int.mul_add] at a1 a2
  rw [Int.mul_add]
  generalize x * r = m at *
  omega
/-- what lies between two is between the nearer ones -/
theorem near_le {A b N : Int} (hb : 0 < b) (h : A ≤ b * N) : near A b ≤ N := by
  have := near_mono hb h
  rw [near_exact hb] at this
  exact this
theorem near_ge {A b N : Int} (hb : 0 < b) (h : b * N ≤ A) : N ≤ near A b := by
  have := near_mono hb h
  rw [near_exact hb] at this
  exact this
end Go.Proofs.Ytioicmialbimfaa.RateAlive
end

section
namespace Go.Proofs.Ytioicmialbimfaa.Pure
set_option linter.unusedVariables false
set_option linter.unusedSimpArgs false
open Go.RowKit Go.Proofs.Ytioicmialbimfaa.S Go.Proofs.Ytioicmialbimfaa.XNum Go.Proofs.Ytioicmialbimfaa.XWide Go.Proofs.Ytioicmialbimfaa.Rnd Go.Proofs.Ytioicmialbimfaa.XMdiv Go.Proofs.Ytioicmialbimfaa.XRate Go.Proofs.Ytioicmialbimfaa.RateAlive Go.Proofs.YtioicmialbimfaaW.PrintWords Go.Proofs.YtioicmialbimfaaW.PrintLast

section
variable {x r : Int} (hx : -1125899906842624 ≤ x ∧ x ≤ 1125899906842624) (hr : mayR r)
include hx hr
theorem tI {k : Nat} (hk : 30 ≤ k) : lombardlaw03_RateMore_1__rate_Interest.f k x r = some (near (x * r) 1000000000000) := by
  unfold lombardlaw03_RateMore_1__rate_Interest.f
  have b := mul_bd (a := x) (b := r) (C := 1125899906842624) (D := 10000000000000) (by omega) (by omega) (by unfold mayR at hr; omega) (by unfold mayR at hr; omega)
  rw [interest_f ⟨by omega, by omega⟩ hk, interest_in hr, if_pos ⟨near_ge (by omega) (by omega), near_le (by omega) (by omega)⟩]
  simp
theorem tG {k : Nat} (hk : 30 ≤ k) : lombardlaw03_RateMore_1__rate_Grow.f k x r = some (near (x * (1000000000000 + r)) 1000000000000) := by
  unfold lombardlaw03_RateMore_1__rate_Grow.f
  have b := mul_bd (a := x) (b := 1000000000000 + r) (C := 1125899906842624) (D := 11000000000000) (by omega) (by omega) (by unfold mayR at hr; omega) (by unfold mayR at hr; omega)
  rw [grow_f ⟨by omega, by omega⟩ hk, grow_in hr, if_pos ⟨near_ge (by omega) (by omega), near_le (by omega) (by omega)⟩]
  simp
theorem tD {k : Nat} (hk : 30 ≤ k) : lombardlaw03_RateMore_1__rate_Discount.f k x r = some (near (x * 1000000000000) (1000000000000 + r)) := by
  unfold lombardlaw03_RateMore_1__rate_Discount.f
  unfold mayR at hr
  have h0 : (1000000000000 + r) * (-112589990684262400) ≤ x * 1000000000000 := by omega
  have h1 : x * 1000000000000 ≤ (1000000000000 + r) * 112589990684262400 := by omega
  rw [discount_f ⟨by omega, by omega⟩ hk, discount_in hr]
  have a := near_ge (A := x * 1000000000000) (b := 1000000000000 + r) (by omega) h0
  have b := near_le (A := x * 1000000000000) (b := 1000000000000 + r) (by omega) h1
  rw [if_pos ⟨by omega, by omega⟩]
  simp
end

theorem more_j1 {x r s : Int} (hx : -1125899906842624 ≤ x ∧ x ≤ 1125899906842624) (hr : mayR r) (hs : mayR s) (h : r ≤ s) {k : Nat} (hk : 40 ≤ k) : lombardlaw03_RateMore.j1 k x r s false = some true := by
  obtain ⟨k, rfl⟩ : ∃ m, k = m + 1 := ⟨k - 1, by omega⟩
  rw [lombardlaw03_RateMore.j1, if_neg (by simp)]
  by_cases c : x < 0
  · rw [if_pos c]
  rw [if_neg c, tI hx hr (by omega), tI hx hs (by omega), tD hx hr (by omega), tD hx hs (by omega), tG hx hr (by omega), tG hx hs (by omega)]
  simp only [Option.bind_some]
  have i1 : x * r ≤ x * s := Int.mul_le_mul_of_nonneg_left h (by omega)
  have i2 : x * (1000000000000 + r) ≤ x * (1000000000000 + s) := Int.mul_le_mul_of_nonneg_left (by omega) (by omega)
  have g : mayR r := hr
  unfold mayR at hr hs
  rw [if_pos (near_mono (by omega) i1), if_pos (near_anti (by omega) (by omega) (by omega)), decide_eq_true (near_mono (by omega) i2)]

theorem RateMore : lombardlaw03_RateMore.Pure := by
  intro X Y R S hX hY hR hS
  rw [wf64] at hX hY hR hS
  refine ⟨800, ?_⟩
  unfold lombardlaw03_RateMore.f
  rw [alive (by omega)]
  simp only [Option.bind_some, if_true]
  have hxy : mn X Y ≤ mx X Y := by unfold mn mx; split <;> split <;> omega
  have hrs : mn R S ≤ mx R S := by unfold mn mx; split <;> split <;> omega
  generalize mn X Y = x at *
  generalize mx X Y = y at *
  generalize mn R S = r at *
  generalize mx R S = s at *
  have T : ∀ k, lombardlaw03_RateMore.j0 (k + 1) x y r s true = some true := by
    intro k
    rw [lombardlaw03_RateMore.j0, if_pos rfl]
  rw [may, may]
  simp only [Option.bind_some]
  by_cases c1 : mayR r
  · rw [decide_eq_true c1]
    simp only [if_true]
    by_cases c2 : mayR s
    · rw [decide_eq_true c2]
      simp only [if_true]
      by_cases c3 : x < -1125899906842624
      · rw [if_pos c3]
        exact T 799
      · rw [if_neg c3]
        by_cases c4 : y > 1125899906842624
        · rw [decide_eq_true c4]
          exact T 799
        · rw [decide_eq_false c4, lombardlaw03_RateMore.j0, if_neg (by simp)]
          have hx : -1125899906842624 ≤ x ∧ x ≤ 1125899906842624 := by omega
          have hy : -1125899906842624 ≤ y ∧ y ≤ 1125899906842624 := by omega
          rw [tD hx c1 (by omega), tD hy c1 (by omega), tG hx c1 (by omega), tG hy c1 (by omega), tI hx c1 (by omega), tI hy c1 (by omega)]
          simp only [Option.bind_some]
          have c1' := c1
          unfold mayR at c1'
          have i1 := near_mono (b := 1000000000000 + r) (by omega) (show x * 1000000000000 ≤ y * 1000000000000 by omega)
          have i2 := near_mono (b := 1000000000000) (by omega) (show x * (1000000000000 + r) ≤ y * (1000000000000 + r) from Int.mul_le_mul_of_nonneg_right hxy (by omega))
          rw [if_neg (by omega), if_neg (by omega)]
          by_cases c5 : r ≥ 0
          · have i3 := near_mono (b := 1000000000000) (by omega) (show x * r ≤ y * r from Int.mul_le_mul_of_nonneg_right hxy (by omega))
            rw [if_pos c5, decide_eq_false (by omega)]
            exact more_j1 hx c1 c2 hrs (by omega)
          · rw [if_neg c5]
            exact more_j1 hx c1 c2 hrs (by omega)
    · rw [decide_eq_false c2]
      exact T 799
  · rw [decide_eq_false c1]
    exact T 799
end Go.Proofs.Ytioicmialbimfaa.Pure
end

section
namespace Go.Proofs.Ytioicmialbimfaa.XOpen
set_option linter.unusedVariables false
set_option linter.unusedSimpArgs false
open Go.ChangeShapes Go.WideShapes Go.RowKit Go.Proofs.YtioicmialbimfaaW.PrintWords
section
variable {H : Type} {enc : TypeId × Value → H} {P : Program} {w : World} {base : Nat} {spare : Nat → Bool} {held : Bool}

/-- Whatever reads as data of type t holds a value of the kind d, and it is good. -/
def Opens {α : Type} (enc : TypeId × Value → H) (P : Program) (w : World) (base : Nat) (spare : Nat → Bool) (held : Bool) (t : TypeId) (d : Kd α) (g : α → Prop) : Prop :=
  ∀ fuel cs x, DataW.trod enc P w base spare held fuel t cs = some x → ∃ a, d.K w a cs ∧ g a

theorem opens_int {t : TypeId} {k : IntKind} (ht : P.underlying t = some (.int k)) : Opens enc P w base spare held t (Kd.int k) (fun a => (Lit.int k a).wf = true) := by
  intro fuel cs x h
  obtain ⟨n, rfl, _, hw⟩ := DataW.trod_int ht h
  exact ⟨n, rfl, hw⟩

theorem opens_bool {t : TypeId} (ht : P.underlying t = some .bool) : Opens enc P w base spare held t Kd.bool (fun _ => True) := by
  intro fuel cs x h
  obtain ⟨n, rfl, _⟩ := DataW.trod_bool ht h
  exact ⟨n, rfl, trivial⟩

theorem opens_string {t : TypeId} (ht : P.underlying t = some .string) : Opens enc P w base spare held t Kd.string (fun s => s.size ≤ maxLen) := by
  intro fuel cs x h
  obtain ⟨s, rfl, _, hs⟩ := DataW.trod_string ht h
  exact ⟨s, rfl, hs⟩

theorem choose_list {α : Type} (n : Nat) (p : Nat → α → Prop) (h : ∀ i, i < n → ∃ a, p i a) : ∃ l : List α, l.length = n ∧ ∀ i a, l[i]? = some a → p i a := by
  induction n with
  | zero => exact ⟨[], rfl, fun i a hi => by simp at hi⟩
  | succ n ih =>
    obtain ⟨l, hl, hp⟩ := ih (fun i hi => h i (by omega))
    obtain ⟨a, ha⟩ := h n (by omega)
    refine ⟨l ++ [a], by simp [hl], fun i b hi => ?_⟩
    by_cases hin : i < n
    · rw [List.getElem?_append_left (by omega)] at hi
      exact hp i b hi
    · by_cases e : i = n
      · subst e
        rw [List.getElem?_append_right (by omega), hl] at hi
        simp at hi
        subst hi
        exact ha
      · rw [List.getElem?_append_right (by omega), hl, List.getElem?_eq_none (by simp; omega)] at hi
        cases hi

theorem opens_slice {α : Type} {t e : TypeId} {d : Kd α} {g : α → Prop} (ht : P.underlying t = some (.slice e)) (hc : P.cellsOf e = d.sz) (he : Opens enc P w base spare held e d g) :
    Opens enc P w base spare held t (Kd.slice e d) (fun l => l.length ≤ maxLen ∧ ∀ a ∈ l, g a) := by
  intro fuel cs x h
  rcases DataW.trod_slice ht h with ⟨rfl, _⟩ | ⟨a, len, cap, elems, rest, n, _, rfl, _, _, hl, hm, hlen, hel, _⟩
  · exact ⟨[], ⟨none, 0, rfl, Nat.le_refl _, rfl, Nat.zero_le _, fun h0 => absurd h0 (Nat.lt_irrefl 0)⟩, Nat.zero_le _, fun a ha => absurd ha List.not_mem_nil⟩
  · have hp : ∀ i, i < len → ∃ q : α, (∃ c : List Value, c.length = d.sz ∧ d.K w q c ∧ ∀ j u, c[j]? = some u → w.cell? (a.add (i * d.sz + j)) = some u) ∧ g q := by
      intro i hi
      have h1 := hel i hi
      have hi' : i < elems.length := by omega
      rw [List.getElem?_eq_getElem hi', Option.bind_eq_some_iff] at h1
      obtain ⟨c, hcs, hy⟩ := h1
      obtain ⟨q, hk, hg⟩ := he _ _ _ hy
      obtain ⟨_, hcl, hat⟩ := World.cells?_some hcs
      refine ⟨q, ⟨c, hcl.trans hc, hk, fun j u hu => ?_⟩, hg⟩
      have hj : j < P.cellsOf e := by
        have := (List.getElem?_eq_some_iff.1 hu).1
        omega
      have h2 := hat j hj
      rw [hu, hc] at h2
      have h3 : (a.add (i * d.sz)).add j = a.add (i * d.sz + j) := by
        exact Go.Deep.add_add a (i * d.sz) j
      rw [h3] at h2
      exact h2
    obtain ⟨l, hll, hall⟩ := choose_list len _ hp
    subst hll
    refine ⟨l, ⟨some a, cap, rfl, hl, ?_⟩, Nat.le_trans hl hm, fun q hq => ?_⟩
    · refine ⟨rfl, ?_, fun _ => ⟨a, rfl, fun j p hj => (hall j p hj).1⟩⟩
      have := Nat.le_trans hl hm
      unfold maxLen at this
      exact this
    · obtain ⟨i, hi⟩ := List.getElem?_of_mem hq
      exact (hall i q hi).2

/-- A field: its cells are those that stand at its place. -/
theorem field_of {α : Type} {t : TypeId} {fs : Array Field} {d : Kd α} {g : α → Prop} {fuel : Nat} {cs : List Value} {x : DataW H × List MemPlace} (ht : P.underlying t = some (.struct fs)) (h : DataW.trod enc P w base spare held fuel t cs = some x)
    (i : Nat) (f : Field) (hf : fs[i]? = some f) (ho : Opens enc P w base spare held f.type d g) (off sz : Nat) (h0 : f.offset = off) (h1 : P.cellsOf f.type = sz) : ∃ a, d.K w a ((cs.drop off).take sz) ∧ g a := by
  subst h0 h1
  obtain ⟨xs, n, _, _, _, hl, hat⟩ := DataW.trod_struct ht h
  have hi : i < xs.length := by
    rw [hl]
    exact (Array.getElem?_eq_some_iff.1 hf).1
  have h2 := hat i f hf
  rw [List.getElem?_eq_getElem hi] at h2
  exact ho _ _ _ h2

theorem cells_len {t : TypeId} {fs : Array Field} {fuel : Nat} {cs : List Value} {x : DataW H × List MemPlace} (ht : P.underlying t = some (.struct fs)) (h : DataW.trod enc P w base spare held fuel t cs = some x) : cs.length = P.cellsOf t := by
  obtain ⟨xs, n, _, _, hl, _⟩ := DataW.trod_struct ht h
  exact hl

theorem K_pair {α β : Type} {a : Kd α} {b : Kd β} {x : α} {y : β} {cs : List Value} (n : Nat) (h0 : a.K w x (cs.take n)) (h1 : b.K w y (cs.drop n)) : (Kd.pair a b).K w (x, y) cs :=
  ⟨cs.take n, cs.drop n, (List.take_append_drop n cs).symm, h0, h1⟩

theorem drop_drop' (cs : List Value) (m n : Nat) : (cs.drop m).drop n = cs.drop (m + n) := List.drop_drop

theorem K_pair' {α β : Type} {a : Kd α} {b : Kd β} {x : α} {y : β} {cs : List Value} (off n : Nat) (h0 : a.K w x ((cs.drop off).take n)) (h1 : b.K w y (cs.drop (off + n))) : (Kd.pair a b).K w (x, y) (cs.drop off) :=
  K_pair n h0 (by rw [drop_drop']; exact h1)

theorem K_last {α : Type} {a : Kd α} {x : α} {cs : List Value} (off n : Nat) (h0 : a.K w x ((cs.drop off).take n)) (hl : cs.length ≤ off + n) : a.K w x (cs.drop off) := by
  rw [List.take_of_length_le (by rw [List.length_drop]; omega)] at h0
  exact h0

theorem K_all {α : Type} {a : Kd α} {x : α} {cs : List Value} (h0 : a.K w x (cs.drop 0)) : a.K w x cs := h0

theorem okWide_agg {r : Reach} {t : TypeId} {fs : Array Field} {v : Value} (ht : P.underlying t = some (.struct fs)) (h : Value.okWide P w r base t v) : ∃ cs, v = .agg cs := by
  obtain ⟨cs, h, _⟩ := okWide_struct ht h
  exact ⟨cs, h⟩

theorem agg_of {cs : Array Value} {l : List Value} (h : (Value.agg cs).cells.toList = l) : cs = l.toArray := by
  subst h
  simp [Value.cells]

theorem slice_of {a : Option Addr} {len cap : Nat} {A : Option Addr} {n c : Nat} (h : (Value.slice a len cap).cells.toList = [.slice A n c]) : a = A ∧ len = n ∧ cap = c := by
  simpa [Value.cells] using h
end
end Go.Proofs.Ytioicmialbimfaa.XOpen
end

section
namespace Go.Proofs.Ytioicmialbimfaa.rateMore
open Go.ChangeShapes Go.WideShapes Go.ChangeAt Go.RowKit Go.Proofs.Ytioicmialbimfaa.S Go.Proofs.YtioicmialbimfaaW.PrintWords Go.Proofs.Ytioicmialbimfaa.XOpen
open Go.ChangeMaps (open_string shut_string)
set_option linter.unusedVariables false
theorem own : ownKnob Try.prog.godebug = none := by kernel_rfl
theorem laidOut : laidOutB Try.prog = true := by kernel_rfl
theorem opens_S30 {H : Type} {enc : TypeId × Value → H} {w : World} {base : Nat} {spare : Nat → Bool} {held : Bool} : Opens enc Try.prog w base spare held 30 k30 (fun a => ((Lit.int .i64 a.f0).wf = true ∧ (Lit.int .i64 a.f1).wf = true ∧ (Lit.int .i64 a.f2).wf = true ∧ (Lit.int .i64 a.f3).wf = true)) := by
  intro fuel cs x h
  have hl : cs.length = 4 := (cells_len Try.underlying30 h).trans (by kernel_rfl)
  obtain ⟨a0, h0, g0⟩ := field_of Try.underlying30 h 0 _ rfl (opens_int Try.underlying2) 0 1 rfl (by kernel_rfl)
  obtain ⟨a1, h1, g1⟩ := field_of Try.underlying30 h 1 _ rfl (opens_int Try.underlying2) 1 1 rfl (by kernel_rfl)
  obtain ⟨a2, h2, g2⟩ := field_of Try.underlying30 h 2 _ rfl (opens_int Try.underlying2) 2 1 rfl (by kernel_rfl)
  obtain ⟨a3, h3, g3⟩ := field_of Try.underlying30 h 3 _ rfl (opens_int Try.underlying2) 3 1 rfl (by kernel_rfl)
  refine ⟨⟨a0, a1, a2, a3⟩, ?_, ⟨g0, g1, g2, g3⟩⟩
  exact K_all (K_pair' 0 1 h0 (K_pair' 1 1 h1 (K_pair' 2 1 h2 (K_last 3 1 h3 (by omega)))))
set_option maxRecDepth 100000 in
theorem lifted (os : Os) (started : os.Started) (H : Type) (enc : TypeId × Value → H) :
    ReturnsInHanded {} Try.checked os 5 .any (Rows.rateMoreSpec.pre6 enc Try.prog Try.f5 Rows.rateMoreRow.domain false) (Rows.rateMoreSpec.post enc Try.prog Try.f5 false true false false) := by
  refine returnsInHanded_of_change_sized (C := Try.checked) own started (by kernel_rfl) Try.func5
    (ChangeSpec.witness6 (enc := enc) (C := Try.checked) false ⟨#[], #[.agg #[.int .i64 0, .int .i64 0, .int .i64 0, .int .i64 0]], []⟩ 8 (by kernel_rfl) (by kernel_rfl) (by kernel_rfl) (by kernel_rfl)) ?_
  intro W base args ds gs before hval0 hW hcnd hsz0 _
  have hval : ∀ (j : Nat) t v, Try.f5.params[j]? = some t → args[j]? = some v → Value.okWide Try.prog W .any base t v := hval0
  have hW' := hW
  obtain ⟨p, q, hA0, hV, rfl, hfz, hnd⟩ := hW
  have hA : DataW.TrodAll enc Try.prog W 0 (fun _ => true) true Try.f5.params.toList args.toList ds p := hA0
  rw [Try.params5] at hA hval
  obtain ⟨v0, vs0, d0, ds0, p0, q0, hargs, rfl, rfl, h0, r0⟩ := trodAll_cons hA
  obtain ⟨rfl, rfl, rfl⟩ := trodAll_nil r0
  obtain rfl : args = #[v0] := by cases args; simp_all
  obtain ⟨rfl, rfl⟩ := trodVars_none hV
  clear hA0 hsz0
  have k0 := h0
  have lt0 : ∀ x ∈ p0, x.block < W.heap.size := by obtain ⟨m, hm⟩ := k0; exact DataW.trod_lt m _ _ _ hm
  obtain ⟨u0, hf0⟩ := h0
  obtain ⟨s0, hk0, hg0⟩ := opens_S30 _ _ _ hf0
  have he0 := k30_open hk0
  obtain ⟨b0, rfl⟩ := okWide_agg Try.underlying30 (hval 0 30 v0 rfl rfl)
  obtain rfl := agg_of he0
  refine (S.lombardlaw03_RateMore.walk Pure.RateMore s0.f0 s0.f1 s0.f2 s0.f3 W  hg0.1 hg0.2.1 hg0.2.2.1 hg0.2.2.2).mono fun e W' ⟨he, bel⟩ => ?_
  subst he
  exact ⟨_, rfl, _, _, _, [], _, [], hW', trodAll_mk1 (shut_bool Try.underlying4 _), (trodAll_cons_mk (Below.trod laidOut (by kernel_rfl) (of_decide_eq_true (by kernel_rfl)) k0 bel lt0) trodAll_mk0), rfl, bel.frame _, fun h => by cases h⟩
theorem over : Rows.rateMoreRow.holds Try.pinned (OpenSpec.ofChange Rows.rateMoreSpec) :=
  OpenClaim.holds_of_wide 5 Try.f5 rfl rfl rfl rfl rfl rfl rfl ⟨rfl, rfl, rfl, rfl, rfl⟩ rfl rfl rfl rfl rfl (by kernel_rfl) Try.func5 (by kernel_rfl)
    (of_decide_eq_true (by kernel_rfl)) (by unfold Func.isWrapper; first | (rw [if_pos (by decide +kernel)]; kernel_rfl) | (rw [if_neg (by decide +kernel)]; exact ⟨rfl, rfl⟩))
    (fun os started H enc _ => lifted os started H enc)
theorem proved : Rows.RateMoreSaid := over
#print axioms proved
end Go.Proofs.Ytioicmialbimfaa.rateMore
namespace Go.Proofs.Ytioicmialbimfaa
/-- The row, under a short name, for the claim. -/
theorem rateMore_holds : Rows.RateMoreSaid := rateMore.proved
end Go.Proofs.Ytioicmialbimfaa
end
