/- The statement SchedLeastSaid: for every input the law returns true, and each argument reads afterwards as it read before. Conditions: none. -/
import Derived.Test.YtchpeobenlnemaaMSchedLeast2
import Derived.Test.YtchpeobenlnemaaSxWideMulDiv
import Derived.Test.YtchpeobenlnemaaSxRateInterest
import Derived.Test.YtchpeobenlnemaaSx0
import Derived.Test.YtchpeobenlnemaaMSchedLeast1
import Derived.Test.YtchpeobenlnemaaSxSchedLevel
import Derived.Test.YtchpeobenlnemaaSxMoneyMay
import Derived.Test.YtchpeobenlnemaaSxMoneySizeInt64
import Derived.Test.YtchpeobenlnemaaSxMoneySplit
import Derived.Test.YtchpeobenlnemaaXWalk
import Derived.OrdersHeld
import Derived.LoopTactic
import Derived.Deep.DeepMust
import Derived.Test.YtchpeobenlnemaaRows
import Derived.WalkKit
import Derived.ProofKit
import Derived.OpenShut
import Derived.ShutString
import Derived.ChangeOld
import Derived.Below
import Derived.SizedLaws
section
namespace Go.Proofs.Ytchpeobenlnemaa.Rnd
set_option linter.unusedVariables false
set_option linter.unusedSimpArgs false

/-- A over b rounded to the nearer whole number, to the even one of two; b above 0. -/
def near (A b : Int) : Int := if 2 * (A % b) > b ∨ 2 * (A % b) = b ∧ (A / b) % 2 = 1 then A / b + 1 else A / b

theorem div_split (A b : Int) (hb : 0 < b) : A = b * (A / b) + A % b ∧ 0 ≤ A % b ∧ A % b < b :=
  ⟨(Int.mul_ediv_add_emod A b).symm, Int.emod_nonneg A (by omega), Int.emod_lt_of_pos A hb⟩

theorem near_spec {A b : Int} (hb : 0 < b) : 2 * (b * near A b) ≤ 2 * A + b ∧ 2 * A ≤ 2 * (b * near A b) + b ∧
    (2 * (b * near A b) = 2 * A + b ∨ 2 * A = 2 * (b * near A b) + b → near A b % 2 = 0) := by
  obtain ⟨h, h0, h1⟩ := div_split A b hb
  unfold near
  generalize A % b = r at *
  generalize A / b = q at *
  split
  · rw [Int.mul_add, Int.mul_one]
    generalize b * q = m at *
    refine ⟨by omega, by omega, by omega⟩
  · generalize b * q = m at *
    refine ⟨by omega, by omega, by omega⟩

theorem mul_step {b N M : Int} (hb : 0 < b) (h : N < M) : b * N + b ≤ b * M := by
  have : b * (N + 1) ≤ b * M := Int.mul_le_mul_of_nonneg_left (by omega) (by omega)
  rw [Int.mul_add, Int.mul_one] at this
  exact this

theorem near_mono {A A' b : Int} (hb : 0 < b) (h : A ≤ A') : near A b ≤ near A' b := by
  obtain ⟨a1, a2, a3⟩ := near_spec (A := A) hb
  obtain ⟨b1, b2, b3⟩ := near_spec (A := A') hb
  generalize near A b = N at *
  generalize near A' b = M at *
  by_cases c : N ≤ M
  · exact c
  have s := mul_step hb (show M < N by omega)
  have s2 : M + 2 ≤ N → b * M + 2 * b ≤ b * N := fun h => by
    have := mul_step hb (show M < M + 1 by omega)
    have := mul_step hb (show M + 1 < N by omega)
    omega
  by_cases d : M + 2 ≤ N
  · have := s2 d
    omega
  have e : N = M + 1 := by omega
  subst e
  rw [Int.mul_add, Int.mul_one] at *
  omega

theorem near_uniq {A b N : Int} (hb : 0 < b) (h1 : 2 * (b * N) ≤ 2 * A + b) (h2 : 2 * A ≤ 2 * (b * N) + b)
    (h3 : 2 * (b * N) = 2 * A + b ∨ 2 * A = 2 * (b * N) + b → N % 2 = 0) : near A b = N := by
  obtain ⟨a1, a2, a3⟩ := near_spec (A := A) hb
  generalize near A b = M at *
  rcases Int.lt_trichotomy M N with c | c | c
  · have s := mul_step hb c
    by_cases d : M + 2 ≤ N
    · have := mul_step hb (show M < M + 1 by omega)
      have := mul_step hb (show M + 1 < N by omega)
      omega
    have e : N = M + 1 := by omega
    subst e
    rw [Int.mul_add, Int.mul_one] at *
    omega
  · exact c
  · have s := mul_step hb c
    by_cases d : N + 2 ≤ M
    · have := mul_step hb (show N < N + 1 by omega)
      have := mul_step hb (show N + 1 < M by omega)
      omega
    have e : M = N + 1 := by omega
    subst e
    rw [Int.mul_add, Int.mul_one] at *
    omega

theorem near_neg {A b : Int} (hb : 0 < b) : near (-A) b = -near A b := by
  obtain ⟨a1, a2, a3⟩ := near_spec (A := A) hb
  have e : b * -near A b = -(b * near A b) := Int.mul_neg _ _
  refine near_uniq hb ?_ ?_ ?_ <;> rw [e] <;> omega

theorem near_exact {b N : Int} (hb : 0 < b) : near (b * N) b = N := near_uniq hb (by omega) (by omega) (by omega)

/-- the quotient: way 0 downwards, way 1 to the nearer one -/
def rnd (A b way : Int) : Int := if way = 0 then (if b < 0 then (-A) / (-b) else A / b) else (if b < 0 then near (-A) (-b) else near A b)

theorem floor_neg {X b : Int} (hb : 0 < b) : (-X) / b = -(X / b + if X % b > 0 then 1 else 0) := by
  obtain ⟨h, h0, h1⟩ := div_split X b hb
  obtain ⟨g, g0, g1⟩ := div_split (-X) b hb
  generalize X % b = r at *
  generalize X / b = q at *
  generalize (-X) % b = r' at *
  generalize (-X) / b = q' at *
  -- b q' + r' = -(b q + r)
  split
  · rcases Int.lt_trichotomy q' (-(q + 1)) with c | c | c
    · have := mul_step hb c
      rw [Int.mul_neg, Int.mul_add, Int.mul_one] at this
      omega
    · omega
    · have := mul_step hb c
      rw [Int.mul_neg, Int.mul_add, Int.mul_one] at this
      omega
  · rcases Int.lt_trichotomy q' (-q) with c | c | c
    · have := mul_step hb c
      rw [Int.mul_neg] at this
      omega
    · omega
    · have := mul_step hb c
      rw [Int.mul_neg] at this
      omega

/-- whether the size of a quotient is rounded up -/
def upf (way X y : Int) (less : Bool) : Bool := if way = 0 then less && decide (X % y > 0) else decide (2 * (X % y) > y ∨ 2 * (X % y) = y ∧ (X / y) % 2 = 1)
/-- by sizes and signs, as the code does it -/
theorem rnd_sizes {A b way X y : Int} (hw : way = 0 ∨ way = 1) (hb : b ≠ 0) (hX : X = if A < 0 then -A else A) (hy : y = if b < 0 then -b else b) :
    rnd A b way = if (decide (A < 0) != decide (b < 0)) = true then -(X / y + (if upf way X y (decide (A < 0) != decide (b < 0)) = true then 1 else 0)) else X / y + (if upf way X y (decide (A < 0) != decide (b < 0)) = true then 1 else 0) := by
  unfold upf
  have hy0 : 0 < y := by subst hy; split <;> omega
  have hX0 : 0 ≤ X := by subst hX; split <;> omega
  rcases hw with rfl | rfl
  · unfold rnd
    rw [if_pos rfl]
    simp only [if_true]
    by_cases c : A < 0
    · rw [if_pos c] at hX
      by_cases d : b < 0
      · rw [if_pos d] at hy ⊢
        rw [decide_eq_true c, decide_eq_true d, ← hX, ← hy]
        simp
      · rw [if_neg d] at hy ⊢
        rw [decide_eq_true c, decide_eq_false d, ← hy]
        have : A = -X := by omega
        rw [this, floor_neg hy0]
        simp
    · rw [if_neg c] at hX
      by_cases d : b < 0
      · rw [if_pos d] at hy ⊢
        rw [decide_eq_false c, decide_eq_true d, ← hX, ← hy, floor_neg hy0]
        simp
      · rw [if_neg d] at hy ⊢
        rw [decide_eq_false c, decide_eq_false d, ← hX, ← hy]
        simp
  · unfold rnd
    rw [if_neg (by omega)]
    simp only [show ((1 : Int) = 0) = False by simp, if_false]
    have hn : (X / y + if decide (2 * (X % y) > y ∨ 2 * (X % y) = y ∧ X / y % 2 = 1) = true then 1 else 0) = near X y := by
      unfold near
      simp only [decide_eq_true_eq]
      split <;> omega
    rw [hn]
    by_cases c : A < 0
    · rw [if_pos c] at hX
      by_cases d : b < 0
      · rw [if_pos d] at hy ⊢
        rw [decide_eq_true c, decide_eq_true d, ← hX, ← hy]
        simp
      · rw [if_neg d] at hy ⊢
        rw [decide_eq_true c, decide_eq_false d, ← hy]
        have : A = -X := by omega
        rw [this, near_neg hy0]
        simp
    · rw [if_neg c] at hX
      by_cases d : b < 0
      · rw [if_pos d] at hy ⊢
        rw [decide_eq_false c, decide_eq_true d, ← hX, ← hy, near_neg hy0]
        simp
      · rw [if_neg d] at hy ⊢
        rw [decide_eq_false c, decide_eq_false d, ← hX, ← hy]
        simp
end Go.Proofs.Ytchpeobenlnemaa.Rnd
end

section
namespace Go.Proofs.Ytchpeobenlnemaa.XWide
set_option linter.unusedVariables false
set_option linter.unusedSimpArgs false
open Go.RowKit Go.Proofs.Ytchpeobenlnemaa.S Go.Proofs.Ytchpeobenlnemaa.XNum Go.Proofs.Ytchpeobenlnemaa.XBits Go.Proofs.Ytchpeobenlnemaa.Rnd Go.Proofs.YtchpeobenlnemaaW.PrintWords

abbrev I64 (n : Int) : Prop := -9223372036854775808 ≤ n ∧ n ≤ 9223372036854775807
abbrev U64 (n : Int) : Prop := 0 ≤ n ∧ n < 18446744073709551616

theorem and_ones {b : Int} (hb : I64 b) : Go.bits .and .i64 (-1) b = b := by
  show IntKind.i64.wrap (((BitVec.ofInt 64 (-1) &&& BitVec.ofInt 64 b).toNat : Nat) : Int) = b
  have e : BitVec.ofInt 64 (-1) = BitVec.allOnes 64 := by decide
  rw [e, BitVec.allOnes_and, BitVec.toNat_ofInt]
  simp only [IntKind.wrap, IntKind.bits, IntKind.signed, if_true]
  have := hb.1
  have := hb.2
  simp
  omega
theorem and_none (b : Int) : Go.bits .and .i64 0 b = 0 := by
  show IntKind.i64.wrap (((BitVec.ofInt 64 0 &&& BitVec.ofInt 64 b).toNat : Nat) : Int) = 0
  have e : BitVec.ofInt 64 0 = 0#64 := by decide
  rw [e, BitVec.zero_and]
  decide
theorem and1 {x : Int} (h0 : 0 ≤ x) (h1 : x < 18446744073709551616) : Go.bits .and .u64 x 1 = x % 2 := bits_mask .u64 64 (by decide) wraps_u64 1 (by decide) x h0 h1

theorem mul_bd {a b C D : Int} (ha : -C ≤ a) (ha' : a ≤ C) (hb : -D ≤ b) (hb' : b ≤ D) : -(C * D) ≤ a * b ∧ a * b ≤ C * D := by
  have e : (a * b).natAbs ≤ C.natAbs * D.natAbs := by
    rw [Int.natAbs_mul]
    exact Nat.mul_le_mul (by omega) (by omega)
  have f : C * D = ((C.natAbs * D.natAbs : Nat) : Int) := by
    rw [Int.natCast_mul, Int.natAbs_of_nonneg (by omega), Int.natAbs_of_nonneg (by omega)]
  rw [f]
  omega
theorem mul_i64 {a b : Int} (ha : I64 a) (hb : I64 b) : -85070591730234615865843651857942052864 ≤ a * b ∧ a * b ≤ 85070591730234615865843651857942052864 := by
  have := mul_bd (C := 9223372036854775808) (D := 9223372036854775808) (a := a) (b := b) (by have := ha.1; omega) (by have := ha.2; omega) (by have := hb.1; omega) (by have := hb.2; omega)
  omega

theorem mul {a b : Int} (ha : I64 a) (hb : I64 b) : wide_Mul.f a b = some (a * b / 18446744073709551616, a * b % 18446744073709551616) := by
  have hm := mul_i64 ha hb
  obtain ⟨a0, a1⟩ := ha
  obtain ⟨b0, b1⟩ := hb
  unfold wide_Mul.f
  rw [wu a, wu b, mul64 (by omega) (by omega) (by omega) (by omega)]
  simp only [Option.bind_some]
  by_cases ca : a < 0
  · rw [show a / 9223372036854775808 = -1 by omega, and_ones ⟨b0, b1⟩, show a % 18446744073709551616 = a + 18446744073709551616 by omega]
    by_cases cb : b < 0
    · rw [show b / 9223372036854775808 = -1 by omega, and_ones ⟨a0, a1⟩, show b % 18446744073709551616 = b + 18446744073709551616 by omega]
      have e : (a + 18446744073709551616) * (b + 18446744073709551616) = a * b + a * 18446744073709551616 + b * 18446744073709551616 + 18446744073709551616 * 18446744073709551616 := by grind
      rw [e]
      unfold wrap64
      generalize a * b = m at *
      congr 2 <;> omega
    · rw [show b / 9223372036854775808 = 0 by omega, and_none, show b % 18446744073709551616 = b by omega]
      have e : (a + 18446744073709551616) * b = a * b + b * 18446744073709551616 := by grind
      rw [e]
      unfold wrap64
      generalize a * b = m at *
      congr 2 <;> omega
  · rw [show a / 9223372036854775808 = 0 by omega, and_none, show a % 18446744073709551616 = a by omega]
    by_cases cb : b < 0
    · rw [show b / 9223372036854775808 = -1 by omega, and_ones ⟨a0, a1⟩, show b % 18446744073709551616 = b + 18446744073709551616 by omega]
      have e : a * (b + 18446744073709551616) = a * b + a * 18446744073709551616 := by grind
      rw [e]
      unfold wrap64
      generalize a * b = m at *
      congr 2 <;> omega
    · rw [show b / 9223372036854775808 = 0 by omega, and_none, show b % 18446744073709551616 = b by omega]
      unfold wrap64
      generalize a * b = m at *
      congr 2 <;> omega

theorem turned {hi lo : Int} (h : I64 hi) (l : U64 lo) : ∃ h' l', wide_turned.f hi lo = some (h', l') ∧ I64 h' ∧ U64 l' ∧
    (h' % 18446744073709551616) * 18446744073709551616 + l' = (-(hi * 18446744073709551616 + lo)) % 340282366920938463463374607431768211456 := by
  obtain ⟨h0, h1⟩ := h
  obtain ⟨l0, l1⟩ := l
  unfold wide_turned.f
  rw [if_pos l0, if_pos l1]
  refine ⟨_, _, rfl, ?_, ?_, ?_⟩
  · unfold wrap64
    omega
  · unfold XWalk.d64
    omega
  · unfold wrap64 XWalk.b64 XWalk.d64
    split <;> omega

/-- A quotient, or the error. -/
def mdiv (A b way : Int) : Int × Int :=
  if way < 0 ∨ way ≥ 2 then (0, 2) else if b = 0 then (0, 4) else if -9223372036854775808 ≤ rnd A b way ∧ rnd A b way ≤ 9223372036854775807 then (rnd A b way, 0) else (0, 3)

/-- what is told of a quotient without its sign -/
def toldQ (Q : Int) (less : Bool) : Int × Int := if less = true then (if Q ≤ 9223372036854775808 then (-Q, 0) else (0, 3)) else (if Q < 9223372036854775808 then (Q, 0) else (0, 3))

theorem j3_told {h l rest by_ : Int} {less : Bool} (h0 : 0 ≤ h) (l0 : 0 ≤ l) (l1 : l < 18446744073709551616) (k : Nat) : wide_Div.j3 (k + 2) h l rest by_ less = some (toldQ (h * 18446744073709551616 + l) less) := by
  simp only [wide_Div.j3]
  unfold toldQ
  by_cases c : h > 0
  · rw [if_pos c, if_neg (c := h * 18446744073709551616 + l ≤ _) (by omega), if_neg (c := h * 18446744073709551616 + l < _) (by omega)]
    simp
  · rw [if_neg c, show h * 18446744073709551616 + l = l by omega]
    cases less
    · simp only [wide_Div.j4, Bool.false_eq_true, if_false]
      split
      · rw [w64 (by omega) (by omega)]
      · rfl
    · simp only [wide_Div.j4, if_true]
      by_cases d : l ≤ 9223372036854775808
      · rw [decide_eq_true d, if_pos d]
        simp only [if_true]
        congr 2
        rw [wu]
        unfold wrap64
        omega
      · rw [decide_eq_false d, if_neg d]
        simp

theorem j5_told {h l rest by_ : Int} {less : Bool} (h0 : 0 ≤ h) (l0 : 0 ≤ l) (l1 : l < 18446744073709551616) (k : Nat) : wide_Div.j5 (k + 2) h l rest by_ less = some (toldQ (h * 18446744073709551616 + l) less) := by
  simp only [wide_Div.j5]
  unfold toldQ
  by_cases c : h > 0
  · rw [if_pos c, if_neg (c := h * 18446744073709551616 + l ≤ _) (by omega), if_neg (c := h * 18446744073709551616 + l < _) (by omega)]
    simp
  · rw [if_neg c, show h * 18446744073709551616 + l = l by omega]
    cases less
    · simp only [wide_Div.j6, Bool.false_eq_true, if_false]
      split
      · rw [w64 (by omega) (by omega)]
      · rfl
    · simp only [wide_Div.j6, if_true]
      by_cases d : l ≤ 9223372036854775808
      · rw [decide_eq_true d, if_pos d]
        simp only [if_true]
        congr 2
        rw [wu]
        unfold wrap64
        omega
      · rw [decide_eq_false d, if_neg d]
        simp

theorem near_told {q0 lo rest y : Int} {less : Bool} (r0 : 0 ≤ rest) (r1 : rest < y) (y1 : y < 18446744073709551616) (l0 : 0 ≤ lo) (l1 : lo < 18446744073709551616) :
    wide_quotient_near.f q0 lo rest y less = some (decide (2 * rest > y ∨ 2 * rest = y ∧ lo % 2 = 1)) := by
  unfold wide_quotient_near.f
  by_cases c : rest / 9223372036854775808 = 1
  · rw [if_pos c, decide_eq_true (by omega)]
  · rw [if_neg c, wu_id (n := rest * 2) (by omega) (by omega), and1 l0 l1]
    by_cases d : rest * 2 > y
    · rw [if_pos d, decide_eq_true (by omega)]
    · rw [if_neg d]
      by_cases e : rest * 2 = y
      · rw [if_pos e]
        congr 1
        rw [Bool.eq_iff_iff, beq_iff_eq, decide_eq_true_iff]
        omega
      · rw [if_neg e, decide_eq_false (by omega)]

/-- what is told of the sizes, by the law of sizes and signs -/
theorem told_rnd {A b way X y : Int} (hw : way = 0 ∨ way = 1) (hb : b ≠ 0) (hX : X = if A < 0 then -A else A) (hy : y = if b < 0 then -b else b) :
    toldQ (X / y + if upf way X y (decide (A < 0) != decide (b < 0)) = true then 1 else 0) (decide (A < 0) != decide (b < 0)) = mdiv A b way := by
  have this := rnd_sizes hw hb hX hy
  have hy0 : 0 < y := by subst hy; split <;> omega
  have hX0 : 0 ≤ X := by subst hX; split <;> omega
  have q0 : 0 ≤ X / y := Int.ediv_nonneg hX0 (by omega)
  unfold mdiv
  rw [if_neg (c := way < 0 ∨ way ≥ 2) (by omega), if_neg hb, this]
  generalize upf way X y (decide (A < 0) != decide (b < 0)) = up
  generalize (decide (A < 0) != decide (b < 0)) = less
  have p0 : 0 ≤ X / y + if up = true then (1 : Int) else 0 := by
    split <;> omega
  generalize (X / y + if up = true then (1 : Int) else 0) = Q at *
  unfold toldQ
  cases less
  · simp only [Bool.false_eq_true, if_false]
    by_cases c : Q < 9223372036854775808
    · rw [if_pos c, if_pos (by omega)]
    · rw [if_neg c, if_neg (by omega)]
  · simp only [if_true]
    by_cases c : Q ≤ 9223372036854775808
    · rw [if_pos c, if_pos (by omega)]
    · rw [if_neg c, if_neg (by omega)]

/-- the sum of a word and 1, with what goes over -/
theorem up_one {qh ql : Int} (h0 : 0 ≤ qh) (h1 : qh ≤ 9223372036854775808) (l0 : 0 ≤ ql) (l1 : ql < 18446744073709551616) :
    IntKind.u64.wrap (qh + XWalk.c64 ql 1 0) * 18446744073709551616 + XWalk.s64 ql 1 0 = qh * 18446744073709551616 + ql + 1 ∧ 0 ≤ IntKind.u64.wrap (qh + XWalk.c64 ql 1 0) ∧ 0 ≤ XWalk.s64 ql 1 0 ∧ XWalk.s64 ql 1 0 < 18446744073709551616 := by
  rw [wu]
  unfold XWalk.c64 XWalk.s64
  refine ⟨by omega, by omega, by omega, by omega⟩

theorem div {hi lo b way : Int} (h : I64 hi) (l : U64 lo) (hb : I64 b) {k : Nat} (hk : 30 ≤ k) : wide_Div.f k hi lo b way = some (mdiv (hi * 18446744073709551616 + lo) b way) := by
  obtain ⟨k, rfl⟩ : ∃ m, k = m + 30 := ⟨k - 30, by omega⟩
  unfold wide_Div.f
  by_cases c : way < 0 ∨ way ≥ 2
  · have e : mdiv (hi * 18446744073709551616 + lo) b way = (0, 2) := by unfold mdiv; rw [if_pos c]
    rw [e]
    by_cases c1 : way < 0
    · rw [if_pos c1]
      simp only [wide_Div.j0, if_true]
    · rw [if_neg c1, decide_eq_true (by omega)]
      simp only [wide_Div.j0, if_true]
  rw [if_neg (by omega), decide_eq_false (by omega)]
  simp only [wide_Div.j0, Bool.false_eq_true, if_false]
  by_cases cb : b = 0
  · rw [if_pos cb]
    unfold mdiv
    rw [if_neg c, if_pos cb]
  rw [if_neg cb]
  have hw : way = 0 ∨ way = 1 := by omega
  obtain ⟨h0, h1⟩ := h
  obtain ⟨l0, l1⟩ := l
  obtain ⟨b0, b1⟩ := hb
  have main : ∀ xh xl : Int, U64 xl → I64 xh → (xh % 18446744073709551616) * 18446744073709551616 + xl = (if hi * 18446744073709551616 + lo < 0 then -(hi * 18446744073709551616 + lo) else hi * 18446744073709551616 + lo) →
      wide_Div.j1 (k + 29) b way (IntKind.u64.wrap b) hi lo xh xl = some (mdiv (hi * 18446744073709551616 + lo) b way) := by
    intro xh xl ⟨xl0, xl1⟩ ⟨xh0, xh1⟩ hX
    have j2 : ∀ y : Int, y = (if b < 0 then -b else b) → wide_Div.j2 (k + 28) b way y hi lo xh xl = some (mdiv (hi * 18446744073709551616 + lo) b way) := by
      intro y hy
      have hy0 : 0 < y := by subst hy; split <;> omega
      have hy1 : y ≤ 9223372036854775808 := by subst hy; split <;> omega
      simp only [wide_Div.j2]
      rw [if_neg (by omega), wu xh, td_nn (by omega), tm_nn (by omega)]
      have x0 : 0 ≤ xh % 18446744073709551616 := by omega
      have x1 : xh % 18446744073709551616 ≤ 9223372036854775808 := by
        split at hX <;> omega
      generalize xh % 18446744073709551616 = X1 at *
      have a := Int.mul_ediv_add_emod X1 y
      have a0 := Int.emod_nonneg X1 (show y ≠ 0 by omega)
      have a1 := Int.emod_lt_of_pos X1 hy0
      have q0 : 0 ≤ X1 / y := Int.ediv_nonneg x0 (by omega)
      have q1 : X1 / y ≤ X1 := Int.ediv_le_self _ x0
      rw [div64 a0 a1 xl0 xl1 (by omega) (by omega)]
      simp only [Option.bind_some]
      generalize X1 / y = qh at *
      generalize X1 % y = rest at *
      have m := Int.mul_ediv_add_emod (rest * 18446744073709551616 + xl) y
      have m0 := Int.emod_nonneg (rest * 18446744073709551616 + xl) (show y ≠ 0 by omega)
      have m1 := Int.emod_lt_of_pos (rest * 18446744073709551616 + xl) hy0
      have p0 : 0 ≤ (rest * 18446744073709551616 + xl) / y := Int.ediv_nonneg (by omega) (by omega)
      have p1 : (rest * 18446744073709551616 + xl) / y < 18446744073709551616 := by
        rw [Int.ediv_lt_iff_lt_mul hy0, Int.mul_comm]
        omega
      generalize (rest * 18446744073709551616 + xl) / y = ql at *
      generalize (rest * 18446744073709551616 + xl) % y = rr at *
      have whole := Knuth.quot_uniq (A := X1 * 18446744073709551616 + xl) (b := y) (q := qh * 18446744073709551616 + ql) (r := rr) hy0 (by
        rw [Int.mul_add, ← Int.mul_assoc]
        generalize y * qh = u at *
        generalize y * ql = v at *
        omega) m0 m1
      have T := told_rnd (A := hi * 18446744073709551616 + lo) (b := b) (way := way) (X := X1 * 18446744073709551616 + xl) (y := y) hw cb hX hy
      unfold upf at T
      rw [whole.1, whole.2] at T
      have s : (!(decide (hi < 0) == decide (b < 0))) = (decide (hi * 18446744073709551616 + lo < 0) != decide (b < 0)) := by
        rw [show decide (hi < 0) = decide (hi * 18446744073709551616 + lo < 0) from decide_eq_decide.2 (by omega)]
        rfl
      rw [s, ← T]
      generalize (decide (hi * 18446744073709551616 + lo < 0) != decide (b < 0)) = less
      obtain ⟨u1, u2, u3, u4⟩ := up_one (qh := qh) (ql := ql) q0 (by omega) p0 p1
      rcases hw with rfl | rfl
      · simp only [if_true]
        have F : wide_quotient_floor.f (IntKind.u64.wrap qh) ql rr y less = some (less && decide (rr > 0)) := by
          unfold wide_quotient_floor.f
          cases less <;> simp
        rw [F]
        simp only [Option.bind_some]
        rw [wu_id (n := qh) q0 (by omega)]
        by_cases d : (less && decide (rr > 0)) = true
        · rw [if_pos d, if_pos d, if_pos p0]
          rw [j3_told u2 u3 u4, u1]
          first | done | rfl
        · rw [if_neg d, if_neg d]
          rw [j3_told q0 p0 p1]
          simp
      · simp only [show ((1 : Int) = 0) = False by simp, if_false, if_true]
        rw [near_told m0 m1 (by omega) p0 p1]
        simp only [Option.bind_some]
        rw [wu_id (n := qh) q0 (by omega)]
        have par : (qh * 18446744073709551616 + ql) % 2 = ql % 2 := by omega
        rw [par]
        by_cases d : (decide (2 * rr > y ∨ 2 * rr = y ∧ ql % 2 = 1)) = true
        · rw [if_pos d, if_pos d, if_pos p0]
          rw [j5_told u2 u3 u4, u1]
          first | done | rfl
        · rw [if_neg d, if_neg d]
          rw [j5_told q0 p0 p1]
          simp
    simp only [wide_Div.j1]
    by_cases d : b < 0
    · rw [if_pos d]
      refine j2 _ ?_
      rw [wu, wu, if_pos d]
      omega
    · rw [if_neg d]
      refine j2 _ ?_
      rw [wu, if_neg d]
      omega
  by_cases d : hi < 0
  · rw [if_pos d]
    obtain ⟨h', l', e, i1, i2, i3⟩ := turned ⟨h0, h1⟩ ⟨l0, l1⟩
    rw [e]
    simp only [Option.bind_some]
    refine main h' l' i2 i1 ?_
    rw [i3, if_pos (by omega)]
    omega
  · rw [if_neg d]
    refine main hi lo ⟨l0, l1⟩ ⟨h0, h1⟩ ?_
    rw [if_neg (by omega)]
    omega

theorem mulDiv {a b c way : Int} (ha : I64 a) (hb : I64 b) (hc : I64 c) {k : Nat} (hk : 30 ≤ k) : wide_MulDiv.f k a b c way = some (mdiv (a * b) c way) := by
  unfold wide_MulDiv.f
  rw [mul ha hb]
  have hm := mul_i64 ha hb
  simp only [Option.bind_some]
  rw [div ⟨by omega, by omega⟩ ⟨by omega, by omega⟩ hc hk]
  simp only [Option.bind_some]
  rw [show a * b / 18446744073709551616 * 18446744073709551616 + a * b % 18446744073709551616 = a * b by omega]
end Go.Proofs.Ytchpeobenlnemaa.XWide
end

section
namespace Go.Proofs.Ytchpeobenlnemaa.XMdiv
set_option linter.unusedVariables false
set_option linter.unusedSimpArgs false
open Go.RowKit Go.Proofs.Ytchpeobenlnemaa.S Go.Proofs.Ytchpeobenlnemaa.XNum Go.Proofs.Ytchpeobenlnemaa.XBits Go.Proofs.Ytchpeobenlnemaa.XWide Go.Proofs.Ytchpeobenlnemaa.Rnd Go.Proofs.YtchpeobenlnemaaW.PrintWords

theorem rnd_n {A b : Int} (hb : 0 < b) : rnd A b 1 = near A b := by
  unfold rnd
  rw [if_neg (c := (1 : Int) = 0) (by omega), if_neg (c := b < 0) (by omega)]
/-- to the nearer one, by a number above 0 -/
theorem mdiv_n {A b : Int} (hb : 0 < b) : mdiv A b 1 = if I64 (near A b) then (near A b, 0) else (0, 3) := by
  unfold mdiv
  rw [if_neg (c := (1 : Int) < 0 ∨ (1 : Int) ≥ 2) (by omega), if_neg (c := b = 0) (by omega), rnd_n hb]
theorem mdiv_in {A b : Int} (hb : 0 < b) (h : I64 (near A b)) : mdiv A b 1 = (near A b, 0) := by
  rw [mdiv_n hb, if_pos h]
end Go.Proofs.Ytchpeobenlnemaa.XMdiv
end

section
namespace Go.Proofs.Ytchpeobenlnemaa.XRate
set_option linter.unusedVariables false
set_option linter.unusedSimpArgs false
open Go.RowKit Go.Proofs.Ytchpeobenlnemaa.S Go.Proofs.Ytchpeobenlnemaa.XNum Go.Proofs.Ytchpeobenlnemaa.XBits Go.Proofs.Ytchpeobenlnemaa.XWide Go.Proofs.Ytchpeobenlnemaa.Rnd Go.Proofs.Ytchpeobenlnemaa.XMdiv Go.Proofs.YtchpeobenlnemaaW.PrintWords

/-- may a rate be? -/
def mayR (r : Int) : Prop := -990000000000 ≤ r ∧ r ≤ 10000000000000
instance (r : Int) : Decidable (mayR r) := inferInstanceAs (Decidable (_ ∧ _))
theorem may (r : Int) : rate_May.f r = some (decide (mayR r)) := by
  unfold rate_May.f
  by_cases c : mayR r
  · rw [decide_eq_true c]
    unfold mayR at c
    rw [if_pos (by omega), decide_eq_true (by omega)]
  · rw [decide_eq_false c]
    unfold mayR at c
    by_cases d : r ≥ -990000000000
    · rw [if_pos d, decide_eq_false (by omega)]
    · rw [if_neg d]

def interest (x r : Int) : Int × Int := if mayR r then mdiv (x * r) 1000000000000 1 else (0, 2)
def grow (x r : Int) : Int × Int := if mayR r then mdiv (x * (1000000000000 + r)) 1000000000000 1 else (0, 2)
def discount (x r : Int) : Int × Int := if mayR r then mdiv (x * 1000000000000) (1000000000000 + r) 1 else (0, 2)

theorem interest_f {x r : Int} (hx : I64 x) {k : Nat} (hk : 30 ≤ k) : rate_Interest.f k x r = some (interest x r) := by
  unfold rate_Interest.f rate_over_rate_yield.f rate_yield_terms.f
  rw [may]
  simp only [Option.bind_some]
  unfold interest
  by_cases c : mayR r
  · rw [decide_eq_true c, if_pos c]
    simp only [if_true]
    unfold mayR at c
    rw [mulDiv hx ⟨by omega, by omega⟩ ⟨by omega, by omega⟩ hk]
    simp only [Option.bind_some]
  · rw [decide_eq_false c, if_neg c]
    simp
/-- a part of a rate -/
def part (r o all : Int) : Int × Int := if o < 0 ∨ all ≤ 0 then (0, 2) else mdiv (r * o) all 1
/-- what an amount grows to in n periods, or the first error -/
def powers (r : Int) : Nat → Int × Int
  | 0 => (1000000000000, 0)
  | n + 1 => if (powers r n).2 = 0 then grow (powers r n).1 r else powers r n
def power (r n : Int) : Int × Int := if mayR r ∧ 0 ≤ n ∧ n ≤ 600 then powers r n.toNat else (0, 2)
end Go.Proofs.Ytchpeobenlnemaa.XRate
end

section
namespace Go.Proofs.Ytchpeobenlnemaa.S
open Go.RowKit Go.Proofs.YtchpeobenlnemaaW.PrintWords Go.Proofs.YtchpeobenlnemaaW.PrintLast Go.Proofs.YtchpeobenlnemaaW.PrintMore
attribute [local go_sem] max2_int min2_int max_two min_two max_three min_three max_four min_four   -- for this text's walks alone
attribute [local go_sem] Go.Proofs.Ytchpeobenlnemaa.XWalk.cell2
set_option linter.unusedVariables false
set_option linter.unusedSimpArgs false

/-! ### lombardref02_MulDiv: function 55 -/
-- IMPORT BigMath
def lombardref02_MulDiv.f (a0 a1 a2 a3 : Int) : Option (Int × Int) :=
  if -9223372036854775808 ≤ a0 ∧ a0 ≤ 9223372036854775807 ∧ -9223372036854775808 ≤ a1 ∧ a1 ≤ 9223372036854775807 ∧ -9223372036854775808 ≤ a2 ∧ a2 ≤ 9223372036854775807 then some (lombardref02_div.v (decide (a0 < 0) != decide (a1 < 0)) (a0.natAbs * a1.natAbs) a2 a3) else none
end Go.Proofs.Ytchpeobenlnemaa.S
end

section
namespace Go.Proofs.Ytchpeobenlnemaa.XRef02
set_option linter.unusedVariables false
set_option linter.unusedSimpArgs false
open Go.RowKit Go.Proofs.Ytchpeobenlnemaa.S Go.Proofs.Ytchpeobenlnemaa.XNum Go.Proofs.Ytchpeobenlnemaa.XWide Go.Proofs.Ytchpeobenlnemaa.Rnd Go.Proofs.YtchpeobenlnemaaW.PrintWords

theorem up_eq (way : Int) (L : Bool) (N D : Nat) : lombardref02_div.up way L N D = upf way N D L := by
  have e1 : ((N % D : Nat) : Int) = (N : Int) % D := Int.natCast_emod N D
  have e2 : ((N / D : Nat) : Int) = (N : Int) / D := Int.natCast_ediv N D
  unfold lombardref02_div.up upf
  rw [← e1, ← e2]
  by_cases c : way = 0
  · rw [if_pos c, if_pos c]
    congr 1
    exact decide_eq_decide.2 (by omega)
  · rw [if_neg c, if_neg c, Bool.eq_iff_iff]
    simp only [Bool.or_eq_true, Bool.and_eq_true, decide_eq_true_iff]
    omega
theorem Q_eq (way : Int) (L : Bool) (N D : Nat) : ((lombardref02_div.Q way L N D : Nat) : Int) = (N : Int) / D + if upf way N D L = true then 1 else 0 := by
  have e2 : ((N / D : Nat) : Int) = (N : Int) / D := Int.natCast_ediv N D
  unfold lombardref02_div.Q
  rw [up_eq, ← e2]
  split <;> omega
theorem told (way : Int) (L : Bool) (N D : Nat) : (lombardref02_div.r way L N D, lombardref02_div.e way L N D) = toldQ ((lombardref02_div.Q way L N D : Nat) : Int) L := by
  have e : (2 : Nat) ^ 63 = 9223372036854775808 := by decide
  unfold lombardref02_div.r lombardref02_div.e lombardref02_small.v lombardref02_small.ok toldQ
  rw [e]
  generalize lombardref02_div.Q way L N D = Q
  cases L
  · by_cases c : Q < 9223372036854775808
    · have z : ¬(9223372036854775808 < Q ∨ Q = 9223372036854775808 ∧ false = false) := by
        intro h
        rcases h with h | h <;> omega
      rw [if_neg z, if_neg z, if_pos rfl, if_pos rfl, if_neg (by simp), if_neg (by simp), if_pos (by omega)]
    · have z : 9223372036854775808 < Q ∨ Q = 9223372036854775808 ∧ false = false := by
        by_cases d : Q = 9223372036854775808
        · exact .inr ⟨d, rfl⟩
        · exact .inl (by omega)
      rw [if_pos z, if_neg (by simp), if_neg (by simp), if_neg (by simp), if_neg (by omega)]
  · by_cases c : Q ≤ 9223372036854775808
    · have z : ¬(9223372036854775808 < Q ∨ Q = 9223372036854775808 ∧ true = false) := by
        intro h
        rcases h with h | h
        · omega
        · exact absurd h.2 (by simp)
      rw [if_neg z, if_neg z, if_pos rfl, if_pos rfl, if_pos rfl, if_pos rfl, if_pos (by omega)]
    · have z : 9223372036854775808 < Q ∨ Q = 9223372036854775808 ∧ true = false := .inl (by omega)
      rw [if_pos z, if_neg (by simp), if_neg (by simp), if_pos rfl, if_neg (by omega)]
theorem zero {way y : Int} (hy : 0 < y) (L : Bool) : toldQ (0 / y + if upf way 0 y L = true then 1 else 0) L = (0, 0) := by
  have u : upf way 0 y L = false := by
    unfold upf
    rw [Int.zero_emod, Int.zero_ediv]
    split
    · simp
    · exact decide_eq_false (by omega)
  rw [u, Int.zero_ediv]
  unfold toldQ
  cases L <;> simp
theorem v_eq {less : Bool} {N : Nat} {b way : Int} : lombardref02_div.v less N b way = mdiv (if less = true then -(N : Int) else N) b way := by
  unfold lombardref02_div.v
  by_cases c : way ≠ 0 ∧ way ≠ 1
  · rw [if_pos c]
    unfold mdiv
    rw [if_pos (by omega)]
  · rw [if_neg c]
    by_cases z : b = 0
    · rw [if_pos z]
      unfold mdiv
      rw [if_neg (by omega), if_pos z]
    · rw [if_neg z, told, Q_eq]
      have hw : way = 0 ∨ way = 1 := by omega
      have hy : ((b.natAbs : Nat) : Int) = if b < 0 then -b else b := by split <;> omega
      have y0 : (0 : Int) < (b.natAbs : Nat) := by omega
      by_cases n0 : N = 0
      · subst n0
        have t := told_rnd (A := 0) (b := b) (way := way) (X := 0) (y := (b.natAbs : Nat)) hw z (by simp) hy
        rw [zero y0] at t
        have w : (if less = true then -((0 : Nat) : Int) else ((0 : Nat) : Int)) = 0 := by split <;> rfl
        rw [w, ← t]
        exact zero y0 _
      · have A0 : decide ((if less = true then -(N : Int) else (N : Int)) < 0) = less := by
          cases less
          · rw [if_neg (by simp)]
            exact decide_eq_false (by omega)
          · rw [if_pos rfl]
            exact decide_eq_true (by omega)
        have t := told_rnd (A := if less = true then -(N : Int) else (N : Int)) (b := b) (way := way) (X := N) (y := (b.natAbs : Nat)) hw z (by
          cases less
          · rw [if_neg (c := false = true) (by simp), if_neg (by omega)]
          · rw [if_pos (c := true = true) rfl, if_pos (by omega), Int.neg_neg]) hy
        rw [A0] at t
        exact t
theorem mulDiv {a b c way : Int} (ha : I64 a) (hb : I64 b) (hc : I64 c) : lombardref02_MulDiv.f a b c way = some (mdiv (a * b) c way) := by
  unfold lombardref02_MulDiv.f
  rw [if_pos ⟨ha.1, ha.2, hb.1, hb.2, hc.1, hc.2⟩, v_eq]
  congr 2
  have h1 : ((a.natAbs : Nat) : Int) = if a < 0 then -a else a := by split <;> omega
  have h2 : ((b.natAbs : Nat) : Int) = if b < 0 then -b else b := by split <;> omega
  rw [Int.natCast_mul, h1, h2]
  by_cases x : a < 0 <;> by_cases y : b < 0 <;> simp [x, y, Int.neg_mul, Int.mul_neg]
end Go.Proofs.Ytchpeobenlnemaa.XRef02
end

section
namespace Go.Proofs.Ytchpeobenlnemaa.S
open Go.RowKit Go.Proofs.YtchpeobenlnemaaW.PrintWords Go.Proofs.YtchpeobenlnemaaW.PrintLast Go.Proofs.YtchpeobenlnemaaW.PrintMore
attribute [local go_sem] max2_int min2_int max_two min_two max_three min_three max_four min_four   -- for this text's walks alone
attribute [local go_sem] Go.Proofs.Ytchpeobenlnemaa.XWalk.cell2
set_option linter.unusedVariables false
set_option linter.unusedSimpArgs false

/-! ### lombardref03_May: function 54 -/
def lombardref03_May.f (a0 : Int) : Option (Bool) := if a0 ≥ (-990000000000) then (some (decide (a0 ≤ 10000000000000))) else (some false)
end Go.Proofs.Ytchpeobenlnemaa.S
end

section
namespace Go.Proofs.Ytchpeobenlnemaa.S
open Go.RowKit Go.Proofs.YtchpeobenlnemaaW.PrintWords Go.Proofs.YtchpeobenlnemaaW.PrintLast Go.Proofs.YtchpeobenlnemaaW.PrintMore
attribute [local go_sem] max2_int min2_int max_two min_two max_three min_three max_four min_four   -- for this text's walks alone
attribute [local go_sem] Go.Proofs.Ytchpeobenlnemaa.XWalk.cell2
set_option linter.unusedVariables false
set_option linter.unusedSimpArgs false

/-! ### lombardref03_near: function 48 -/
def lombardref03_near.f (a0 : Int) (a1 : Int) (a2 : Int) (a3 : Int) : Option (Int × Int) := (lombardref03_May.f a0).bind fun t209 => (if t209 = true then ((lombardref02_MulDiv.f a1 a2 a3 1).bind fun bt210 => (some (bt210.1, bt210.2))) else (some (0, 2)))
end Go.Proofs.Ytchpeobenlnemaa.S
end

section
namespace Go.Proofs.Ytchpeobenlnemaa.S
open Go.RowKit Go.Proofs.YtchpeobenlnemaaW.PrintWords Go.Proofs.YtchpeobenlnemaaW.PrintLast Go.Proofs.YtchpeobenlnemaaW.PrintMore
attribute [local go_sem] max2_int min2_int max_two min_two max_three min_three max_four min_four   -- for this text's walks alone
attribute [local go_sem] Go.Proofs.Ytchpeobenlnemaa.XWalk.cell2
set_option linter.unusedVariables false
set_option linter.unusedSimpArgs false

/-! ### lombardref03_Interest: function 30 -/
def lombardref03_Interest.f (a0 : Int) (a1 : Int) : Option (Int × Int) := (lombardref03_near.f a1 a0 a1 1000000000000).bind fun bt212 => (some (bt212.1, bt212.2))
end Go.Proofs.Ytchpeobenlnemaa.S
end

section
namespace Go.Proofs.Ytchpeobenlnemaa.XRefRate
set_option linter.unusedVariables false
set_option linter.unusedSimpArgs false
open Go.RowKit Go.Proofs.Ytchpeobenlnemaa.S Go.Proofs.Ytchpeobenlnemaa.XNum Go.Proofs.Ytchpeobenlnemaa.XBits Go.Proofs.Ytchpeobenlnemaa.XWide Go.Proofs.Ytchpeobenlnemaa.Rnd Go.Proofs.Ytchpeobenlnemaa.XMdiv Go.Proofs.Ytchpeobenlnemaa.XRate Go.Proofs.YtchpeobenlnemaaW.PrintWords

end Go.Proofs.Ytchpeobenlnemaa.XRefRate
end

section
namespace Go.Proofs.Ytchpeobenlnemaa.S
open Go.RowKit Go.Proofs.YtchpeobenlnemaaW.PrintWords Go.Proofs.YtchpeobenlnemaaW.PrintLast Go.Proofs.YtchpeobenlnemaaW.PrintMore
attribute [local go_sem] max2_int min2_int max_two min_two max_three min_three max_four min_four   -- for this text's walks alone
attribute [local go_sem] Go.Proofs.Ytchpeobenlnemaa.XWalk.cell2
set_option linter.unusedVariables false
set_option linter.unusedSimpArgs false

/-! ### lombardref08_pays: function 39 -/
mutual
def lombardref08_pays.l0 : Nat → Int → Int → Int → Int → Int → Option (Bool)
  | 0, _, _, _, _, _ => none
  | k + 1, x0, x1, x2, x3, x9 => if x9 < x2 then (lombardref08_pays.j1 k x0 x1 x2 x3 x9 (decide (x0 > 0))) else (lombardref08_pays.j1 k x0 x1 x2 x3 x9 false)
def lombardref08_pays.j1 : Nat → Int → Int → Int → Int → Int → Bool → Option (Bool)
  | 0, _, _, _, _, _, _ => none
  | k + 1, x0, x1, x2, x3, x9, x18 => if x18 = true then ((lombardref03_Interest.f x0 x1).bind fun bt214 => (if (wrap64 (x0 + (wrap64 (bt214.1 - x3)))) > 40000000000000 then (some false) else (lombardref08_pays.l0 k (wrap64 (x0 + (wrap64 (bt214.1 - x3)))) x1 x2 x3 (wrap64 (x9 + 1))))) else (some (decide (x0 ≤ 0)))
end
def lombardref08_pays.f (k : Nat) (a0 : Int) (a1 : Int) (a2 : Int) (a3 : Int) : Option (Bool) := lombardref08_pays.l0 k a0 a1 a2 a3 0
end Go.Proofs.Ytchpeobenlnemaa.S
end

section
namespace Go.Proofs.Ytchpeobenlnemaa.S
open Go.RowKit Go.Proofs.YtchpeobenlnemaaW.PrintWords Go.Proofs.YtchpeobenlnemaaW.PrintLast Go.Proofs.YtchpeobenlnemaaW.PrintMore
attribute [local go_sem] max2_int min2_int max_two min_two max_three min_three max_four min_four   -- for this text's walks alone
attribute [local go_sem] Go.Proofs.Ytchpeobenlnemaa.XWalk.cell2
set_option linter.unusedVariables false
set_option linter.unusedSimpArgs false

/-! ### lombardref08_Level: function 18 -/
mutual
def lombardref08_Level.j0 : Nat → Int → Int → Int → Bool → Option (Int × Int)
  | 0, _, _, _, _ => none
  | k + 1, x0, x1, x2, x31 => if x31 = true then (some (0, 2)) else ((lombardref08_pays.f k x0 x1 x2 0).bind fun t216 => (if t216 = true then (some (0, 0)) else (lombardref08_Level.l0 k x0 x1 x2 0 70368744177664)))
def lombardref08_Level.l0 : Nat → Int → Int → Int → Int → Int → Option (Int × Int)
  | 0, _, _, _, _, _ => none
  | k + 1, x0, x1, x2, x8, x9 => if x9 > 0 then ((lombardref08_pays.f k x0 x1 x2 (wrap64 (x8 + x9))).bind fun t217 => (if t217 = true then (lombardref08_Level.l0 k x0 x1 x2 x8 (wrap64 (Int.tdiv x9 2))) else (lombardref08_Level.l0 k x0 x1 x2 (wrap64 (x8 + x9)) (wrap64 (Int.tdiv x9 2))))) else (some (wrap64 (x8 + 1), 0))
end
def lombardref08_Level.f (k : Nat) (a0 : Int) (a1 : Int) (a2 : Int) : Option (Int × Int) := if a0 < 0 then (lombardref08_Level.j0 k a0 a1 a2 true) else (if a0 > 10000000000000 then (lombardref08_Level.j0 k a0 a1 a2 true) else (if a1 < 0 then (lombardref08_Level.j0 k a0 a1 a2 true) else (if a1 > 1000000000000 then (lombardref08_Level.j0 k a0 a1 a2 true) else (if a2 < 1 then (lombardref08_Level.j0 k a0 a1 a2 true) else (lombardref08_Level.j0 k a0 a1 a2 (decide (a2 > 600)))))))
end Go.Proofs.Ytchpeobenlnemaa.S
end

section
namespace Go.Proofs.Ytchpeobenlnemaa.XPay
set_option linter.unusedVariables false
set_option linter.unusedSimpArgs false
open Go.RowKit Go.Proofs.Ytchpeobenlnemaa.S Go.Proofs.Ytchpeobenlnemaa.XNum Go.Proofs.Ytchpeobenlnemaa.XWide Go.Proofs.Ytchpeobenlnemaa.Rnd Go.Proofs.Ytchpeobenlnemaa.XMdiv Go.Proofs.Ytchpeobenlnemaa.XRate Go.Proofs.Ytchpeobenlnemaa.XRefRate Go.Proofs.YtchpeobenlnemaaW.PrintWords Go.Proofs.YtchpeobenlnemaaW.PrintLast Go.Proofs.YtchpeobenlnemaaW.PrintMore

/-- a period's interest -/
def nr (r x : Int) : Int := near (x * r) 1000000000000
def okr (r : Int) : Prop := 0 ≤ r ∧ r ≤ 1000000000000
instance (r : Int) : Decidable (okr r) := inferInstanceAs (Decidable (_ ∧ _))
theorem nr_rate {r r' x x' : Int} (h0 : 0 ≤ r') (h : r' ≤ r) (hx : 0 ≤ x') (hxx : x' ≤ x) : nr r' x' ≤ nr r x :=
  near_mono (by omega) (Int.mul_le_mul hxx h h0 (by omega))
theorem nr_mono {r x y : Int} (hr : okr r) (h : x ≤ y) : nr r x ≤ nr r y := near_mono (by omega) (Int.mul_le_mul_of_nonneg_right h hr.1)
theorem nr_zero (r : Int) : nr r 0 = 0 := by
  unfold nr
  rw [Int.zero_mul]
  have := near_exact (b := 1000000000000) (N := 0) (by omega)
  rwa [Int.mul_zero] at this
theorem nr_nn {r x : Int} (hr : okr r) (hx : 0 ≤ x) : 0 ≤ nr r x := by
  have := nr_mono hr hx
  rwa [nr_zero] at this
theorem nr_le {r x : Int} (hr : okr r) (hx : 0 ≤ x) : nr r x ≤ x := by
  have h : nr r x ≤ near (1000000000000 * x) 1000000000000 := by
    refine near_mono (by omega) ?_
    rw [Int.mul_comm 1000000000000 x]
    exact Int.mul_le_mul_of_nonneg_left hr.2 hx
  rwa [near_exact (by omega)] at h
theorem int_eq {r x : Int} (hr : okr r) (h0 : 0 ≤ x) (h1 : x ≤ 1000000000000000000) : interest x r = (nr r x, 0) := by
  have hn := nr_nn hr h0
  have hl := nr_le hr h0
  unfold okr at hr
  unfold interest
  rw [if_pos (by unfold mayR; omega)]
  exact mdiv_in (by omega) ⟨by unfold nr at hn; omega, by unfold nr at hl; omega⟩

/-- is x paid off by a in n periods? -/
def pd (r a : Int) : Nat → Int → Bool
  | 0, x => decide (x ≤ 0)
  | n + 1, x => if x ≤ 0 then true else pd r a n (x + nr r x - a)
theorem pd_done {r a x : Int} (h : x ≤ 0) : ∀ n, pd r a n x = true
  | 0 => by unfold pd; exact decide_eq_true h
  | n + 1 => by unfold pd; rw [if_pos h]
/-- at a lower rate, with more paid, in more periods, of less -/
theorem pd_all {r r' : Int} (hr' : okr r') (h : r' ≤ r) {a a' : Int} (ha : a ≤ a') : ∀ (n n' : Nat) (x x' : Int), n ≤ n' → x' ≤ x → pd r a n x = true → pd r' a' n' x' = true
  | 0, n', x, x', _, hx, hp => by
    unfold pd at hp
    exact pd_done (by have := of_decide_eq_true hp; omega) n'
  | n + 1, n', x, x', hn, hx, hp => by
    by_cases c : x' ≤ 0
    · exact pd_done c n'
    · obtain ⟨m, rfl⟩ : ∃ m, n' = m + 1 := ⟨n' - 1, by omega⟩
      unfold pd at hp ⊢
      rw [if_neg c]
      rw [if_neg (by omega)] at hp
      refine pd_all hr' h ha n m _ _ (by omega) ?_ hp
      have := nr_rate hr'.1 h (x := x) (x' := x') (by omega) hx
      omega
theorem pd_mono {r : Int} (hr : okr r) {a a' x : Int} (ha : a ≤ a') {n : Nat} (h : pd r a n x = true) : pd r a' n x = true := pd_all hr (Int.le_refl r) ha n n x x (Nat.le_refl _) (Int.le_refl _) h
/-- what doesn't get less is never paid off -/
theorem pd_stuck {r a x : Int} (hr : okr r) (hx : 0 < x) (h : x ≤ x + nr r x - a) : ∀ (n : Nat) (y : Int), x ≤ y → pd r a n y = false
  | 0, y, hy => by unfold pd; exact decide_eq_false (by omega)
  | n + 1, y, hy => by
    unfold pd
    rw [if_neg (by omega)]
    refine pd_stuck hr hx h n _ ?_
    have := nr_mono hr hy
    omega

/-- v is the least payment -/
def IsLv (r : Int) (n : Nat) (left v : Int) : Prop := 0 ≤ v ∧ pd r v n left = true ∧ ∀ a, 0 ≤ a → a < v → pd r a n left = false
/-- the search -/
def srch (r : Int) (n : Nat) (left : Int) : Nat → Int → Int → Int
  | 0, lo, _ => lo
  | j + 1, lo, hi => if lo < hi then (if pd r (lo + (hi - lo) / 2) n left = true then srch r n left j lo (lo + (hi - lo) / 2) else srch r n left j (lo + (hi - lo) / 2 + 1) hi) else lo
theorem srch_is {r : Int} (hr : okr r) {n : Nat} {left : Int} : ∀ (j : Nat) (lo hi : Int), 0 ≤ lo → lo ≤ hi → hi - lo < 2 ^ j → pd r hi n left = true → (∀ a, 0 ≤ a → a < lo → pd r a n left = false) → IsLv r n left (srch r n left j lo hi) ∧ srch r n left j lo hi ≤ hi
  | 0, lo, hi, h0, h1, h2, h3, h4 => by
    have e : lo = hi := by simp at h2; omega
    subst e
    unfold srch
    exact ⟨⟨h0, h3, h4⟩, Int.le_refl _⟩
  | j + 1, lo, hi, h0, h1, h2, h3, h4 => by
    unfold srch
    by_cases c : lo < hi
    · rw [if_pos c]
      obtain ⟨p, hp⟩ : ∃ p : Int, (2 : Int) ^ j = p := ⟨_, rfl⟩
      have h2' : hi - lo < 2 * p := by rw [Int.pow_succ, hp] at h2; omega
      by_cases d : pd r (lo + (hi - lo) / 2) n left = true
      · rw [if_pos d]
        have := srch_is hr (n := n) (left := left) j lo (lo + (hi - lo) / 2) h0 (by omega) (by rw [hp]; omega) d h4
        exact ⟨this.1, by omega⟩
      · rw [if_neg d]
        refine srch_is hr (n := n) (left := left) j (lo + (hi - lo) / 2 + 1) hi (by omega) (by omega) (by rw [hp]; omega) h3 fun a ha hl => ?_
        cases e : pd r a n left with
        | false => rfl
        | true => exact absurd (pd_mono hr (by omega) e) d
    · rw [if_neg c]
      have e : lo = hi := by omega
      subst e
      exact ⟨⟨h0, h3, h4⟩, Int.le_refl _⟩
/-- the least payment -/
def lv (r : Int) (n : Nat) (left : Int) : Int := srch r n left 64 0 (left + nr r left)
theorem pd_first {r left : Int} {n : Nat} (hn : 1 ≤ n) : pd r (left + nr r left) n left = true := by
  obtain ⟨m, rfl⟩ : ∃ m, n = m + 1 := ⟨n - 1, by omega⟩
  unfold pd
  split
  · rfl
  · exact pd_done (by omega) m
theorem lv_both {r left : Int} {n : Nat} (hr : okr r) (hn : 1 ≤ n) (h0 : 0 ≤ left) (h1 : left ≤ 10000000000000) : IsLv r n left (lv r n left) ∧ lv r n left ≤ left + nr r left := by
  have a0 := nr_nn hr h0
  have a1 := nr_le hr h0
  exact srch_is hr 64 0 (left + nr r left) (Int.le_refl _) (by omega) (Int.lt_of_lt_of_le (b := 20000000000001) (by omega) (by decide)) (pd_first hn) (fun a h h' => by omega)
theorem lv_is {r left : Int} {n : Nat} (hr : okr r) (hn : 1 ≤ n) (h0 : 0 ≤ left) (h1 : left ≤ 10000000000000) : IsLv r n left (lv r n left) := (lv_both hr hn h0 h1).1
theorem lv_le {r left : Int} {n : Nat} (hr : okr r) (hn : 1 ≤ n) (h0 : 0 ≤ left) (h1 : left ≤ 10000000000000) : lv r n left ≤ left + nr r left := (lv_both hr hn h0 h1).2
theorem lv_nn {r left : Int} {n : Nat} (hr : okr r) (hn : 1 ≤ n) (h0 : 0 ≤ left) (h1 : left ≤ 10000000000000) : 0 ≤ lv r n left := (lv_both hr hn h0 h1).1.1
/-- of more, at a greater rate, in fewer periods it is no less -/
theorem lv_mono {r r' left left' : Int} {n n' : Nat} (hr : okr r) (hr' : okr r') (h : r' ≤ r) (hn : 1 ≤ n) (hnn : n ≤ n') (h0 : 0 ≤ left') (hl : left' ≤ left) (h1 : left ≤ 10000000000000) : lv r' n' left' ≤ lv r n left := by
  obtain ⟨a0, a1, _⟩ := lv_is hr hn (by omega : 0 ≤ left) h1
  obtain ⟨b0, _, b2⟩ := lv_is hr' (by omega : 1 ≤ n') h0 (by omega)
  by_cases c : lv r n left < lv r' n' left'
  · have h2 := b2 _ a0 c
    rw [pd_all hr' h (Int.le_refl _) n n' left left' hnn hl a1] at h2
    exact absurd h2 (by simp)
  · omega
def level (left r n : Int) : Int × Int := if 0 ≤ left ∧ left ≤ 10000000000000 ∧ okr r ∧ 1 ≤ n ∧ n ≤ 600 then (lv r n.toNat left, 0) else (0, 2)

theorem one_f {x r : Int} (hr : okr r) (h0 : 0 ≤ x) (h1 : x ≤ 1000000000000000000) {k : Nat} (hk : 30 ≤ k) : sched_Level_1.f k x r = some (nr r x) := by
  unfold sched_Level_1.f
  rw [interest_f ⟨by omega, by omega⟩ hk, int_eq hr h0 h1]
  rfl
/-- the program's test -/
theorem test_l0 {r a n : Int} (hr : okr r) (a0 : 0 ≤ a) (a1 : a ≤ 40000000000000) (hn : n ≤ 600) : ∀ (d : Nat) (x i : Int) (k : Nat), i + d = n → 0 ≤ i → -40000000000000 ≤ x → x ≤ 10000000000000 → d + 40 ≤ k → sched_Level_2.l0 k a x n i r = some (pd r a d x)
  | 0, x, i, k + 1, hi, _, _, _, _ => by
    rw [sched_Level_2.l0, if_neg (by omega)]
    rfl
  | d + 1, x, i, k + 1, hi, h0, hx0, hx1, hk => by
    rw [sched_Level_2.l0, if_pos (by omega)]
    by_cases c : x ≤ 0
    · rw [if_pos c, pd_done c, decide_eq_true c]
    · rw [if_neg c, one_f hr (by omega) (by omega) (by omega), Option.bind_some]
      have b0 := nr_nn hr (x := x) (by omega)
      have b1 := nr_le hr (x := x) (by omega)
      rw [w64 (n := x + nr r x) (by omega) (by omega), w64 (n := x + nr r x - a) (by omega) (by omega)]
      by_cases e : x + nr r x - a ≥ x
      · rw [if_pos e, pd_stuck hr (by omega) (by omega) _ _ (Int.le_refl _)]
      · rw [if_neg e, w64 (n := i + 1) (by omega) (by omega), test_l0 hr a0 a1 hn d _ _ k (by omega) (by omega) (by omega) (by omega) (by omega)]
        conv => rhs; unfold pd
        rw [if_neg c]
theorem test_f {r a left n : Int} (hr : okr r) (a0 : 0 ≤ a) (a1 : a ≤ 40000000000000) (h0 : 0 ≤ left) (h1 : left ≤ 10000000000000) (hn0 : 0 ≤ n) (hn : n ≤ 600) {k : Nat} (hk : 640 ≤ k) : sched_Level_2.f k a left n r = some (pd r a n.toNat left) := by
  unfold sched_Level_2.f
  exact test_l0 hr a0 a1 hn n.toNat left 0 k (by omega) (by omega) (by omega) h1 (by omega)
theorem srch_l0 {r left n : Int} (hr : okr r) (h0 : 0 ≤ left) (h1 : left ≤ 10000000000000) (hn0 : 0 ≤ n) (hn : n ≤ 600) : ∀ (j : Nat) (lo hi : Int) (k : Nat), 0 ≤ lo → hi ≤ 40000000000000 → hi - lo < 2 ^ j → j + 700 ≤ k → sched_least_int64__sched_Level_2.l0 k lo hi left n r = some (srch r n.toNat left j lo hi)
  | 0, lo, hi, k + 1, _, _, h2, _ => by
    rw [sched_least_int64__sched_Level_2.l0, if_neg (by simp at h2; omega)]
    rfl
  | j + 1, lo, hi, k + 1, hl, hh, h2, hk => by
    obtain ⟨p, hp⟩ : ∃ p : Int, (2 : Int) ^ j = p := ⟨_, rfl⟩
    have h2' : hi - lo < 2 * p := by rw [Int.pow_succ, hp] at h2; omega
    rw [sched_least_int64__sched_Level_2.l0]
    conv => rhs; unfold srch
    by_cases c : lo < hi
    · rw [if_pos c, if_pos c, w64 (n := hi - lo) (by omega) (by omega), td_nn (by omega), w64 (n := (hi - lo) / 2) (by omega) (by omega), w64 (n := lo + (hi - lo) / 2) (by omega) (by omega), test_f hr (by omega) (by omega) h0 h1 hn0 hn (by omega), Option.bind_some]
      by_cases d : pd r (lo + (hi - lo) / 2) n.toNat left = true
      · rw [if_pos d, if_pos d, srch_l0 hr h0 h1 hn0 hn j _ _ k (by omega) (by omega) (by rw [hp]; omega) (by omega)]
      · rw [if_neg d, if_neg d, w64 (n := lo + (hi - lo) / 2 + 1) (by omega) (by omega), srch_l0 hr h0 h1 hn0 hn j _ _ k (by omega) (by omega) (by rw [hp]; omega) (by omega)]
    · rw [if_neg c, if_neg c]
theorem within64 (n lo hi : Int) : sched_within_int64.f n lo hi = some (decide (lo ≤ n ∧ n ≤ hi)) := by
  unfold sched_within_int64.f
  split
  · rename_i h
    congr 1
    rw [decide_eq_decide]
    omega
  · rename_i h
    rw [decide_eq_false (by omega)]
theorem withinI (n lo hi : Int) : sched_within_int.f n lo hi = some (decide (lo ≤ n ∧ n ≤ hi)) := by
  unfold sched_within_int.f
  split
  · rename_i h
    congr 1
    rw [decide_eq_decide]
    omega
  · rename_i h
    rw [decide_eq_false (by omega)]
theorem level_f {left r n : Int} {k : Nat} (hk : 800 ≤ k) : sched_Level.f k left r n = some (level left r n) := by
  obtain ⟨k, rfl⟩ : ∃ m, k = m + 1 := ⟨k - 1, by omega⟩
  have bad : ∀ (h : ¬(0 ≤ left ∧ left ≤ 10000000000000 ∧ okr r ∧ 1 ≤ n ∧ n ≤ 600)), sched_Level.j0 (k + 1) true left r n = some (level left r n) := by
    intro h
    rw [sched_Level.j0, if_pos rfl]
    unfold level
    rw [if_neg h]
  unfold sched_Level.f sched_may.f
  rw [within64, Option.bind_some]
  by_cases c1 : 0 ≤ left ∧ left ≤ 10000000000000
  · rw [if_pos (decide_eq_true c1), within64, Option.bind_some, Option.bind_some]
    by_cases c2 : 0 ≤ r ∧ r ≤ 1000000000000
    · rw [if_pos (decide_eq_true c2), withinI, Option.bind_some]
      by_cases c3 : 1 ≤ n ∧ n ≤ 600
      · rw [decide_eq_true c3]
        have hr : okr r := c2
        have b0 := nr_nn hr c1.1
        have b1 := nr_le hr c1.1
        rw [sched_Level.j0, if_neg (by simp), one_f hr c1.1 (by omega) (by omega), Option.bind_some, w64 (n := left + nr r left) (by omega) (by omega), sched_least_int64__sched_Level_2.f, srch_l0 hr c1.1 c1.2 (by omega) c3.2 64 _ _ k (by omega) (by omega) (Int.lt_of_lt_of_le (b := 20000000000001) (by omega) (by decide)) (by omega), Option.bind_some]
        unfold level
        rw [if_pos ⟨c1.1, c1.2, hr, c3.1, c3.2⟩]
        rfl
      · rw [decide_eq_false c3]
        exact bad (fun h => c3 h.2.2.2)
    · rw [if_neg (by rw [decide_eq_true_iff]; exact c2)]
      exact bad (fun h => c2 h.2.2.1)
  · rw [if_neg (by rw [decide_eq_true_iff]; exact c1)]
    exact bad (fun h => c1 ⟨h.1, h.2.1⟩)

end Go.Proofs.Ytchpeobenlnemaa.XPay
end

section
namespace Go.Proofs.Ytchpeobenlnemaa.S
open Go.RowKit Go.Proofs.YtchpeobenlnemaaW.PrintWords Go.Proofs.YtchpeobenlnemaaW.PrintLast Go.Proofs.YtchpeobenlnemaaW.PrintMore
attribute [local go_sem] max2_int min2_int max_two min_two max_three min_three max_four min_four   -- for this text's walks alone
attribute [local go_sem] Go.Proofs.Ytchpeobenlnemaa.XWalk.cell2
set_option linter.unusedVariables false
set_option linter.unusedSimpArgs false

/-! ### lombardlaw08_SchedLeast_1: function 20 -/
def lombardlaw08_SchedLeast_1.l0 : Nat → Int → Int → Int → Int → Int → Option (Bool)
  | 0, _, _, _, _, _ => none
  | k + 1, x0, x6, x10, x11, x334000 => if x11 < x10 then ((rate_Interest.f k x6 x334000).bind fun bt334 => (if (wrap64 (x6 + (wrap64 (bt334.1 - x0)))) ≤ 0 then (some true) else (if (wrap64 (x6 + (wrap64 (bt334.1 - x0)))) > 1125899906842624 then (some false) else (lombardlaw08_SchedLeast_1.l0 k x0 (wrap64 (x6 + (wrap64 (bt334.1 - x0)))) x10 (wrap64 (x11 + 1)) x334000)))) else (some false)
def lombardlaw08_SchedLeast_1.f (k : Nat) (a0 : Int) (a1_0 : Int) (a2_0 : Int) (a3_0 : Int) : Option (Bool) := lombardlaw08_SchedLeast_1.l0 k a0 a1_0 a2_0 0 a3_0
set_option maxHeartbeats 8000000 in
set_option maxRecDepth 100000 in
theorem lombardlaw08_SchedLeast_1.calls (k : Nat) (a0 : Int) (gc1 : Nat) (a1_0 : Int) (gc2 : Nat) (a2_0 : Int) (gc3 : Nat) (a3_0 : Int) (r : Bool) (w : World) (hgc1 : w.heap[gc1]? = some (.cells #[.int .i64 a1_0] 2 (0, 0))) (hgc2 : w.heap[gc2]? = some (.cells #[.int .i64 a2_0] 3 (0, 0))) (hgc3 : w.heap[gc3]? = some (.cells #[.int .i64 a3_0] 2 (0, 0))) (h : lombardlaw08_SchedLeast_1.f k a0 a1_0 a2_0 a3_0 = some r) :
    Calls Try.prog 20 #[.int .i64 a0, .pointer (some ⟨gc1, 0, none⟩), .pointer (some ⟨gc2, 0, none⟩), .pointer (some ⟨gc3, 0, none⟩)] w fun e w' => e = .returned (.bool r) ∧ Below w.heap.size w w' := by
  have BK331 := Aside0.mk hgc1
  clear hgc1
  have BK332 := Aside0.mk hgc2
  clear hgc2
  have BK333 := Aside0.mk hgc3
  clear hgc3
  have HB := Aside0.mk (Below.refl w.heap.size w)
  have H : (lombardlaw08_SchedLeast_1.l0 k a0 a1_0 a2_0 0 a3_0) = some r := h
  clear h
  have H' := Aside0.mk H
  clear H
  have hcz5_0 : w.cell? ⟨gc1, 0, none⟩ = some (.int .i64 a1_0) := (blk_cell BK331.out 0).trans rfl
  have hfz5_0 := blk_frozen BK331.out 0
  have hcz6_0 : w.cell? ⟨gc2, 0, none⟩ = some (.int .i64 a2_0) := (blk_cell BK332.out 0).trans rfl
  have hfz6_0 := blk_frozen BK332.out 0
  go_enter Try.func20, Try.ntmps20
  go_wp2
  go_loopg [6, 11] k (fun kq v6 v11 w' => ∃ (x6_1 : Int) (x11_1 : Int), v6 = .int .i64 x6_1 ∧ v11 = .int .i64 x11_1 ∧ Aside0 (lombardlaw08_SchedLeast_1.l0 kq a0 x6_1 a2_0 x11_1 a3_0 = some r) ∧ Aside0 (kq ≤ k) ∧ Aside0 (w'.heap[gc1]? = some (.cells #[.int .i64 a1_0] 2 (0, 0))) ∧ Aside0 (w'.heap[gc2]? = some (.cells #[.int .i64 a2_0] 3 (0, 0))) ∧ Aside0 (w'.heap[gc3]? = some (.cells #[.int .i64 a3_0] 2 (0, 0))) ∧ Aside0 (Below w.heap.size w w'))
  case atStart => exact ⟨(a1_0), (0), (by first | rfl | (simp; done) | (simp [*]; done)), (by first | rfl | (simp; done) | (simp [*]; done)), H', ⟨Nat.le_refl _⟩, ⟨by (with_reducible repeat (first | refine blk_drewN ?_ _ | refine blk_drew ?_ | refine blk_alloc ?_ _)); exact BK331.out⟩, ⟨by (with_reducible repeat (first | refine blk_drewN ?_ _ | refine blk_drew ?_ | refine blk_alloc ?_ _)); exact BK332.out⟩, ⟨by (with_reducible repeat (first | refine blk_drewN ?_ _ | refine blk_drew ?_ | refine blk_alloc ?_ _)); exact BK333.out⟩, ⟨by repeat (first | (with_reducible first | exact HB.out | apply below_alloc | apply pw_below_drewN | apply below_drew1 | refine below_set ?_ GE331.out | refine below_set ?_ GE332.out | refine below_set ?_ GE333.out) | exact HB.out)⟩⟩
  case round =>
    clear H'
    try clear c1
    try clear c2
    try clear p2
    try clear c3
    try clear hcz5_0
    try clear hcz6_0
    try clear hfz5_0
    try clear hfz6_0
    obtain ⟨x6_1, x11_1, rfl, rfl, HA, HK1, BK331, BK332, BK333, HB⟩ := hrel
    cases gk with
    | zero => exact absurd HA.out (by simp [lombardlaw08_SchedLeast_1.l0])
    | succ k1 =>
      have H := HA.out
      clear HA
      simp only [lombardlaw08_SchedLeast_1.l0] at H
      by_cases c7 : x11_1 < a2_0
      · rw [if_pos c7] at H
        have c7b0 : decide (x11_1 < a2_0) = true := decide_eq_true c7
        clear c7
        replace H := Option.bind_eq_some_iff.mp H
        obtain ⟨⟨t334, t335⟩, A80, H⟩ := H
        replace H : (if (wrap64 (x6_1 + (wrap64 (t334 - a0)))) ≤ 0 then (some true) else (if (wrap64 (x6_1 + (wrap64 (t334 - a0)))) > 1125899906842624 then (some false) else (lombardlaw08_SchedLeast_1.l0 k1 a0 (wrap64 (x6_1 + (wrap64 (t334 - a0)))) a2_0 (wrap64 (x11_1 + 1)) a3_0))) = some r := H
        have A8 := Aside0.mk A80
        clear A80
        by_cases c9 : (wrap64 (x6_1 + (wrap64 (t334 - a0)))) ≤ 0
        · rw [if_pos c9] at H
          have c9b0 : decide ((wrap64 (x6_1 + (wrap64 (t334 - a0)))) ≤ 0) = true := decide_eq_true c9
          clear c9
          obtain rfl := Option.some.inj H
          have hcz10_0 : wr.cell? ⟨gc3, 0, none⟩ = some (.int .i64 a3_0) := (blk_cell BK333.out 0).trans rfl
          have hfz10_0 := blk_frozen BK333.out 0
          go_wp2_with (first | ((with_reducible refine gate_callee (f := 19) rfl ?_); refine goesL_ (some 16) rfl rfl Try.func19 (by kernel_rfl) rfl #[.int .i64 x6_1, .int .i64 a3_0] rfl (by (try simp only [List.map_toArray, List.map_cons, List.map_nil]); first | done | rfl | (simp only [List.length_drop, List.length_take]; rfl)) ?_; (with_reducible refine (rate_Interest.calls k1 x6_1 a3_0 t334 t335 _ A8.out).mono ?_); rintro e w11 ⟨rfl, hb⟩; refine ⟨_, rfl, ?_⟩; have n0_ := Aside0.mk (blk_below (g := gc1) (o := .cells #[.int .i64 a1_0] 2 (0, 0)) (by (with_reducible repeat (first | refine blk_drewN ?_ _ | refine blk_drew ?_ | refine blk_alloc ?_ _)); exact BK331.out) hb); have n1_ := Aside0.mk (blk_below (g := gc2) (o := .cells #[.int .i64 a2_0] 3 (0, 0)) (by (with_reducible repeat (first | refine blk_drewN ?_ _ | refine blk_drew ?_ | refine blk_alloc ?_ _)); exact BK332.out) hb); have n2_ := Aside0.mk (blk_below (g := gc3) (o := .cells #[.int .i64 a3_0] 2 (0, 0)) (by (with_reducible repeat (first | refine blk_drewN ?_ _ | refine blk_drew ?_ | refine blk_alloc ?_ _)); exact BK333.out) hb); have n3_ := Aside0.mk (below_step (by repeat (first | (with_reducible first | exact HB.out | apply below_alloc | apply pw_below_drewN | apply below_drew1 | refine below_set ?_ GE331.out | refine below_set ?_ GE332.out | refine below_set ?_ GE333.out) | exact HB.out)) hb); clear BK331; clear BK332; clear BK333; clear HB; have BK331 := n0_; have BK332 := n1_; have BK333 := n2_; have HB := n3_; clear n0_ n1_ n2_ n3_; (try clear hb); (try clear hb2); (try clear hk); (try clear hi)))
          go_ret
          exact ⟨by first | rfl | (simp [errW_none, errW_some] <;> rfl) | (simp [*, errW_none, errW_some] <;> rfl), by repeat (first | (with_reducible first | exact HB.out | apply below_alloc | apply pw_below_drewN | apply below_drew1 | refine below_set ?_ GE331.out | refine below_set ?_ GE332.out | refine below_set ?_ GE333.out) | exact HB.out)⟩
        · rw [if_neg c9] at H
          have c9b0 : decide ((wrap64 (x6_1 + (wrap64 (t334 - a0)))) ≤ 0) = false := decide_eq_false c9
          clear c9
          by_cases c12 : (wrap64 (x6_1 + (wrap64 (t334 - a0)))) > 1125899906842624
          · rw [if_pos c12] at H
            have c12b0 : decide (1125899906842624 < (wrap64 (x6_1 + (wrap64 (t334 - a0))))) = true := decide_eq_true c12
            clear c12
            obtain rfl := Option.some.inj H
            have hcz13_0 : wr.cell? ⟨gc3, 0, none⟩ = some (.int .i64 a3_0) := (blk_cell BK333.out 0).trans rfl
            have hfz13_0 := blk_frozen BK333.out 0
            go_wp2_with (first | ((with_reducible refine gate_callee (f := 19) rfl ?_); refine goesL_ (some 16) rfl rfl Try.func19 (by kernel_rfl) rfl #[.int .i64 x6_1, .int .i64 a3_0] rfl (by (try simp only [List.map_toArray, List.map_cons, List.map_nil]); first | done | rfl | (simp only [List.length_drop, List.length_take]; rfl)) ?_; (with_reducible refine (rate_Interest.calls k1 x6_1 a3_0 t334 t335 _ A8.out).mono ?_); rintro e w14 ⟨rfl, hb⟩; refine ⟨_, rfl, ?_⟩; have n0_ := Aside0.mk (blk_below (g := gc1) (o := .cells #[.int .i64 a1_0] 2 (0, 0)) (by (with_reducible repeat (first | refine blk_drewN ?_ _ | refine blk_drew ?_ | refine blk_alloc ?_ _)); exact BK331.out) hb); have n1_ := Aside0.mk (blk_below (g := gc2) (o := .cells #[.int .i64 a2_0] 3 (0, 0)) (by (with_reducible repeat (first | refine blk_drewN ?_ _ | refine blk_drew ?_ | refine blk_alloc ?_ _)); exact BK332.out) hb); have n2_ := Aside0.mk (blk_below (g := gc3) (o := .cells #[.int .i64 a3_0] 2 (0, 0)) (by (with_reducible repeat (first | refine blk_drewN ?_ _ | refine blk_drew ?_ | refine blk_alloc ?_ _)); exact BK333.out) hb); have n3_ := Aside0.mk (below_step (by repeat (first | (with_reducible first | exact HB.out | apply below_alloc | apply pw_below_drewN | apply below_drew1 | refine below_set ?_ GE331.out | refine below_set ?_ GE332.out | refine below_set ?_ GE333.out) | exact HB.out)) hb); clear BK331; clear BK332; clear BK333; clear HB; have BK331 := n0_; have BK332 := n1_; have BK333 := n2_; have HB := n3_; clear n0_ n1_ n2_ n3_; (try clear hb); (try clear hb2); (try clear hk); (try clear hi)))
            go_ret
            exact ⟨by first | rfl | (simp [errW_none, errW_some] <;> rfl) | (simp [*, errW_none, errW_some] <;> rfl), by repeat (first | (with_reducible first | exact HB.out | apply below_alloc | apply pw_below_drewN | apply below_drew1 | refine below_set ?_ GE331.out | refine below_set ?_ GE332.out | refine below_set ?_ GE333.out) | exact HB.out)⟩
          · rw [if_neg c12] at H
            have c12b0 : decide (1125899906842624 < (wrap64 (x6_1 + (wrap64 (t334 - a0))))) = false := decide_eq_false c12
            clear c12
            have H' := Aside0.mk H
            clear H
            have hcz15_0 : wr.cell? ⟨gc3, 0, none⟩ = some (.int .i64 a3_0) := (blk_cell BK333.out 0).trans rfl
            have hfz15_0 := blk_frozen BK333.out 0
            go_wp2_with (first | ((with_reducible refine gate_callee (f := 19) rfl ?_); refine goesL_ (some 16) rfl rfl Try.func19 (by kernel_rfl) rfl #[.int .i64 x6_1, .int .i64 a3_0] rfl (by (try simp only [List.map_toArray, List.map_cons, List.map_nil]); first | done | rfl | (simp only [List.length_drop, List.length_take]; rfl)) ?_; (with_reducible refine (rate_Interest.calls k1 x6_1 a3_0 t334 t335 _ A8.out).mono ?_); rintro e w16 ⟨rfl, hb⟩; refine ⟨_, rfl, ?_⟩; have n0_ := Aside0.mk (blk_below (g := gc1) (o := .cells #[.int .i64 a1_0] 2 (0, 0)) (by (with_reducible repeat (first | refine blk_drewN ?_ _ | refine blk_drew ?_ | refine blk_alloc ?_ _)); exact BK331.out) hb); have n1_ := Aside0.mk (blk_below (g := gc2) (o := .cells #[.int .i64 a2_0] 3 (0, 0)) (by (with_reducible repeat (first | refine blk_drewN ?_ _ | refine blk_drew ?_ | refine blk_alloc ?_ _)); exact BK332.out) hb); have n2_ := Aside0.mk (blk_below (g := gc3) (o := .cells #[.int .i64 a3_0] 2 (0, 0)) (by (with_reducible repeat (first | refine blk_drewN ?_ _ | refine blk_drew ?_ | refine blk_alloc ?_ _)); exact BK333.out) hb); have n3_ := Aside0.mk (below_step (by repeat (first | (with_reducible first | exact HB.out | apply below_alloc | apply pw_below_drewN | apply below_drew1 | refine below_set ?_ GE331.out | refine below_set ?_ GE332.out | refine below_set ?_ GE333.out) | exact HB.out)) hb); clear BK331; clear BK332; clear BK333; clear HB; have BK331 := n0_; have BK332 := n1_; have BK333 := n2_; have HB := n3_; clear n0_ n1_ n2_ n3_; (try clear hb); (try clear hb2); (try clear hk); (try clear hi)))
            go_roundg k1
            case measure => have := HK1.out; omega
            case rel => exact ⟨(wrap64 (x6_1 + (wrap64 (t334 - a0)))), (wrap64 (x11_1 + 1)), (by first | rfl | (simp; done) | (simp [*]; done)), (by first | rfl | (simp; done) | (simp [*]; done)), H', ⟨by have := HK1.out; omega⟩, ⟨by (with_reducible repeat (first | refine blk_drewN ?_ _ | refine blk_drew ?_ | refine blk_alloc ?_ _)); exact BK331.out⟩, ⟨by (with_reducible repeat (first | refine blk_drewN ?_ _ | refine blk_drew ?_ | refine blk_alloc ?_ _)); exact BK332.out⟩, ⟨by (with_reducible repeat (first | refine blk_drewN ?_ _ | refine blk_drew ?_ | refine blk_alloc ?_ _)); exact BK333.out⟩, ⟨by repeat (first | (with_reducible first | exact HB.out | apply below_alloc | apply pw_below_drewN | apply below_drew1 | refine below_set ?_ GE331.out | refine below_set ?_ GE332.out | refine below_set ?_ GE333.out) | exact HB.out)⟩⟩
      · rw [if_neg c7] at H
        have c7b0 : decide (x11_1 < a2_0) = false := decide_eq_false c7
        clear c7
        obtain rfl := Option.some.inj H
        go_wp2
        go_ret
        exact ⟨by first | rfl | (simp [errW_none, errW_some] <;> rfl) | (simp [*, errW_none, errW_some] <;> rfl), by repeat (first | (with_reducible first | exact HB.out | apply below_alloc | apply pw_below_drewN | apply below_drew1 | refine below_set ?_ GE331.out | refine below_set ?_ GE332.out | refine below_set ?_ GE333.out) | exact HB.out)⟩

end Go.Proofs.Ytchpeobenlnemaa.S
end

section
namespace Go.Proofs.Ytchpeobenlnemaa.XOff
set_option linter.unusedVariables false
set_option linter.unusedSimpArgs false
open Go.RowKit Go.Proofs.Ytchpeobenlnemaa.S Go.Proofs.Ytchpeobenlnemaa.XNum Go.Proofs.Ytchpeobenlnemaa.XRate Go.Proofs.Ytchpeobenlnemaa.XPay Go.Proofs.YtchpeobenlnemaaW.PrintWords Go.Proofs.YtchpeobenlnemaaW.PrintLast

theorem off_l0 {r a n : Int} (hr : okr r) (a0 : 0 ≤ a) (a1 : a ≤ 40000000000000) (hn : n ≤ 600) : ∀ (d : Nat) (x i : Int) (k : Nat), i + d = n → 0 ≤ i → 0 < x → x ≤ 1125899906842624 → d + 40 ≤ k → lombardlaw08_SchedLeast_1.l0 k a x n i r = some (pd r a d x)
  | 0, x, i, k + 1, hi, _, hx, _, _ => by
    rw [lombardlaw08_SchedLeast_1.l0, if_neg (by omega)]
    unfold pd
    rw [decide_eq_false (by omega)]
  | d + 1, x, i, k + 1, hi, h0, hx0, hx1, hk => by
    have b0 := nr_nn hr (x := x) (by omega)
    have b1 := nr_le hr (x := x) (by omega)
    rw [lombardlaw08_SchedLeast_1.l0, if_pos (by omega), interest_f ⟨by omega, by omega⟩ (by omega), int_eq hr (by omega) (by omega), Option.bind_some]
    dsimp only
    rw [w64 (n := nr r x - a) (by omega) (by omega), w64 (n := x + (nr r x - a)) (by omega) (by omega)]
    conv => rhs; unfold pd
    rw [if_neg (show ¬x ≤ 0 by omega), show x + nr r x - a = x + (nr r x - a) from by omega]
    by_cases c : x + (nr r x - a) ≤ 0
    · rw [if_pos c, pd_done c]
    · rw [if_neg c]
      by_cases e : x + (nr r x - a) > 1125899906842624
      · rw [if_pos e, pd_stuck hr hx0 (by omega) _ _ (show x ≤ x + (nr r x - a) by omega)]
      · rw [if_neg e, w64 (n := i + 1) (by omega) (by omega), off_l0 hr a0 a1 hn d _ _ k (by omega) (by omega) (by omega) (by omega) (by omega)]
theorem off_f {r a left n : Int} (hr : okr r) (a0 : 0 ≤ a) (a1 : a ≤ 40000000000000) (h0 : 0 < left) (h1 : left ≤ 10000000000000) (hn0 : 0 ≤ n) (hn : n ≤ 600) {k : Nat} (hk : 640 ≤ k) : lombardlaw08_SchedLeast_1.f k a left n r = some (pd r a n.toNat left) := by
  unfold lombardlaw08_SchedLeast_1.f
  exact off_l0 hr a0 a1 hn n.toNat left 0 k (by omega) (by omega) h0 (by omega) (by omega)
/-- all that the law asks -/
theorem all {left r n : Int} (h0 : 0 < left) (h1 : left ≤ 9999999999999) (r0 : 0 ≤ r) (r1 : r ≤ 999999999999) (n0 : 1 ≤ n) (n1 : n ≤ 40) {k : Nat} (hk : 2000 ≤ k) : ∃ v a b c : Int,
    sched_Level.f k left r n = some (v, 0) ∧ sched_Level.f k (left + 1) r n = some (a, 0) ∧ sched_Level.f k left (r + 1) n = some (b, 0) ∧ sched_Level.f k left r (n + 1) = some (c, 0) ∧
    ¬a < v ∧ ¬b < v ∧ ¬v < c ∧ (0 ≤ v ∧ v ≤ 20000000000000) ∧ lombardlaw08_SchedLeast_1.f k v left n r = some true ∧ (v ≠ 0 → lombardlaw08_SchedLeast_1.f k (v - 1) left n r = some false) := by
  have hr : okr r := ⟨r0, by omega⟩
  have hr1 : okr (r + 1) := ⟨by omega, by omega⟩
  have lev : ∀ (l q m : Int), 0 ≤ l → l ≤ 10000000000000 → okr q → 1 ≤ m → m ≤ 600 → sched_Level.f k l q m = some (lv q m.toNat l, 0) := by
    intro l q m a0 a1 a2 a3 a4
    rw [level_f (by omega)]
    unfold level
    rw [if_pos ⟨a0, a1, a2, a3, a4⟩]
  have hv := lv_is (n := n.toNat) hr (by omega) (by omega : 0 ≤ left) (by omega)
  have hle := lv_le (n := n.toNat) hr (by omega) (by omega : 0 ≤ left) (by omega)
  have hI := nr_le hr (by omega : 0 ≤ left)
  refine ⟨_, _, _, _, lev left r n (by omega) (by omega) hr n0 (by omega), lev (left + 1) r n (by omega) (by omega) hr n0 (by omega), lev left (r + 1) n (by omega) (by omega) hr1 n0 (by omega), lev left r (n + 1) (by omega) (by omega) hr (by omega) (by omega), ?_, ?_, ?_, ⟨hv.1, by omega⟩, ?_, ?_⟩
  · have := lv_mono (r := r) (r' := r) (left := left + 1) (left' := left) (n := n.toNat) (n' := n.toNat) hr hr (by omega) (by omega) (by omega) (by omega) (by omega) (by omega)
    omega
  · have := lv_mono (r := r + 1) (r' := r) (left := left) (left' := left) (n := n.toNat) (n' := n.toNat) hr1 hr (by omega) (by omega) (by omega) (by omega) (by omega) (by omega)
    omega
  · have := lv_mono (r := r) (r' := r) (left := left) (left' := left) (n := n.toNat) (n' := (n + 1).toNat) hr hr (by omega) (by omega) (by omega) (by omega) (by omega) (by omega)
    omega
  · rw [off_f hr hv.1 (by omega) h0 (by omega) (by omega) (by omega) (by omega), hv.2.1]
  · intro hz
    have h := hv.1
    rw [off_f hr (by omega) (by omega) h0 (by omega) (by omega) (by omega) (by omega), hv.2.2 _ (by omega) (by omega)]
end Go.Proofs.Ytchpeobenlnemaa.XOff
end

section
namespace Go.Proofs.Ytchpeobenlnemaa.S
open Go.RowKit Go.Proofs.YtchpeobenlnemaaW.PrintWords Go.Proofs.YtchpeobenlnemaaW.PrintLast Go.Proofs.YtchpeobenlnemaaW.PrintMore
attribute [local go_sem] max2_int min2_int max_two min_two max_three min_three max_four min_four   -- for this text's walks alone
attribute [local go_sem] Go.Proofs.Ytchpeobenlnemaa.XWalk.cell2
set_option linter.unusedVariables false
set_option linter.unusedSimpArgs false

/-! ### lombardref01_May: function 46 -/
def lombardref01_May.f (a0 : Int) : Option (Bool) := if a0 ≥ (-10000000000000) then (some (decide (a0 ≤ 10000000000000))) else (some false)
end Go.Proofs.Ytchpeobenlnemaa.S
end

section
namespace Go.Proofs.Ytchpeobenlnemaa.XMoney
set_option linter.unusedVariables false
set_option linter.unusedSimpArgs false
open Go.RowKit Go.Proofs.Ytchpeobenlnemaa.S Go.Proofs.Ytchpeobenlnemaa.XNum Go.Proofs.Ytchpeobenlnemaa.XBits Go.Proofs.Ytchpeobenlnemaa.XWide Go.Proofs.YtchpeobenlnemaaW.PrintWords

/-- A number, or that it is too great. -/
def told (n : Int) : Int × Int := if -9223372036854775808 ≤ n ∧ n ≤ 9223372036854775807 then (n, 0) else (0, 3)
theorem may (n : Int) : money_May.f n = some (decide (-10000000000000 ≤ n ∧ n ≤ 10000000000000)) := by
  unfold money_May.f
  split
  · congr 1
    rw [decide_eq_decide]
    omega
  · rw [decide_eq_false (by omega)]
theorem size {a : Int} (ha : I64 a) : money_size_int64.f a = some (if a < 0 then -a else a) := by
  obtain ⟨a0, a1⟩ := ha
  unfold money_size_int64.f
  split
  · rw [wu, wu]
    congr 1 <;> omega
  · rw [wu]
    congr 1 <;> omega
end Go.Proofs.Ytchpeobenlnemaa.XMoney
end

section
namespace Go.Proofs.Ytchpeobenlnemaa.XSum
set_option linter.unusedVariables false
set_option linter.unusedSimpArgs false
open Go.RowKit Go.Proofs.Ytchpeobenlnemaa.S Go.Proofs.Ytchpeobenlnemaa.XNum Go.Proofs.Ytchpeobenlnemaa.XBits Go.Proofs.Ytchpeobenlnemaa.XWide Go.Proofs.Ytchpeobenlnemaa.XMoney Go.Proofs.YtchpeobenlnemaaW.PrintWords

/-- all together -/
def tot : List Int → Int
  | [] => 0
  | x :: l => x + tot l
theorem tot_append (a b : List Int) : tot (a ++ b) = tot a + tot b := by
  induction a with
  | nil => simp [tot]
  | cons x a ih => simp only [List.cons_append, tot, ih]; omega
end Go.Proofs.Ytchpeobenlnemaa.XSum
end

section
namespace Go.Proofs.Ytchpeobenlnemaa.XSplit
set_option linter.unusedVariables false
set_option linter.unusedSimpArgs false
open Go.RowKit Go.Proofs.Ytchpeobenlnemaa.S Go.Proofs.Ytchpeobenlnemaa.XNum Go.Proofs.Ytchpeobenlnemaa.XBits Go.Proofs.Ytchpeobenlnemaa.XWide Go.Proofs.Ytchpeobenlnemaa.XMoney Go.Proofs.Ytchpeobenlnemaa.XSum Go.Proofs.YtchpeobenlnemaaW.PrintWords

/-- what is left over goes to the first weights that aren't 0, one to each -/
def dist : List Int → List Int → Int → List Int
  | w :: ws, q :: qs, L => if 0 < w ∧ 0 < L then (q + 1) :: dist ws qs (L - 1) else q :: dist ws qs L
  | _, qs, _ => qs
/-- how many weights aren't 0 -/
def pos : List Int → Int
  | [] => 0
  | w :: ws => (if 0 < w then 1 else 0) + pos ws
theorem dist_zero (ws qs : List Int) : dist ws qs 0 = qs := by
  induction ws generalizing qs with
  | nil => unfold dist; rfl
  | cons w ws ih =>
    cases qs with
    | nil => unfold dist; rfl
    | cons q qs => unfold dist; rw [if_neg (by omega), ih]
def may (n : Int) : Prop := -10000000000000 ≤ n ∧ n ≤ 10000000000000
instance (n : Int) : Decidable (may n) := inferInstanceAs (Decidable (_ ∧ _))
def okw (w : Int) : Prop := 0 ≤ w ∧ w ≤ 10000000000000
instance (w : Int) : Decidable (okw w) := inferInstanceAs (Decidable (_ ∧ _))
def size (n : Int) : Int := if n < 0 then -n else n
def one (n : Int) : Int := if n < 0 then -1 else 1
theorem one_or (n : Int) : one n = 1 ∨ one n = -1 := by unfold one; split <;> simp
theorem one_size (n : Int) : one n * size n = n := by unfold one size; split <;> omega
def quos (n : Int) (ws : List Int) (S : Int) : List Int := ws.map fun w => size n * w / S
def good (n : Int) (ws : List Int) : Prop := ws.length ≠ 0 ∧ ws.length ≤ 600 ∧ may n ∧ (∀ w ∈ ws, okw w) ∧ tot ws ≠ 0
instance (n : Int) (ws : List Int) : Decidable (good n ws) := inferInstanceAs (Decidable (_ ∧ _))
/-- the parts -/
def parts (n : Int) (ws : List Int) : List Int := (dist ws (quos n ws (tot ws)) (size n - tot (quos n ws (tot ws)))).map (one n * ·)
def splitS (n : Int) (ws : List Int) : List Int × Int := if good n ws then (parts n ws, 0) else ([], 2)

theorem tot_nn {l : List Int} (h : ∀ w ∈ l, okw w) : 0 ≤ tot l := by
  induction l with
  | nil => simp [tot]
  | cons x l ih =>
    have := h x (by simp)
    have := ih fun w hw => h w (by simp [hw])
    unfold okw at *
    unfold tot
    omega
theorem tot_le {l : List Int} (h : ∀ w ∈ l, okw w) : tot l ≤ 10000000000000 * l.length := by
  induction l with
  | nil => simp [tot]
  | cons x l ih =>
    have := h x (by simp)
    have := ih fun w hw => h w (by simp [hw])
    unfold okw at *
    unfold tot
    rw [List.length_cons]
    omega
theorem mem_le {l : List Int} (h : ∀ w ∈ l, okw w) {w : Int} (hw : w ∈ l) : w ≤ tot l := by
  induction l with
  | nil => cases hw
  | cons x l ih =>
    have a := h x (by simp)
    have b := fun w hw => h w (List.mem_cons_of_mem x hw)
    have c := tot_nn b
    unfold okw at a
    unfold tot
    rcases List.mem_cons.1 hw with rfl | hw
    · omega
    · have := ih b hw
      omega
theorem quo_bd {n w S : Int} (hn : may n) (hw : okw w) (hS : 0 < S) (hwS : w ≤ S) : 0 ≤ size n * w / S ∧ size n * w / S ≤ size n := by
  have a : 0 ≤ size n := by unfold size; split <;> omega
  have b : 0 ≤ size n * w := Int.mul_nonneg a hw.1
  refine ⟨Int.ediv_nonneg b (by omega), ?_⟩
  have c : size n * w ≤ size n * S := Int.mul_le_mul_of_nonneg_left hwS a
  exact Int.ediv_le_of_le_mul hS c
/-- what is left over is no less than 0, and no more than there are weights that aren't 0 -/
theorem over_bd {n S : Int} (hS : 0 < S) {l : List Int} (h : ∀ w ∈ l, okw w) :
    S * tot (quos n l S) ≤ size n * tot l ∧ size n * tot l ≤ S * tot (quos n l S) + S * pos l := by
  induction l with
  | nil => simp [quos, tot, pos]
  | cons x l ih =>
    have a := h x (by simp)
    obtain ⟨i1, i2⟩ := ih fun w hw => h w (List.mem_cons_of_mem x hw)
    unfold quos at *
    simp only [List.map_cons, tot, pos]
    have d := Int.mul_ediv_add_emod (size n * x) S
    have d0 := Int.emod_nonneg (size n * x) (show S ≠ 0 by omega)
    have d1 := Int.emod_lt_of_pos (size n * x) hS
    have e : x = 0 → size n * x = 0 ∧ size n * x / S = 0 := by
      intro hx
      subst hx
      simp
    rw [Int.mul_add, Int.mul_add, Int.mul_add]
    obtain ⟨a0, _⟩ := a
    generalize size n * x / S = q at *
    generalize size n * x % S = r at *
    by_cases c : 0 < x
    · rw [if_pos c, Int.mul_one]
      omega
    · obtain ⟨e1, e2⟩ := e (by omega)
      rw [if_neg c, e1, e2, Int.mul_zero]
      omega
theorem left_bd {n : Int} {ws : List Int} (h : good n ws) : 0 ≤ size n - tot (quos n ws (tot ws)) ∧ size n - tot (quos n ws (tot ws)) ≤ pos ws ∧ 0 ≤ tot (quos n ws (tot ws)) := by
  obtain ⟨_, _, _, hw, h0⟩ := h
  have hS : 0 < tot ws := by have := tot_nn hw; omega
  obtain ⟨a, b⟩ := over_bd (n := n) hS hw
  generalize hT : tot (quos n ws (tot ws)) = T at *
  have nn : 0 ≤ T := by
    rw [← hT]
    have : ∀ l : List Int, (∀ w ∈ l, okw w) → 0 ≤ tot (quos n l (tot ws)) := by
      intro l
      induction l with
      | nil => intro _; simp [quos, tot]
      | cons x l ih =>
        intro hl
        have := ih fun w hw => hl w (List.mem_cons_of_mem x hw)
        have s0 : 0 ≤ size n := by unfold size; split <;> omega
        have : 0 ≤ size n * x / tot ws := Int.ediv_nonneg (Int.mul_nonneg s0 (hl x (by simp)).1) (by omega)
        unfold quos at *
        simp only [List.map_cons, tot]
        omega
    exact this ws hw
  rw [Int.mul_comm (size n)] at a b
  refine ⟨?_, ?_, nn⟩
  · have := Int.le_of_mul_le_mul_left a hS
    omega
  · rw [← Int.mul_add] at b
    have := Int.le_of_mul_le_mul_left b hS
    omega

-- ------------------------------------------------ rows, by what lies ahead and behind
theorem rd_mid (A : List Int) (b : Int) (B : List Int) : rd (A ++ b :: B) (A.length : Int) = b := by
  unfold rd
  simp
theorem set_mid (A : List Int) (b v : Int) (B : List Int) : (A ++ b :: B).set ((A.length : Int)).toNat v = A ++ v :: B := by
  simp

-- ------------------------------------------------ package money
theorem pos_le (l : List Int) : pos l ≤ l.length := by
  induction l with
  | nil => simp [pos]
  | cons x l ih => unfold pos; rw [List.length_cons]; split <;> omega
theorem step_v {s b : Int} (hs : s = 1 ∨ s = -1) (h0 : 0 ≤ b) (h1 : b ≤ 10000000000000) : wrap64 (s * b + s) = s * (b + 1) := by
  rcases hs with rfl | rfl <;> (rw [w64 (by omega) (by omega)]; omega)
theorem step_u {s L : Int} (hs : s = 1 ∨ s = -1) (h0 : 0 ≤ L) (h1 : L ≤ 600) : wrap64 (s * L - s) = s * (L - 1) := by
  rcases hs with rfl | rfl <;> (rw [w64 (by omega) (by omega)]; omega)
theorem next_at {a n : Nat} (h : a + 1 < n) (hn : n ≤ 600) : Int.tmod (wrap64 ((a : Int) + 1)) (n : Int) = ((a + 1 : Nat) : Int) := by
  rw [w64 (by omega) (by omega), tm_nn (by omega), Int.emod_eq_of_lt (by omega) (by omega)]
  omega
theorem l2_stop {s : Int} {ws : List Int} (W A B : List Int) (j : Int) {k : Nat} (hk : 1 ≤ k) : money_Split.l2 k ws s (A ++ B.map (s * ·)) (s * 0) j = some (A ++ (dist W B 0).map (s * ·), 0) := by
  obtain ⟨k, rfl⟩ : ∃ m, k = m + 1 := ⟨k - 1, by omega⟩
  rw [money_Split.l2, if_pos (Int.mul_zero s), dist_zero]
/-- one place: one goes to it, or none -/
theorem l2_step {s : Int} (hs : s = 1 ∨ s = -1) {w b L : Int} {V W A B : List Int} (hl : A.length + W.length + 1 ≤ 600) (e2 : V.length = A.length) (e3 : W.length = B.length) (h0 : 0 < L) (h1 : L ≤ 600) (hb : 0 ≤ b ∧ b ≤ 10000000000000) (hw : 0 ≤ w) (k : Nat) :
    money_Split.l2 (k + 1) (V ++ w :: W) s (A ++ (b :: B).map (s * ·)) (s * L) A.length =
      if 0 < w then money_Split.l2 k (V ++ w :: W) s ((A ++ [s * (b + 1)]) ++ B.map (s * ·)) (s * (L - 1)) (Int.tmod (wrap64 ((A.length : Int) + 1)) ((V ++ w :: W).length : Int))
      else money_Split.l2 k (V ++ w :: W) s ((A ++ [s * b]) ++ B.map (s * ·)) (s * L) (Int.tmod (wrap64 ((A.length : Int) + 1)) ((V ++ w :: W).length : Int)) := by
  have nz : s * L ≠ 0 := by rcases hs with rfl | rfl <;> omega
  have lv : (V ++ w :: W).length = A.length + W.length + 1 := by simp; omega
  have la : (A ++ (b :: B).map (s * ·)).length = A.length + W.length + 1 := by simp; omega
  have rw1 : rd (V ++ w :: W) (A.length : Int) = w := by rw [← e2]; exact rd_mid V w W
  rw [money_Split.l2, if_neg nz, if_pos (by omega), lv, if_pos (by omega), rw1, la]
  by_cases c : 0 < w
  · rw [if_pos c, if_pos c, if_pos (by omega), if_neg (by omega), List.map_cons, rd_mid, set_mid, step_v hs hb.1 hb.2, step_u hs (by omega) h1]
    simp
  · rw [if_neg c, if_neg c, if_neg (by omega)]
    simp
theorem l2_run {s : Int} (hs : s = 1 ∨ s = -1) : ∀ (W V A B : List Int) (L : Int) (j : Int) (k : Nat), (V ++ W).length ≤ 600 → (∀ w ∈ W, okw w) → V.length = A.length → W.length = B.length → 0 ≤ L → L ≤ pos W →
    (∀ b ∈ B, 0 ≤ b ∧ b ≤ 10000000000000) → (0 < L → j = A.length) → W.length + 1 ≤ k → money_Split.l2 k (V ++ W) s (A ++ B.map (s * ·)) (s * L) j = some (A ++ (dist W B L).map (s * ·), 0) := by
  intro W
  induction W with
  | nil =>
    intro V A B L j k hl h e2 e3 h0 h1 hB hj hk
    have : L = 0 := by unfold pos at h1; omega
    subst this
    exact l2_stop [] A B j (by omega)
  | cons w W ih =>
    intro V A B L j k hl h e2 e3 h0 h1 hB hj hk
    by_cases c : L = 0
    · subst c
      exact l2_stop (w :: W) A B j (by omega)
    obtain ⟨k, rfl⟩ : ∃ m, k = m + 1 := ⟨k - 1, by omega⟩
    cases B with
    | nil => simp at e3
    | cons b B =>
      have hw := h w (by simp)
      have e3' : W.length = B.length := by simpa using e3
      have hp := pos_le (w :: W)
      rw [List.length_append, List.length_cons] at hl
      rw [List.length_cons] at hp hk
      rw [hj (by omega), l2_step hs (by omega) e2 e3' (by omega) (by omega) (hB b (by simp)) hw.1]
      have hlW : 0 < pos W → A.length + 1 < (V ++ w :: W).length := by
        intro hx
        have := pos_le W
        rw [List.length_append, List.length_cons]
        omega
      have hl' : ((V ++ [w]) ++ W).length ≤ 600 := by simp; omega
      have hB' : ∀ x ∈ B, 0 ≤ x ∧ x ≤ 10000000000000 := fun x hx => hB x (List.mem_cons_of_mem b hx)
      have h' : ∀ x ∈ W, okw x := fun x hx => h x (List.mem_cons_of_mem w hx)
      have lv : (V ++ w :: W).length ≤ 600 := by rw [List.length_append, List.length_cons]; omega
      rw [show V ++ w :: W = (V ++ [w]) ++ W by simp] at hlW lv ⊢
      rw [pos] at h1
      by_cases c1 : 0 < w
      · rw [if_pos c1] at h1 ⊢
        rw [ih (V ++ [w]) (A ++ [s * (b + 1)]) B (L - 1) _ k hl' h' (by simp [e2]) e3' (by omega) (by omega) hB' (fun hx => by
          rw [next_at (hlW (by omega)) lv]
          simp) (by omega)]
        rw [dist, if_pos ⟨c1, by omega⟩]
        simp
      · rw [if_neg c1] at h1 ⊢
        rw [ih (V ++ [w]) (A ++ [s * b]) B L _ k hl' h' (by simp [e2]) e3' h0 (by omega) hB' (fun hx => by
          rw [next_at (hlW (by omega)) lv]
          simp) (by omega)]
        rw [dist, if_neg (fun h => c1 h.1)]
        simp

theorem l1_run {n : Int} {ws : List Int} (h : good n ws) : ∀ (W V : List Int) (k : Nat), ws = V ++ W → W.length + ws.length + 40 ≤ k →
    money_Split.l1 k n ws (tot ws) (one n) ((quos n V (tot ws)).map (one n * ·)) (n - one n * tot (quos n V (tot ws))) ws ws.length V.length = some (parts n ws, 0) := by
  have hg := h
  obtain ⟨g1, g2, g3, g4, g5⟩ := h
  have hS : 0 < tot ws := by have := tot_nn g4; omega
  have hS1 := tot_le g4
  have hs := one_or n
  have n0 : 0 ≤ size n := by unfold size; split <;> omega
  have n1 : size n ≤ 10000000000000 := by unfold size; unfold may at g3; split <;> omega
  intro W
  induction W with
  | nil =>
    intro V k e hk
    obtain ⟨k, rfl⟩ : ∃ m, k = m + 1 := ⟨k - 1, by omega⟩
    rw [List.append_nil] at e
    subst e
    simp only [money_Split.l1]
    rw [if_neg (by omega)]
    have e1 : n - one n * tot (quos n ws (tot ws)) = one n * (size n - tot (quos n ws (tot ws))) := by rw [Int.mul_sub, one_size]
    rw [e1]
    have := l2_run hs ws [] [] (quos n ws (tot ws)) (size n - tot (quos n ws (tot ws))) 0 k (by simpa using g2) g4 (by simp) (by simp [quos]) (left_bd hg).1 (left_bd hg).2.1 (by
      intro b hb
      unfold quos at hb
      obtain ⟨w, hw, rfl⟩ := List.mem_map.1 hb
      have := quo_bd g3 (g4 w hw) hS (mem_le g4 hw)
      omega) (by simp) (by omega)
    simpa [parts] using this
  | cons w W ih =>
    intro V k e hk
    obtain ⟨k, rfl⟩ : ∃ m, k = m + 1 := ⟨k - 1, by omega⟩
    have lw : ws.length = V.length + W.length + 1 := by rw [e]; simp; omega
    have hw : w ∈ ws := by rw [e]; simp
    have hok := g4 w hw
    have hok' := hok
    obtain ⟨o0, o1⟩ := hok'
    have qb := quo_bd g3 hok hS (mem_le g4 hw)
    simp only [money_Split.l1]
    rw [if_pos (by omega), if_pos (by omega), if_pos (by omega), show rd ws (V.length : Int) = w by rw [e]; exact rd_mid V w W]
    rw [show money_size_int64.f n = some (size n) from XMoney.size (by unfold may at g3; constructor <;> omega)]
    simp only [Option.bind_some]
    rw [wu_id (n := w) o0 (by omega), mul64 n0 (by omega) o0 (by omega)]
    simp only [Option.bind_some]
    have hm : 0 ≤ size n * w := Int.mul_nonneg n0 o0
    have hm1 : size n * w < 18446744073709551616 * tot ws := by
      have a : size n * w ≤ size n * tot ws := Int.mul_le_mul_of_nonneg_left (mem_le g4 hw) n0
      have b : size n * tot ws < 18446744073709551616 * tot ws := Int.mul_lt_mul_of_pos_right (by omega) hS
      omega
    have hq : size n * w / 18446744073709551616 * 18446744073709551616 + size n * w % 18446744073709551616 = size n * w := by omega
    rw [wu_id (n := tot ws) (by omega) (by omega), div64 (by omega) (by omega) (by omega) (by omega) (by omega) (by omega), hq]
    simp only [Option.bind_some]
    rw [if_pos (by simp [quos]; omega), w64 (n := size n * w / tot ws) (by omega) (by omega)]
    have hT : 0 ≤ tot (quos n V (tot ws)) ∧ tot (quos n V (tot ws)) ≤ 10000000000000 * V.length := by
      have : ∀ x ∈ quos n V (tot ws), okw x := by
        intro b hb
        unfold quos at hb
        obtain ⟨v, hv, rfl⟩ := List.mem_map.1 hb
        have hv' : v ∈ ws := by rw [e]; simp [hv]
        have := quo_bd g3 (g4 v hv') hS (mem_le g4 hv')
        unfold okw
        omega
      refine ⟨tot_nn this, ?_⟩
      have := tot_le this
      simpa [quos] using this
    have e2 : wrap64 (one n * (size n * w / tot ws)) = one n * (size n * w / tot ws) := by
      rcases hs with hs | hs <;> rw [hs] <;> exact w64 (by omega) (by omega)
    have e3 : quos n (V ++ [w]) (tot ws) = quos n V (tot ws) ++ [size n * w / tot ws] := by simp [quos]
    have e4 : wrap64 (n - one n * tot (quos n V (tot ws)) - one n * (size n * w / tot ws)) = n - one n * tot (quos n (V ++ [w]) (tot ws)) := by
      rw [e3, tot_append]
      simp only [tot]
      unfold may at g3
      rcases hs with hs | hs <;> rw [hs] <;> (rw [w64 (by omega) (by omega)]; omega)
    rw [e2, e4, w64 (n := (V.length : Int) + 1) (by omega) (by omega)]
    have := ih (V ++ [w]) k (by rw [e]; simp) (by simp at hk; omega)
    rw [e3] at this ⊢
    simpa using this

theorem l0_run {n : Int} {ws : List Int} (hl : ws.length ≤ 600) (hn : ws.length ≠ 0) (hm : may n) : ∀ (W V : List Int) (k : Nat), ws = V ++ W → (∀ v ∈ V, okw v) → W.length + 2 * ws.length + 50 ≤ k →
    money_Split.l0 k n ws (tot V) ws ws.length V.length = some (splitS n ws) := by
  intro W
  induction W with
  | nil =>
    intro V k e hV hk
    obtain ⟨k, rfl⟩ : ∃ m, k = m + 2 := ⟨k - 2, by omega⟩
    rw [List.append_nil] at e
    subst e
    simp only [money_Split.l0]
    rw [if_neg (by omega)]
    by_cases c : tot ws = 0
    · rw [if_pos c]
      unfold splitS
      rw [if_neg (by unfold good; omega)]
    · rw [if_neg c]
      have g : good n ws := ⟨hn, hl, hm, hV, c⟩
      have : ∀ s, s = one n → money_Split.j2 (k + 1) n ws (tot ws) s = some (splitS n ws) := by
        intro s hs
        subst hs
        simp only [money_Split.j2]
        unfold splitS
        rw [if_pos g]
        have := l1_run g ws [] k (by simp) (by omega)
        simpa [quos, tot] using this
      unfold one at this
      by_cases d : n < 0
      · rw [if_pos d]
        exact this _ (by rw [if_pos d])
      · rw [if_neg d]
        exact this _ (by rw [if_neg d])
  | cons w W ih =>
    intro V k e hV hk
    obtain ⟨k, rfl⟩ : ∃ m, k = m + 1 := ⟨k - 1, by omega⟩
    have lw : ws.length = V.length + W.length + 1 := by rw [e]; simp; omega
    have hw : w ∈ ws := by rw [e]; simp
    have no : ¬okw w → splitS n ws = ([], 2) := by
      intro h
      unfold splitS
      rw [if_neg (fun g => h (g.2.2.2.1 w hw))]
    simp only [money_Split.l0]
    rw [if_pos (by omega), if_pos (by omega), if_pos (by omega), show rd ws (V.length : Int) = w by rw [e]; exact rd_mid V w W]
    by_cases c : w < 0
    · rw [if_pos c, no (by unfold okw; omega)]
    · rw [if_neg c, XMoney.may]
      simp only [Option.bind_some]
      by_cases d : w ≤ 10000000000000
      · rw [if_pos (by rw [decide_eq_true_iff]; omega), w64 (n := (V.length : Int) + 1) (by omega) (by omega)]
        have t := tot_le hV
        have t0 := tot_nn hV
        rw [w64 (n := tot V + w) (by omega) (by omega)]
        have := ih (V ++ [w]) k (by rw [e]; simp) (by
          intro v hv
          rcases List.mem_append.1 hv with hv | hv
          · exact hV v hv
          · rw [List.mem_singleton.1 hv]; unfold okw; omega) (by simp at hk; omega)
        rw [tot_append] at this
        simpa [tot] using this
      · rw [if_neg (by rw [decide_eq_true_iff]; omega), no (by unfold okw; omega)]

theorem split {n : Int} {ws : List Int} {k : Nat} (hk : 3 * ws.length + 60 ≤ k) : money_Split.f k n ws = some (splitS n ws) := by
  obtain ⟨k, rfl⟩ : ∃ m, k = m + 1 := ⟨k - 1, by omega⟩
  unfold money_Split.f
  have no : ¬(ws.length ≠ 0 ∧ ws.length ≤ 600 ∧ may n) → splitS n ws = ([], 2) := by
    intro h
    unfold splitS
    rw [if_neg (fun g => h ⟨g.1, g.2.1, g.2.2.1⟩)]
  by_cases c : (ws.length : Int) = 0
  · rw [if_pos c, no (by omega)]
    simp only [money_Split.j0, if_true]
  rw [if_neg c]
  by_cases d : (ws.length : Int) > 600
  · rw [if_pos d, no (by omega)]
    simp only [money_Split.j0, if_true]
  rw [if_neg d, XMoney.may]
  simp only [Option.bind_some]
  by_cases e : may n
  · unfold may at e
    rw [decide_eq_true e]
    simp only [money_Split.j0, Bool.not_true, Bool.false_eq_true, if_false]
    have := l0_run (n := n) (ws := ws) (by omega) (by omega) e ws [] k (by simp) (by simp) (by omega)
    simpa [tot] using this
  · rw [no (fun h => e h.2.2)]
    unfold may at e
    rw [decide_eq_false e]
    simp only [money_Split.j0, Bool.not_false, if_true]
end Go.Proofs.Ytchpeobenlnemaa.XSplit
end

section
namespace Go.Proofs.Ytchpeobenlnemaa.XSched
set_option linter.unusedVariables false
set_option linter.unusedSimpArgs false
open Go.RowKit Go.Proofs.Ytchpeobenlnemaa.S Go.Proofs.Ytchpeobenlnemaa.XNum Go.Proofs.Ytchpeobenlnemaa.XWide Go.Proofs.Ytchpeobenlnemaa.Rnd Go.Proofs.Ytchpeobenlnemaa.XMdiv Go.Proofs.Ytchpeobenlnemaa.XRate Go.Proofs.Ytchpeobenlnemaa.XPay Go.Proofs.Ytchpeobenlnemaa.XSum Go.Proofs.Ytchpeobenlnemaa.XSplit Go.Proofs.YtchpeobenlnemaaW.PrintWords Go.Proofs.YtchpeobenlnemaaW.PrintLast Go.Proofs.YtchpeobenlnemaaW.PrintMore

/-! ### may terms be? -/
def okt (kd pr : Int) (rates : List Int) (per : Int) : Prop := (1 ≤ kd ∧ kd ≤ 4) ∧ (1 ≤ pr ∧ pr ≤ 10000000000000) ∧ (1 ≤ per ∧ per ≤ 600) ∧ (1 ≤ (rates.length : Int) ∧ (rates.length : Int) ≤ per) ∧ ∀ r ∈ rates, okr r
instance (kd pr : Int) (rates : List Int) (per : Int) : Decidable (okt kd pr rates per) := inferInstanceAs (Decidable (_ ∧ _ ∧ _ ∧ _ ∧ _))
theorem rd_mem {l : List Int} {i : Int} (h0 : 0 ≤ i) (h1 : i < l.length) : rd l i ∈ l := by
  unfold rd
  have : i.toNat < l.length := by omega
  rw [List.getD_eq_getElem?_getD, List.getElem?_eq_getElem this, Option.getD_some]
  exact List.getElem_mem this
theorem has_l0 {l : List Int} (hn : l.length ≤ 600) : ∀ (d i k : Nat), i + d = l.length → d + 1 ≤ k → ∃ t, slices_IndexFunc_int64_int64__sched_Check_1.l0 k l l.length i = some t ∧ (0 ≤ t ↔ ¬∀ r ∈ l.drop i, okr r)
  | 0, i, k + 1, hi, _ => by
    refine ⟨-1, by rw [slices_IndexFunc_int64_int64__sched_Check_1.l0, if_neg (by omega)], ?_⟩
    rw [List.drop_eq_nil_of_le (by omega)]
    simp
  | d + 1, i, k + 1, hi, hk => by
    have hl : i < l.length := by omega
    rw [slices_IndexFunc_int64_int64__sched_Check_1.l0, if_pos (by omega), if_pos (by omega), if_pos (by omega), sched_Check_1.f, sched_may.f, within64, Option.bind_some, Option.bind_some, Option.bind_some]
    have e : rd l (i : Int) = l[i] := by
      unfold rd
      simp [hl]
    rw [List.drop_eq_getElem_cons hl, e]
    by_cases c : okr l[i]
    · rw [decide_eq_true (show 0 ≤ l[i] ∧ l[i] ≤ 1000000000000 from c), if_neg (by simp), w64 (by omega) (by omega)]
      obtain ⟨t, h1, h2⟩ := has_l0 hn d (i + 1) k (by omega) (by omega)
      refine ⟨t, by exact_mod_cast h1, ?_⟩
      rw [h2, List.forall_mem_cons]
      exact not_congr ⟨fun h => ⟨c, h⟩, fun h => h.2⟩
    · rw [decide_eq_false (show ¬(0 ≤ l[i] ∧ l[i] ≤ 1000000000000) from c), if_pos (by simp)]
      refine ⟨i, rfl, ?_⟩
      rw [List.forall_mem_cons]
      exact ⟨fun _ h => c h.1, fun _ => by omega⟩
theorem check_f {kd pr : Int} {rates : List Int} {per : Int} {k : Nat} (hk : 700 ≤ k) : sched_Check.f k kd pr rates per = some (if okt kd pr rates per then 0 else 2) := by
  unfold sched_Check.f
  rw [withinI, Option.bind_some]
  by_cases c1 : 1 ≤ kd ∧ kd ≤ 4
  · rw [if_pos (decide_eq_true c1), within64, Option.bind_some]
    by_cases c2 : 1 ≤ pr ∧ pr ≤ 10000000000000
    · rw [if_pos (decide_eq_true c2), withinI, Option.bind_some]
      by_cases c3 : 1 ≤ per ∧ per ≤ 600
      · rw [if_pos (decide_eq_true c3), withinI, Option.bind_some]
        by_cases c4 : 1 ≤ (rates.length : Int) ∧ (rates.length : Int) ≤ per
        · rw [if_pos (decide_eq_true c4)]
          unfold slices_ContainsFunc_int64_int64__sched_Check_1.f slices_IndexFunc_int64_int64__sched_Check_1.f
          obtain ⟨t, h1, h2⟩ := has_l0 (l := rates) (by omega) rates.length 0 k (by omega) (by omega)
          rw [show ((0 : Nat) : Int) = 0 from rfl] at h1
          rw [h1, Option.bind_some, Option.bind_some]
          rw [List.drop_zero] at h2
          by_cases c5 : ∀ r ∈ rates, okr r
          · rw [if_neg (by rw [decide_eq_true_iff]; exact fun h => (h2.1 h) c5), if_pos ⟨c1, c2, c3, c4, c5⟩]
          · rw [if_pos (decide_eq_true (h2.2 c5)), if_neg (fun h => c5 h.2.2.2.2)]
        · rw [if_neg (by rw [decide_eq_true_iff]; exact c4), if_neg (fun h => c4 h.2.2.2.1)]
      · rw [if_neg (by rw [decide_eq_true_iff]; exact c3), if_neg (fun h => c3 h.2.2.1)]
    · rw [if_neg (by rw [decide_eq_true_iff]; exact c2), if_neg (fun h => c2 h.2.1)]
  · rw [if_neg (by rw [decide_eq_true_iff]; exact c1), if_neg (fun h => c1 h.1)]

/-! ### an amount's equal parts -/
def ones (n : Nat) : List Int := List.replicate n 1
def eqs (P : Int) (n : Nat) : List Int := List.replicate (P % n).toNat (P / n + 1) ++ List.replicate (n - (P % n).toNat) (P / n)
theorem tot_rep (n : Nat) (x : Int) : tot (List.replicate n x) = n * x := by
  induction n with
  | zero => simp [tot]
  | succ n ih =>
    rw [List.replicate_succ, tot, ih]
    rw [show ((n + 1 : Nat) : Int) = n + 1 from by omega, Int.add_mul, Int.one_mul, Int.add_comm]
theorem dist_ones (q : Int) : ∀ (n L : Nat), L ≤ n → dist (ones n) (List.replicate n q) L = List.replicate L (q + 1) ++ List.replicate (n - L) q
  | n, 0, _ => by
    rw [show ((0 : Nat) : Int) = 0 from rfl, dist_zero]
    simp
  | n + 1, L + 1, h => by
    unfold ones
    rw [List.replicate_succ, List.replicate_succ, dist, if_pos (by omega), show ((L + 1 : Nat) : Int) - 1 = (L : Int) from by omega]
    have := dist_ones q n L (by omega)
    unfold ones at this
    rw [this, List.replicate_succ, show n + 1 - (L + 1) = n - L from by omega]
    rfl
theorem good_ones {P : Int} {n : Nat} (h0 : 1 ≤ P) (h1 : P ≤ 10000000000000) (n0 : 1 ≤ n) (n1 : n ≤ 600) : good P (ones n) := by
  refine ⟨by unfold ones; simp; omega, by unfold ones; simp; omega, ⟨by omega, by omega⟩, fun w hw => ?_, ?_⟩
  · have : w = 1 := List.eq_of_mem_replicate hw
    subst this
    exact ⟨by omega, by omega⟩
  · unfold ones
    rw [tot_rep]
    omega
theorem split_ones {P : Int} {n : Nat} (h0 : 1 ≤ P) (h1 : P ≤ 10000000000000) (n0 : 1 ≤ n) (n1 : n ≤ 600) : splitS P (ones n) = (eqs P n, 0) := by
  unfold splitS
  rw [if_pos (good_ones h0 h1 n0 n1)]
  have es : size P = P := by unfold size; rw [if_neg (by omega)]
  have eo : one P = 1 := by unfold one; rw [if_neg (by omega)]
  have et : tot (ones n) = n := by unfold ones; rw [tot_rep]; omega
  have eq_ : quos P (ones n) (n : Int) = List.replicate n (P / n) := by
    unfold quos ones
    rw [List.map_replicate, es, Int.mul_one]
  unfold parts
  rw [et, eq_, tot_rep, es, eo]
  have hm := Int.mul_ediv_add_emod P n
  have hlt := Int.emod_lt_of_pos P (show (0 : Int) < n by omega)
  have hnn := Int.emod_nonneg P (show (n : Int) ≠ 0 by omega)
  rw [show P - n * (P / n) = ((P % n).toNat : Int) from by omega, dist_ones _ _ _ (by omega)]
  unfold eqs
  simp
theorem eqs_tot {P : Int} {n : Nat} (n0 : 1 ≤ n) : tot (eqs P n) = P := by
  have hm := Int.mul_ediv_add_emod P n
  have hlt := Int.emod_lt_of_pos P (show (0 : Int) < n by omega)
  have hnn := Int.emod_nonneg P (show (n : Int) ≠ 0 by omega)
  unfold eqs
  rw [tot_append, tot_rep, tot_rep]
  obtain ⟨L, hL⟩ : ∃ L : Nat, (P % n).toNat = L := ⟨_, rfl⟩
  rw [hL]
  have e : ((n - L : Nat) : Int) = (n : Int) - L := by omega
  rw [e, Int.mul_add, Int.sub_mul, Int.mul_one]
  omega
theorem eqs_len {P : Int} {n : Nat} (n0 : 1 ≤ n) : (eqs P n).length = n := by
  have hlt := Int.emod_lt_of_pos P (show (0 : Int) < n by omega)
  unfold eqs
  simp
  omega
theorem eqs_nn {P : Int} {n : Nat} (hP : 0 ≤ P) (n0 : 1 ≤ n) : ∀ x ∈ eqs P n, 0 ≤ x := by
  intro x hx
  have hq : 0 ≤ P / (n : Int) := Int.ediv_nonneg hP (by omega)
  unfold eqs at hx
  rcases List.mem_append.1 hx with h | h
  · have := List.eq_of_mem_replicate h
    omega
  · have := List.eq_of_mem_replicate h
    omega

/-! ### the periods -/
/-- the level payment that holds in a period -/
def nlv (rates : List Int) (per at_ : Nat) (left lvl : Int) : Int := if (at_ : Int) = 0 ∨ sched_Build.rt rates at_ ≠ sched_Build.rt rates ((at_ : Int) - 1) then (level left (sched_Build.rt rates at_) ((per : Int) - at_)).1 else lvl
/-- what is paid, so many periods ahead of the last -/
def pay (kd : Int) (rates parts : List Int) (per d at_ : Nat) (left lvl : Int) : Int :=
  if d = 0 then left + nr (sched_Build.rt rates at_) left else if kd = 1 then mn (nlv rates per at_ left lvl) (left + nr (sched_Build.rt rates at_) left)
  else if kd = 2 then nr (sched_Build.rt rates at_) left + rd parts at_ else if kd = 3 then nr (sched_Build.rt rates at_) left else 0
def cons (x : S43) (q : List S43 × Int) : List S43 × Int := if q.2 = 0 then (x :: q.1, 0) else ([], q.2)
def fin (out : List S43) (q : List S43 × Int) : List S43 × Int := if q.2 = 0 then (out ++ q.1, 0) else ([], q.2)
theorem fin_cons (out : List S43) (x : S43) (q : List S43 × Int) : fin (out ++ [x]) q = fin out (cons x q) := by
  unfold fin cons
  split
  · simp
  · rfl
def bld (kd : Int) (rates parts : List Int) (per : Nat) : Nat → Nat → Int → Int → List S43 × Int
  | 0, _, _, _ => ([], 0)
  | d + 1, at_, left, lvl =>
    if left - (pay kd rates parts per d at_ left lvl - nr (sched_Build.rt rates at_) left) > 10000000000000 ∨ pay kd rates parts per d at_ left lvl > 10000000000000 then ([], 3)
    else cons ⟨nr (sched_Build.rt rates at_) left, pay kd rates parts per d at_ left lvl, pay kd rates parts per d at_ left lvl - nr (sched_Build.rt rates at_) left, left - (pay kd rates parts per d at_ left lvl - nr (sched_Build.rt rates at_) left)⟩
      (bld kd rates parts per d (at_ + 1) (left - (pay kd rates parts per d at_ left lvl - nr (sched_Build.rt rates at_) left)) (if kd = 1 then nlv rates per at_ left lvl else lvl))
structure Inv (kd : Int) (rates parts : List Int) (per d at_ : Nat) (left lvl : Int) : Prop where
  km : 1 ≤ kd ∧ kd ≤ 4
  sum : at_ + d = per
  pm : per ≤ 600
  r1 : 1 ≤ rates.length
  rs : ∀ r ∈ rates, okr r
  l0 : 0 ≤ left
  l1 : left ≤ 10000000000000
  v0 : 0 ≤ lvl
  v1 : lvl ≤ 20000000000000
  pt : kd = 2 → left = tot (parts.drop at_) ∧ parts.length = per ∧ ∀ x ∈ parts, 0 ≤ x
theorem rt_ok {rates : List Int} (r1 : 1 ≤ rates.length) (rs : ∀ r ∈ rates, okr r) {i : Int} (h : 0 ≤ i) : okr (sched_Build.rt rates i) := by
  unfold sched_Build.rt mn
  refine rs _ (rd_mem ?_ ?_) <;> split <;> omega
section
variable {kd : Int} {rates parts : List Int} {per d at_ : Nat} {left lvl : Int}
theorem Inv.rt (h : Inv kd rates parts per d at_ left lvl) : okr (sched_Build.rt rates at_) := rt_ok h.r1 h.rs (by omega)
theorem Inv.n0 (h : Inv kd rates parts per d at_ left lvl) : 0 ≤ nr (sched_Build.rt rates at_) left := nr_nn h.rt h.l0
theorem Inv.n1 (h : Inv kd rates parts per d at_ left lvl) : nr (sched_Build.rt rates at_) left ≤ left := nr_le h.rt h.l0
theorem Inv.lev (h : Inv kd rates parts per (d + 1) at_ left lvl) : level left (sched_Build.rt rates at_) ((per : Int) - at_) = (lv (sched_Build.rt rates at_) (d + 1) left, 0) := by
  have := h.sum
  have := h.pm
  unfold level
  rw [if_pos ⟨h.l0, h.l1, h.rt, by omega, by omega⟩, show ((per : Int) - at_).toNat = d + 1 from by omega]
theorem Inv.nl (h : Inv kd rates parts per (d + 1) at_ left lvl) : 0 ≤ nlv rates per at_ left lvl ∧ nlv rates per at_ left lvl ≤ 20000000000000 := by
  have a0 := h.n0
  have a1 := h.n1
  have a2 := h.l1
  unfold nlv
  split
  · rw [h.lev]
    have b0 := lv_nn h.rt (n := d + 1) (by omega) h.l0 h.l1
    have b1 := lv_le h.rt (n := d + 1) (by omega) h.l0 h.l1
    dsimp only
    omega
  · exact ⟨h.v0, h.v1⟩
theorem tot_drop {l : List Int} {i : Nat} (h : i < l.length) : tot (l.drop i) = rd l i + tot (l.drop (i + 1)) := by
  rw [List.drop_eq_getElem_cons h, tot]
  congr 1
  unfold rd
  simp [h]
theorem tot_nonneg {l : List Int} (h : ∀ x ∈ l, 0 ≤ x) : 0 ≤ tot l := by
  induction l with
  | nil => simp [tot]
  | cons x l ih =>
    have := h x (by simp)
    have := ih fun w hw => h w (by simp [hw])
    unfold tot
    omega
/-- what is paid, and what is left then -/
theorem Inv.paid (h : Inv kd rates parts per (d + 1) at_ left lvl) : 0 ≤ pay kd rates parts per d at_ left lvl ∧ pay kd rates parts per d at_ left lvl ≤ 20000000000000 ∧ 0 ≤ left - (pay kd rates parts per d at_ left lvl - nr (sched_Build.rt rates at_) left) ∧ left - (pay kd rates parts per d at_ left lvl - nr (sched_Build.rt rates at_) left) ≤ 20000000000000 ∧
    (kd = 2 → left - (pay kd rates parts per d at_ left lvl - nr (sched_Build.rt rates at_) left) = tot (parts.drop (at_ + 1)) ∧ 0 ≤ rd parts at_ ∧ rd parts at_ ≤ left) := by
  have a0 := h.n0
  have a1 := h.n1
  have a2 := h.l1
  have hs := h.sum
  obtain ⟨b0, b1⟩ := h.nl
  have k2 : kd = 2 → left = rd parts at_ + tot (parts.drop (at_ + 1)) ∧ 0 ≤ rd parts at_ ∧ 0 ≤ tot (parts.drop (at_ + 1)) ∧ (d = 0 → tot (parts.drop (at_ + 1)) = 0) := by
    intro hk
    obtain ⟨e, hl, hn⟩ := h.pt hk
    refine ⟨by rw [e]; exact tot_drop (by omega), hn _ (rd_mem (by omega) (by omega)), tot_nonneg (fun x hx => hn x (List.mem_of_mem_drop hx)), fun hd => ?_⟩
    rw [List.drop_eq_nil_of_le (by omega)]
    rfl
  have hp : pay kd rates parts per d at_ left lvl = if d = 0 then left + nr (sched_Build.rt rates at_) left else if kd = 1 then mn (nlv rates per at_ left lvl) (left + nr (sched_Build.rt rates at_) left) else if kd = 2 then nr (sched_Build.rt rates at_) left + rd parts at_ else if kd = 3 then nr (sched_Build.rt rates at_) left else 0 := rfl
  generalize nr (sched_Build.rt rates at_) left = n at *
  generalize nlv rates per at_ left lvl = v at *
  generalize tot (parts.drop (at_ + 1)) = T at *
  generalize rd parts at_ = R at *
  rw [hp]
  have hl0 := h.l0
  unfold mn
  by_cases hk : kd = 2
  · obtain ⟨e1, e2, e3, e4⟩ := k2 hk
    subst hk
    by_cases hd : d = 0
    · have := e4 hd
      rw [if_pos hd]
      omega
    · rw [if_neg hd, if_neg (by omega), if_pos rfl]
      omega
  · rw [if_neg hk]
    by_cases hd : d = 0
    · rw [if_pos hd]
      omega
    · rw [if_neg hd]
      by_cases c1 : kd = 1
      · rw [if_pos c1]
        split <;> omega
      · rw [if_neg c1]
        split <;> omega
theorem Inv.next (h : Inv kd rates parts per (d + 1) at_ left lvl) (hc : ¬(left - (pay kd rates parts per d at_ left lvl - nr (sched_Build.rt rates at_) left) > 10000000000000 ∨ pay kd rates parts per d at_ left lvl > 10000000000000)) :
    Inv kd rates parts per d (at_ + 1) (left - (pay kd rates parts per d at_ left lvl - nr (sched_Build.rt rates at_) left)) (if kd = 1 then nlv rates per at_ left lvl else lvl) := by
  obtain ⟨p0, p1, p2, p3, p4⟩ := h.paid
  have hs := h.sum
  have hn := h.nl
  have hv0 := h.v0
  have hv1 := h.v1
  refine ⟨h.km, by omega, h.pm, h.r1, h.rs, p2, by omega, ?_, ?_, fun hk => ⟨(p4 hk).1, (h.pt hk).2⟩⟩
  · split <;> omega
  · split <;> omega
/-- the program's rows -/
theorem rows_run : ∀ (d at_ : Nat) (left lvl : Int) (out : List S43) (n k : Nat), Inv kd rates parts per d at_ left lvl → d + 1 ≤ n → 800 ≤ k →
    sched_Build.rows k kd rates parts per n at_ left lvl out = some (fin out (bld kd rates parts per d at_ left lvl))
  | 0, at_, left, lvl, out, n + 1, k, h, _, hk => by
    have := h.sum
    rw [sched_Build.rows, if_neg (by omega)]
    unfold bld fin
    rw [if_pos rfl, List.append_nil]
  | d + 1, at_, left, lvl, out, n + 1, k, h, hn, hk => by
    have hs := h.sum
    have a0 := h.n0
    have a1 := h.n1
    have a2 := h.l0
    have a3 := h.l1
    have hpm := h.pm
    obtain ⟨p0, p1, p2, p3, p4⟩ := h.paid
    have hnl := h.nl
    have hnx := h.next
    have hlev := h.lev
    rw [sched_Build.rows, if_pos (by omega), interest_f ⟨by omega, by omega⟩ (by omega), int_eq h.rt a2 (by omega), Option.bind_some, if_pos rfl]
    dsimp only
    have q : (if (at_ : Int) < (per : Int) - 1 then sched_Build.pay k kd rates parts per at_ left lvl (nr (sched_Build.rt rates at_) left) else some (wrap64 (left + nr (sched_Build.rt rates at_) left), lvl)) =
        some (pay kd rates parts per d at_ left lvl, if d = 0 then lvl else if kd = 1 then nlv rates per at_ left lvl else lvl) := by
      rw [w64 (n := left + nr (sched_Build.rt rates at_) left) (by omega) (by omega)]
      by_cases c : d = 0
      · rw [if_neg (by omega)]
        unfold pay
        rw [if_pos c, if_pos c]
      · rw [if_pos (by omega), if_neg c]
        unfold sched_Build.pay pay
        rw [if_neg c]
        have hkm := h.km
        by_cases c1 : kd = 1
        · rw [if_pos c1, if_pos c1, if_pos c1, w64 (n := (per : Int) - at_) (by omega) (by omega), level_f hk, w64 (n := left + nr (sched_Build.rt rates at_) left) (by omega) (by omega)]
          unfold nlv
          split
          · rfl
          · rfl
        · rw [if_neg c1, if_neg c1, if_neg c1]
          by_cases c2 : kd = 2
          · obtain ⟨_, e1, e2⟩ := p4 c2
            rw [if_pos c2, if_pos c2, w64 (by omega) (by omega)]
          · rw [if_neg c2, if_neg c2]
            by_cases c3 : kd = 3
            · rw [if_pos c3, if_pos c3]
            · rw [if_neg c3, if_neg c3, if_pos (by omega)]
    rw [q, Option.bind_some]
    dsimp only
    conv => rhs; unfold bld
    generalize pay kd rates parts per d at_ left lvl = P at *
    generalize nr (sched_Build.rt rates at_) left = I at *
    rw [w64 (n := P - I) (by omega) (by omega), w64 (n := left - (P - I)) (by omega) (by omega)]
    by_cases c : left - (P - I) > 10000000000000 ∨ P > 10000000000000
    · rw [if_pos (by unfold mx; split <;> omega), if_pos c]
      rfl
    · rw [if_neg (by unfold mx; split <;> omega), if_neg c, show ((at_ : Int) + 1) = ((at_ + 1 : Nat) : Int) from by omega]
      have hnx' := hnx c
      have hn1 : (if d = 0 then lvl else if kd = 1 then nlv rates per at_ left lvl else lvl) = (if kd = 1 then nlv rates per at_ left lvl else lvl) ∨ d = 0 := by
        by_cases hd : d = 0
        · exact .inr hd
        · rw [if_neg hd]; exact .inl rfl
      rcases hn1 with e | hd
      · rw [e, rows_run d (at_ + 1) _ _ _ n k hnx' (by omega) hk, fin_cons]
      · subst hd
        rw [if_pos rfl]
        have hI : Inv kd rates parts per 0 (at_ + 1) (left - (P - I)) lvl := ⟨h.km, hnx'.sum, h.pm, h.r1, h.rs, hnx'.l0, hnx'.l1, h.v0, h.v1, hnx'.pt⟩
        rw [rows_run 0 (at_ + 1) _ _ _ n k hI (by omega) hk, fin_cons]
        rfl
end
/-- what Build comes to -/
def build (kd pr : Int) (rates : List Int) (per : Int) : List S43 × Int := if okt kd pr rates per then bld kd rates (eqs pr per.toNat) per.toNat per.toNat 0 pr 0 else ([], 2)
theorem inv0 {kd pr per : Int} {rates : List Int} (h : okt kd pr rates per) : Inv kd rates (eqs pr per.toNat) per.toNat per.toNat 0 pr 0 := by
  obtain ⟨h1, h2, h3, h4, h5⟩ := h
  refine ⟨h1, by omega, by omega, by omega, h5, by omega, h2.2, Int.le_refl _, by omega, fun _ => ⟨?_, eqs_len (by omega), eqs_nn (by omega) (by omega)⟩⟩
  rw [List.drop_zero, eqs_tot (by omega)]
theorem fin_nil (q : List S43 × Int) (h : q.2 = 0 ∨ q.1 = []) : fin [] q = q := by
  unfold fin
  obtain ⟨a, b⟩ := q
  split
  · rename_i c
    simp at c
    subst c
    rfl
  · rename_i c
    rcases h with h | h
    · exact absurd h c
    · simp at h
      subst h
      rfl
theorem cons_err {x : S43} {q : List S43 × Int} (h : q.2 = 0 ∨ q.1 = [] ∧ q.2 = 3) : (cons x q).2 = 0 ∨ (cons x q).1 = [] ∧ (cons x q).2 = 3 := by
  unfold cons
  by_cases c : q.2 = 0
  · rw [if_pos c]
    exact .inl rfl
  · rw [if_neg c]
    exact .inr ⟨rfl, (h.resolve_left c).2⟩
theorem bld_err (kd : Int) (rates parts : List Int) (per : Nat) : ∀ (d at_ : Nat) (left lvl : Int), (bld kd rates parts per d at_ left lvl).2 = 0 ∨ (bld kd rates parts per d at_ left lvl).1 = [] ∧ (bld kd rates parts per d at_ left lvl).2 = 3
  | 0, _, _, _ => .inl rfl
  | d + 1, at_, left, lvl => by
    unfold bld
    split
    · exact .inr ⟨rfl, rfl⟩
    · exact cons_err (bld_err kd rates parts per d _ _ _)
theorem build_f {kd pr per : Int} {rates : List Int} {k : Nat} (hk : 2000 ≤ k) : sched_Build.f k kd pr rates per = some (build kd pr rates per) := by
  unfold sched_Build.f build
  rw [check_f (by omega), Option.bind_some]
  by_cases c : okt kd pr rates per
  · obtain ⟨h1, h2, h3, h4, h5⟩ := id c
    have hp : ((per.toNat : Nat) : Int) = per := by omega
    rw [if_pos c, if_pos rfl, if_pos ⟨by omega, h1.1, h1.2, h3.1, h3.2, by omega, by omega⟩]
    have hs := split (n := pr) (ws := ones per.toNat) (k := k) (by unfold ones; simp; omega)
    rw [split_ones h2.1 h2.2 (by omega) (by omega)] at hs
    unfold ones at hs
    rw [hs, Option.bind_some, if_pos ⟨rfl, by rw [eqs_len (by omega)]; exact hp⟩, if_pos c]
    have hr := rows_run (per := per.toNat) per.toNat 0 pr 0 [] (per.toNat + 1) k (inv0 c) (by omega) (by omega)
    rw [hp] at hr
    rw [show (0 : Int) = ((0 : Nat) : Int) from rfl] 
    rw [show ((0 : Nat) : Int) = (0 : Int) from rfl] at hr ⊢
    rw [hr, fin_nil _ ((bld_err kd rates (eqs pr per.toNat) per.toNat per.toNat 0 pr 0).imp_right And.left)]
  · rw [if_neg c, if_neg (by omega), if_neg c]
end Go.Proofs.Ytchpeobenlnemaa.XSched
end

section
namespace Go.Proofs.Ytchpeobenlnemaa.S
open Go.RowKit Go.Proofs.YtchpeobenlnemaaW.PrintWords Go.Proofs.YtchpeobenlnemaaW.PrintLast Go.Proofs.YtchpeobenlnemaaW.PrintMore
attribute [local go_sem] max2_int min2_int max_two min_two max_three min_three max_four min_four   -- for this text's walks alone
attribute [local go_sem] Go.Proofs.Ytchpeobenlnemaa.XWalk.cell2
set_option linter.unusedVariables false
set_option linter.unusedSimpArgs false

theorem eqA43 (d : Nat) (w : World) (x0 y0 : Int) (x1 y1 : Int) (x2 y2 : Int) (x3 y3 : Int) :
    (Op.equalIn (d + 2) 43 (.agg #[.int .i64 x0, .int .i64 x1, .int .i64 x2, .int .i64 x3]) (.agg #[.int .i64 y0, .int .i64 y1, .int .i64 y2, .int .i64 y3])).run Try.prog w = .ok (x0 == y0 && (x1 == y1 && (x2 == y2 && (x3 == y3)))) w := by
  refine eqA_of Try.underlying43 (by kernel_rfl) ?_
  refine eqf_cons (by rfl) (by go_simp; rfl) (by go_simp; rfl) (by go_simp) ?_
  refine eqf_cons (by rfl) (by go_simp; rfl) (by go_simp; rfl) (by go_simp) ?_
  refine eqf_cons (by rfl) (by go_simp; rfl) (by go_simp; rfl) (by go_simp) ?_
  exact eqf_last (by rfl) (by go_simp; rfl) (by go_simp; rfl) (by go_simp)
end Go.Proofs.Ytchpeobenlnemaa.S
end

section
namespace Go.Proofs.Ytchpeobenlnemaa.S
open Go.RowKit Go.Proofs.YtchpeobenlnemaaW.PrintWords Go.Proofs.YtchpeobenlnemaaW.PrintLast Go.Proofs.YtchpeobenlnemaaW.PrintMore
attribute [local go_sem] max2_int min2_int max_two min_two max_three min_three max_four min_four   -- for this text's walks alone
attribute [local go_sem] Go.Proofs.Ytchpeobenlnemaa.XWalk.cell2
set_option linter.unusedVariables false
set_option linter.unusedSimpArgs false

attribute [local go_sem high] eqA43
/-! ### lombardlaw08_alive: function 9 -/
def lombardlaw08_alive.f (k : Nat)  : Option (Bool) := (sched_Build.f k 2 1000 (([10000000000] : List Int)) 4).bind fun bt197 => ((sched_Level.f k 1000 10000000000 4).bind fun bt201 => (if bt197.2 = 0 then (if (bt197.1.length : Int) = 4 then (if 1 < (bt197.1.length : Int) then (if (((rd_T43 bt197.1 1).f0) == 8 && (((rd_T43 bt197.1 1).f1) == 258 && (((rd_T43 bt197.1 1).f2) == 250 && (((rd_T43 bt197.1 1).f3) == 500)))) = true then (if 3 < (bt197.1.length : Int) then (if ((rd_T43 bt197.1 3).f1) = 252 then (if bt201.1 = 257 then (some (bt201.2 == 0)) else (some false)) else (some false)) else (none)) else (some false)) else (none)) else (some false)) else (some false)))
set_option maxHeartbeats 8000000 in
set_option maxRecDepth 100000 in
theorem lombardlaw08_alive.calls (k : Nat)  (r : Bool) (w : World) (h : lombardlaw08_alive.f k  = some r) :
    Calls Try.prog 9 #[] w fun e w' => e = .returned (.bool r) ∧ Below w.heap.size w w' := by
  have hu27 := Try.underlying27
  have hu43 := Try.underlying43
  have HB := Aside0.mk (Below.refl w.heap.size w)
  have H : ((sched_Build.f k 2 1000 (([10000000000] : List Int)) 4).bind fun bt197 => ((sched_Level.f k 1000 10000000000 4).bind fun bt201 => (if bt197.2 = 0 then (if (bt197.1.length : Int) = 4 then (if 1 < (bt197.1.length : Int) then (if (((rd_T43 bt197.1 1).f0) == 8 && (((rd_T43 bt197.1 1).f1) == 258 && (((rd_T43 bt197.1 1).f2) == 250 && (((rd_T43 bt197.1 1).f3) == 500)))) = true then (if 3 < (bt197.1.length : Int) then (if ((rd_T43 bt197.1 3).f1) = 252 then (if bt201.1 = 257 then (some (bt201.2 == 0)) else (some false)) else (some false)) else (none)) else (some false)) else (none)) else (some false)) else (some false)))) = some r := h
  clear h
  obtain ⟨y194, hy194⟩ : ∃ y_ : List Int, y_ = (([10000000000] : List Int)) := ⟨_, rfl⟩
  replace H : ((sched_Build.f k 2 1000 y194 4).bind fun bt197 => ((sched_Level.f k 1000 10000000000 4).bind fun bt201 => (if bt197.2 = 0 then (if (bt197.1.length : Int) = 4 then (if 1 < (bt197.1.length : Int) then (if (((rd_T43 bt197.1 1).f0) == 8 && (((rd_T43 bt197.1 1).f1) == 258 && (((rd_T43 bt197.1 1).f2) == 250 && (((rd_T43 bt197.1 1).f3) == 500)))) = true then (if 3 < (bt197.1.length : Int) then (if ((rd_T43 bt197.1 3).f1) = 252 then (if bt201.1 = 257 then (some (bt201.2 == 0)) else (some false)) else (some false)) else (none)) else (some false)) else (none)) else (some false)) else (some false)))) = some r := by first | (rw [hy194]; with_reducible exact H) | (have H2_ := (Option.bind_some _ _).symm.trans H; rw [hy194]; with_reducible exact H2_) | (have H2_ := (Option.bind_some _ _).symm.trans H; with_reducible exact H2_) | with_reducible exact H | (rw [hy194]; exact H) | exact H
  have Ny194 := Aside0.mk hy194
  clear hy194
  replace H := Option.bind_eq_some_iff.mp H
  obtain ⟨⟨t197, t200⟩, A10, H⟩ := H
  replace H : ((sched_Level.f k 1000 10000000000 4).bind fun bt201 => (if t200 = 0 then (if (t197.length : Int) = 4 then (if 1 < (t197.length : Int) then (if (((rd_T43 t197 1).f0) == 8 && (((rd_T43 t197 1).f1) == 258 && (((rd_T43 t197 1).f2) == 250 && (((rd_T43 t197 1).f3) == 500)))) = true then (if 3 < (t197.length : Int) then (if ((rd_T43 t197 3).f1) = 252 then (if bt201.1 = 257 then (some (bt201.2 == 0)) else (some false)) else (some false)) else (none)) else (some false)) else (none)) else (some false)) else (some false))) = some r := H
  have A1 := Aside0.mk A10
  clear A10
  replace H := Option.bind_eq_some_iff.mp H
  obtain ⟨⟨t201, t202⟩, A20, H⟩ := H
  replace H : (if t200 = 0 then (if (t197.length : Int) = 4 then (if 1 < (t197.length : Int) then (if (((rd_T43 t197 1).f0) == 8 && (((rd_T43 t197 1).f1) == 258 && (((rd_T43 t197 1).f2) == 250 && (((rd_T43 t197 1).f3) == 500)))) = true then (if 3 < (t197.length : Int) then (if ((rd_T43 t197 3).f1) = 252 then (if t201 = 257 then (some (t202 == 0)) else (some false)) else (some false)) else (none)) else (some false)) else (none)) else (some false)) else (some false)) = some r := H
  have A2 := Aside0.mk A20
  clear A20
  have HC3 := Aside0.mk H
  clear H
  go_enter Try.func9, Try.ntmps9
  go_upto_region 3 with (first | ((with_reducible refine gate_dst (N := 6) rfl ?_); (try (refine gate_guard (by rfl) ?_; dsimp only)); refine Kd.R_lit (Kd.int .i64) _ 2 ?hg (N := 6) ?hd (xs := ([10000000000] : List Int)) (inner := [.int .i64 10000000000]) (ok := fun _ => True) (okp := fun _ => True) ?hr ?hp (fun _ hk => hk) trivial (Below.refl _ _) (Nat.le_refl _) (by simp) ?_; (case hd => rfl); (case hg => rfl); (case hr => first | (go_simp; done) | (go_simp; rfl)); (case hp => exact (Reps.one (show Kd.M (Kd.int .i64) _ _ _ 10000000000 [.int .i64 10000000000] from rfl) (Reps.none _ _))); intro v195 w4 ho5 hb hg_ hnew_; clear hg_ hnew_; (first | rw [← Ny194.out] at ho5 | (simp only [Int.reduceToNat] at ho5; rw [← Ny194.out] at ho5)); have n0_ := Aside0.mk (Kd.R_lower ho5 (below_size (by repeat (first | (with_reducible first | exact HB.out | apply below_alloc | apply pw_below_drewN | apply below_drew1) | exact HB.out)))); have n1_ := Aside0.mk (below_step (by repeat (first | (with_reducible first | exact HB.out | apply below_alloc | apply pw_below_drewN | apply below_drew1) | exact HB.out)) hb); clear HB; have HO196 := n0_; have HB := n1_; clear n0_ n1_; clear hb ho5; obtain ⟨Ao6, co6, eo6⟩ := Kd.R_slice HO196.out; subst eo6) | ((with_reducible refine gate_callee (f := 11) rfl ?_); refine goesL_ (some 8) rfl rfl Try.func11 (by kernel_rfl) rfl #[.agg #[.int .i64 2, .int .i64 1000, .slice Ao6 y194.length co6, .int .i64 4]] rfl (by (try simp only [List.map_toArray, List.map_cons, List.map_nil]); first | done | rfl | (simp only [List.length_drop, List.length_take]; rfl)) ?_; (with_reducible refine (sched_Build.calls k 2 1000 _ _ y194 4 t197 t200 _ ?side1 ?side2 A1.out).mono ?_); (case side1 => repeat (first | exact (Kd.R_reads' HO196.out).2.2 | (with_reducible refine Kd.C_alloc ?_ _) | (with_reducible refine Kd.C_drewN ?_ _) | (with_reducible refine Kd.C_drew ?_))); (case side2 => exact (Kd.R_reads' HO196.out).2.1); rintro e w7 ⟨v198, rfl, ho0, hb⟩; refine ⟨_, rfl, ?_⟩; have n0_ := Aside0.mk (Kd.R_below (by (with_reducible repeat (first | apply Kd.R_alloc | apply Kd.R_drewN | apply Kd.R_drew)); exact HO196.out) hb); have n1_ := Aside0.mk (Kd.R_lower ho0 (below_size (by repeat (first | (with_reducible first | exact HB.out | apply below_alloc | apply pw_below_drewN | apply below_drew1) | exact HB.out)))); have n2_ := Aside0.mk (below_step (by repeat (first | (with_reducible first | exact HB.out | apply below_alloc | apply pw_below_drewN | apply below_drew1) | exact HB.out)) hb); clear HO196; clear HB; have HO196 := n0_; have HO199 := n1_; have HB := n2_; clear n0_ n1_ n2_; (try clear hb); (try clear hb2); (try clear hk); (try clear hi); (try clear ho0)) | ((with_reducible refine gate_callee (f := 17) rfl ?_); refine goesL_ (some 12) rfl rfl Try.func17 (by kernel_rfl) rfl #[.int .i64 1000, .int .i64 10000000000, .int .i64 4] rfl (by (try simp only [List.map_toArray, List.map_cons, List.map_nil]); first | done | rfl | (simp only [List.length_drop, List.length_take]; rfl)) ?_; (with_reducible refine (sched_Level.calls k 1000 10000000000 4 t201 t202 _ A2.out).mono ?_); rintro e w8 ⟨rfl, hb⟩; refine ⟨_, rfl, ?_⟩; have n0_ := Aside0.mk (Kd.R_below (by (with_reducible repeat (first | apply Kd.R_alloc | apply Kd.R_drewN | apply Kd.R_drew)); exact HO196.out) hb); have n1_ := Aside0.mk (Kd.R_below (by (with_reducible repeat (first | apply Kd.R_alloc | apply Kd.R_drewN | apply Kd.R_drew)); exact HO199.out) hb); have n2_ := Aside0.mk (below_step (by repeat (first | (with_reducible first | exact HB.out | apply below_alloc | apply pw_below_drewN | apply below_drew1) | exact HB.out)) hb); clear HO196; clear HO199; clear HB; have HO196 := n0_; have HO199 := n1_; have HB := n2_; clear n0_ n1_ n2_; (try clear hb); (try clear hb2); (try clear hk); (try clear hi)))
  have H := HC3.out
  clear HC3
  by_cases c9 : t200 = 0
  · rw [if_pos c9] at H
    have c9b0 : (t200 == 0) = true := beq_iff_eq.mpr c9
    have c9b1 : (t200 != 0) = false := bne_eq_false_iff_eq.mpr c9
    clear c9
    by_cases c10 : (t197.length : Int) = 4
    · rw [if_pos c10] at H
      have c10b0 : ((t197.length : Int) == 4) = true := beq_iff_eq.mpr c10
      have c10b1 : ((t197.length : Int) != 4) = false := bne_eq_false_iff_eq.mpr c10
      clear c10
      by_cases c11 : 1 < (t197.length : Int)
      · rw [if_pos c11] at H
        have c11b0 : decide (1 < (t197.length : Int)) = true := decide_eq_true c11
        have c11b1 : decide (1 < t197.length) = true := decide_eq_true (by omega)
        clear c11
        by_cases c12 : (((rd_T43 t197 1).f0) == 8 && (((rd_T43 t197 1).f1) == 258 && (((rd_T43 t197 1).f2) == 250 && (((rd_T43 t197 1).f3) == 500)))) = true
        · rw [if_pos c12] at H
          have c12b0 : (((rd_T43 t197 1).f0) == 8 && (((rd_T43 t197 1).f1) == 258 && (((rd_T43 t197 1).f2) == 250 && (((rd_T43 t197 1).f3) == 500)))) = true := c12
          (try (have c12b1 : decide (((rd_T43 t197 1).f0) = 8 && (((rd_T43 t197 1).f1) == 258 && (((rd_T43 t197 1).f2) == 250 && (((rd_T43 t197 1).f3) == 500)))) = true := by simpa using c12))
          (try (have c12b2 : (((rd_T43 t197 1).f0) == 8 && (((rd_T43 t197 1).f1) == 258 && (((rd_T43 t197 1).f2) == 250 && (((rd_T43 t197 1).f3) == 500)))) = true := by simpa using c12))
          clear c12
          by_cases c13 : 3 < (t197.length : Int)
          · rw [if_pos c13] at H
            have c13b0 : decide (3 < (t197.length : Int)) = true := decide_eq_true c13
            have c13b1 : decide (3 < t197.length) = true := decide_eq_true (by omega)
            clear c13
            by_cases c14 : ((rd_T43 t197 3).f1) = 252
            · rw [if_pos c14] at H
              have c14b0 : (((rd_T43 t197 3).f1) == 252) = true := beq_iff_eq.mpr c14
              have c14b1 : (((rd_T43 t197 3).f1) != 252) = false := bne_eq_false_iff_eq.mpr c14
              clear c14
              by_cases c15 : t201 = 257
              · rw [if_pos c15] at H
                have c15b0 : (t201 == 257) = true := beq_iff_eq.mpr c15
                have c15b1 : (t201 != 257) = false := bne_eq_false_iff_eq.mpr c15
                clear c15
                obtain rfl := Option.some.inj H
                obtain ⟨Ao16, co16, eo16⟩ := Kd.R_slice HO199.out
                subst eo16
                have p203 : 0 ≤ (1 : Int) := (by omega)
                have q203 : 1 < (t197.length : Int) := of_decide_eq_true (by first | (with_reducible assumption) | assumption)
                obtain ⟨ad203, e203, hx203_0, hx203_1, hx203_2, hx203_3⟩ := at_T43 (Kd.R_reads' HO199.out).2.2 1 p203 q203
                cases e203
                (try simp only [show (1 : Int).toNat = 1 from rfl, Nat.reduceMul, Nat.reduceEqDiff, Go.Addr.add, ↓reduceIte] at hx203_0)
                (try simp only [show (1 : Int).toNat = 1 from rfl, Nat.reduceMul, Nat.reduceEqDiff, Go.Addr.add, ↓reduceIte] at hx203_1)
                (try simp only [show (1 : Int).toNat = 1 from rfl, Nat.reduceMul, Nat.reduceEqDiff, Go.Addr.add, ↓reduceIte] at hx203_2)
                (try simp only [show (1 : Int).toNat = 1 from rfl, Nat.reduceMul, Nat.reduceEqDiff, Go.Addr.add, ↓reduceIte] at hx203_3)
                have qi203 : (1 < t197.length) = True := eq_true (by omega)
                (try rw [show ((1 : Int)).toNat = 1 from rfl] at hx203_0)
                (try rw [show 1 * 4 = 4 from rfl] at hx203_0)
                (try rw [show ((1 : Int)).toNat = 1 from rfl] at hx203_1)
                (try rw [show 1 * 4 = 4 from rfl] at hx203_1)
                (try rw [show ((1 : Int)).toNat = 1 from rfl] at hx203_2)
                (try rw [show 1 * 4 = 4 from rfl] at hx203_2)
                (try rw [show ((1 : Int)).toNat = 1 from rfl] at hx203_3)
                (try rw [show 1 * 4 = 4 from rfl] at hx203_3)
                replace p203 := eq_true p203
                replace q203 := eq_true q203
                have p204 : 0 ≤ (3 : Int) := (by omega)
                have q204 : 3 < (t197.length : Int) := of_decide_eq_true (by first | (with_reducible assumption) | assumption)
                obtain ⟨ad204, e204, hx204_0, hx204_1, hx204_2, hx204_3⟩ := at_T43 (Kd.R_reads' HO199.out).2.2 3 p204 q204
                obtain rfl : ad203 = ad204 := (by injection e204)
                (try simp only [show (3 : Int).toNat = 3 from rfl, Nat.reduceMul, Nat.reduceEqDiff, Go.Addr.add, ↓reduceIte] at hx204_0)
                (try simp only [show (3 : Int).toNat = 3 from rfl, Nat.reduceMul, Nat.reduceEqDiff, Go.Addr.add, ↓reduceIte] at hx204_1)
                (try simp only [show (3 : Int).toNat = 3 from rfl, Nat.reduceMul, Nat.reduceEqDiff, Go.Addr.add, ↓reduceIte] at hx204_2)
                (try simp only [show (3 : Int).toNat = 3 from rfl, Nat.reduceMul, Nat.reduceEqDiff, Go.Addr.add, ↓reduceIte] at hx204_3)
                have qi204 : (3 < t197.length) = True := eq_true (by omega)
                (try rw [show ((3 : Int)).toNat = 3 from rfl] at hx204_0)
                (try rw [show 3 * 4 = 12 from rfl] at hx204_0)
                (try rw [show ((3 : Int)).toNat = 3 from rfl] at hx204_1)
                (try rw [show 3 * 4 = 12 from rfl] at hx204_1)
                (try rw [show ((3 : Int)).toNat = 3 from rfl] at hx204_2)
                (try rw [show 3 * 4 = 12 from rfl] at hx204_2)
                (try rw [show ((3 : Int)).toNat = 3 from rfl] at hx204_3)
                (try rw [show 3 * 4 = 12 from rfl] at hx204_3)
                replace p204 := eq_true p204
                replace q204 := eq_true q204
                go_wp2
                go_ret
                exact ⟨by first | rfl | (simp [errW_none, errW_some] <;> rfl) | (simp [*, errW_none, errW_some] <;> rfl), by repeat (first | (with_reducible first | exact HB.out | apply below_alloc | apply pw_below_drewN | apply below_drew1) | exact HB.out)⟩
              · rw [if_neg c15] at H
                have c15b0 : (t201 == 257) = false := beq_eq_false_iff_ne.mpr c15
                have c15b1 : (t201 != 257) = true := bne_iff_ne.mpr c15
                obtain rfl := Option.some.inj H
                obtain ⟨Ao17, co17, eo17⟩ := Kd.R_slice HO199.out
                subst eo17
                have p203 : 0 ≤ (1 : Int) := (by omega)
                have q203 : 1 < (t197.length : Int) := of_decide_eq_true (by first | (with_reducible assumption) | assumption)
                obtain ⟨ad203, e203, hx203_0, hx203_1, hx203_2, hx203_3⟩ := at_T43 (Kd.R_reads' HO199.out).2.2 1 p203 q203
                cases e203
                (try simp only [show (1 : Int).toNat = 1 from rfl, Nat.reduceMul, Nat.reduceEqDiff, Go.Addr.add, ↓reduceIte] at hx203_0)
                (try simp only [show (1 : Int).toNat = 1 from rfl, Nat.reduceMul, Nat.reduceEqDiff, Go.Addr.add, ↓reduceIte] at hx203_1)
                (try simp only [show (1 : Int).toNat = 1 from rfl, Nat.reduceMul, Nat.reduceEqDiff, Go.Addr.add, ↓reduceIte] at hx203_2)
                (try simp only [show (1 : Int).toNat = 1 from rfl, Nat.reduceMul, Nat.reduceEqDiff, Go.Addr.add, ↓reduceIte] at hx203_3)
                have qi203 : (1 < t197.length) = True := eq_true (by omega)
                (try rw [show ((1 : Int)).toNat = 1 from rfl] at hx203_0)
                (try rw [show 1 * 4 = 4 from rfl] at hx203_0)
                (try rw [show ((1 : Int)).toNat = 1 from rfl] at hx203_1)
                (try rw [show 1 * 4 = 4 from rfl] at hx203_1)
                (try rw [show ((1 : Int)).toNat = 1 from rfl] at hx203_2)
                (try rw [show 1 * 4 = 4 from rfl] at hx203_2)
                (try rw [show ((1 : Int)).toNat = 1 from rfl] at hx203_3)
                (try rw [show 1 * 4 = 4 from rfl] at hx203_3)
                replace p203 := eq_true p203
                replace q203 := eq_true q203
                have p204 : 0 ≤ (3 : Int) := (by omega)
                have q204 : 3 < (t197.length : Int) := of_decide_eq_true (by first | (with_reducible assumption) | assumption)
                obtain ⟨ad204, e204, hx204_0, hx204_1, hx204_2, hx204_3⟩ := at_T43 (Kd.R_reads' HO199.out).2.2 3 p204 q204
                obtain rfl : ad203 = ad204 := (by injection e204)
                (try simp only [show (3 : Int).toNat = 3 from rfl, Nat.reduceMul, Nat.reduceEqDiff, Go.Addr.add, ↓reduceIte] at hx204_0)
                (try simp only [show (3 : Int).toNat = 3 from rfl, Nat.reduceMul, Nat.reduceEqDiff, Go.Addr.add, ↓reduceIte] at hx204_1)
                (try simp only [show (3 : Int).toNat = 3 from rfl, Nat.reduceMul, Nat.reduceEqDiff, Go.Addr.add, ↓reduceIte] at hx204_2)
                (try simp only [show (3 : Int).toNat = 3 from rfl, Nat.reduceMul, Nat.reduceEqDiff, Go.Addr.add, ↓reduceIte] at hx204_3)
                have qi204 : (3 < t197.length) = True := eq_true (by omega)
                (try rw [show ((3 : Int)).toNat = 3 from rfl] at hx204_0)
                (try rw [show 3 * 4 = 12 from rfl] at hx204_0)
                (try rw [show ((3 : Int)).toNat = 3 from rfl] at hx204_1)
                (try rw [show 3 * 4 = 12 from rfl] at hx204_1)
                (try rw [show ((3 : Int)).toNat = 3 from rfl] at hx204_2)
                (try rw [show 3 * 4 = 12 from rfl] at hx204_2)
                (try rw [show ((3 : Int)).toNat = 3 from rfl] at hx204_3)
                (try rw [show 3 * 4 = 12 from rfl] at hx204_3)
                replace p204 := eq_true p204
                replace q204 := eq_true q204
                go_wp2
                go_ret
                exact ⟨by first | rfl | (simp [errW_none, errW_some] <;> rfl) | (simp [*, errW_none, errW_some] <;> rfl), by repeat (first | (with_reducible first | exact HB.out | apply below_alloc | apply pw_below_drewN | apply below_drew1) | exact HB.out)⟩
            · rw [if_neg c14] at H
              have c14b0 : (((rd_T43 t197 3).f1) == 252) = false := beq_eq_false_iff_ne.mpr c14
              have c14b1 : (((rd_T43 t197 3).f1) != 252) = true := bne_iff_ne.mpr c14
              obtain rfl := Option.some.inj H
              obtain ⟨Ao18, co18, eo18⟩ := Kd.R_slice HO199.out
              subst eo18
              have p203 : 0 ≤ (1 : Int) := (by omega)
              have q203 : 1 < (t197.length : Int) := of_decide_eq_true (by first | (with_reducible assumption) | assumption)
              obtain ⟨ad203, e203, hx203_0, hx203_1, hx203_2, hx203_3⟩ := at_T43 (Kd.R_reads' HO199.out).2.2 1 p203 q203
              cases e203
              (try simp only [show (1 : Int).toNat = 1 from rfl, Nat.reduceMul, Nat.reduceEqDiff, Go.Addr.add, ↓reduceIte] at hx203_0)
              (try simp only [show (1 : Int).toNat = 1 from rfl, Nat.reduceMul, Nat.reduceEqDiff, Go.Addr.add, ↓reduceIte] at hx203_1)
              (try simp only [show (1 : Int).toNat = 1 from rfl, Nat.reduceMul, Nat.reduceEqDiff, Go.Addr.add, ↓reduceIte] at hx203_2)
              (try simp only [show (1 : Int).toNat = 1 from rfl, Nat.reduceMul, Nat.reduceEqDiff, Go.Addr.add, ↓reduceIte] at hx203_3)
              have qi203 : (1 < t197.length) = True := eq_true (by omega)
              (try rw [show ((1 : Int)).toNat = 1 from rfl] at hx203_0)
              (try rw [show 1 * 4 = 4 from rfl] at hx203_0)
              (try rw [show ((1 : Int)).toNat = 1 from rfl] at hx203_1)
              (try rw [show 1 * 4 = 4 from rfl] at hx203_1)
              (try rw [show ((1 : Int)).toNat = 1 from rfl] at hx203_2)
              (try rw [show 1 * 4 = 4 from rfl] at hx203_2)
              (try rw [show ((1 : Int)).toNat = 1 from rfl] at hx203_3)
              (try rw [show 1 * 4 = 4 from rfl] at hx203_3)
              replace p203 := eq_true p203
              replace q203 := eq_true q203
              have p204 : 0 ≤ (3 : Int) := (by omega)
              have q204 : 3 < (t197.length : Int) := of_decide_eq_true (by first | (with_reducible assumption) | assumption)
              obtain ⟨ad204, e204, hx204_0, hx204_1, hx204_2, hx204_3⟩ := at_T43 (Kd.R_reads' HO199.out).2.2 3 p204 q204
              obtain rfl : ad203 = ad204 := (by injection e204)
              (try simp only [show (3 : Int).toNat = 3 from rfl, Nat.reduceMul, Nat.reduceEqDiff, Go.Addr.add, ↓reduceIte] at hx204_0)
              (try simp only [show (3 : Int).toNat = 3 from rfl, Nat.reduceMul, Nat.reduceEqDiff, Go.Addr.add, ↓reduceIte] at hx204_1)
              (try simp only [show (3 : Int).toNat = 3 from rfl, Nat.reduceMul, Nat.reduceEqDiff, Go.Addr.add, ↓reduceIte] at hx204_2)
              (try simp only [show (3 : Int).toNat = 3 from rfl, Nat.reduceMul, Nat.reduceEqDiff, Go.Addr.add, ↓reduceIte] at hx204_3)
              have qi204 : (3 < t197.length) = True := eq_true (by omega)
              (try rw [show ((3 : Int)).toNat = 3 from rfl] at hx204_0)
              (try rw [show 3 * 4 = 12 from rfl] at hx204_0)
              (try rw [show ((3 : Int)).toNat = 3 from rfl] at hx204_1)
              (try rw [show 3 * 4 = 12 from rfl] at hx204_1)
              (try rw [show ((3 : Int)).toNat = 3 from rfl] at hx204_2)
              (try rw [show 3 * 4 = 12 from rfl] at hx204_2)
              (try rw [show ((3 : Int)).toNat = 3 from rfl] at hx204_3)
              (try rw [show 3 * 4 = 12 from rfl] at hx204_3)
              replace p204 := eq_true p204
              replace q204 := eq_true q204
              go_wp2
              go_ret
              exact ⟨by first | rfl | (simp [errW_none, errW_some] <;> rfl) | (simp [*, errW_none, errW_some] <;> rfl), by repeat (first | (with_reducible first | exact HB.out | apply below_alloc | apply pw_below_drewN | apply below_drew1) | exact HB.out)⟩
          · rw [if_neg c13] at H
            exact absurd H (by simp)
        · rw [if_neg c12] at H
          have c12b0 : (((rd_T43 t197 1).f0) == 8 && (((rd_T43 t197 1).f1) == 258 && (((rd_T43 t197 1).f2) == 250 && (((rd_T43 t197 1).f3) == 500)))) = false := by simpa using c12
          (try (have c12b1 : decide (((rd_T43 t197 1).f0) = 8 && (((rd_T43 t197 1).f1) == 258 && (((rd_T43 t197 1).f2) == 250 && (((rd_T43 t197 1).f3) == 500)))) = false := by simpa using c12))
          (try (have c12b2 : (((rd_T43 t197 1).f0) == 8 && (((rd_T43 t197 1).f1) == 258 && (((rd_T43 t197 1).f2) == 250 && (((rd_T43 t197 1).f3) == 500)))) = false := by simpa using c12))
          (try (have c12b3 : ¬ (((rd_T43 t197 1).f0) = 8 && (((rd_T43 t197 1).f1) == 258 && (((rd_T43 t197 1).f2) == 250 && (((rd_T43 t197 1).f3) == 500)))) := by simpa using c12))
          clear c12
          obtain rfl := Option.some.inj H
          obtain ⟨Ao19, co19, eo19⟩ := Kd.R_slice HO199.out
          subst eo19
          have p203 : 0 ≤ (1 : Int) := (by omega)
          have q203 : 1 < (t197.length : Int) := of_decide_eq_true (by first | (with_reducible assumption) | assumption)
          obtain ⟨ad203, e203, hx203_0, hx203_1, hx203_2, hx203_3⟩ := at_T43 (Kd.R_reads' HO199.out).2.2 1 p203 q203
          cases e203
          (try simp only [show (1 : Int).toNat = 1 from rfl, Nat.reduceMul, Nat.reduceEqDiff, Go.Addr.add, ↓reduceIte] at hx203_0)
          (try simp only [show (1 : Int).toNat = 1 from rfl, Nat.reduceMul, Nat.reduceEqDiff, Go.Addr.add, ↓reduceIte] at hx203_1)
          (try simp only [show (1 : Int).toNat = 1 from rfl, Nat.reduceMul, Nat.reduceEqDiff, Go.Addr.add, ↓reduceIte] at hx203_2)
          (try simp only [show (1 : Int).toNat = 1 from rfl, Nat.reduceMul, Nat.reduceEqDiff, Go.Addr.add, ↓reduceIte] at hx203_3)
          have qi203 : (1 < t197.length) = True := eq_true (by omega)
          (try rw [show ((1 : Int)).toNat = 1 from rfl] at hx203_0)
          (try rw [show 1 * 4 = 4 from rfl] at hx203_0)
          (try rw [show ((1 : Int)).toNat = 1 from rfl] at hx203_1)
          (try rw [show 1 * 4 = 4 from rfl] at hx203_1)
          (try rw [show ((1 : Int)).toNat = 1 from rfl] at hx203_2)
          (try rw [show 1 * 4 = 4 from rfl] at hx203_2)
          (try rw [show ((1 : Int)).toNat = 1 from rfl] at hx203_3)
          (try rw [show 1 * 4 = 4 from rfl] at hx203_3)
          replace p203 := eq_true p203
          replace q203 := eq_true q203
          go_wp2
          go_ret
          exact ⟨by first | rfl | (simp [errW_none, errW_some] <;> rfl) | (simp [*, errW_none, errW_some] <;> rfl), by repeat (first | (with_reducible first | exact HB.out | apply below_alloc | apply pw_below_drewN | apply below_drew1) | exact HB.out)⟩
      · rw [if_neg c11] at H
        exact absurd H (by simp)
    · rw [if_neg c10] at H
      have c10b0 : ((t197.length : Int) == 4) = false := beq_eq_false_iff_ne.mpr c10
      have c10b1 : ((t197.length : Int) != 4) = true := bne_iff_ne.mpr c10
      obtain rfl := Option.some.inj H
      obtain ⟨Ao20, co20, eo20⟩ := Kd.R_slice HO199.out
      subst eo20
      go_wp2
      go_ret
      exact ⟨by first | rfl | (simp [errW_none, errW_some] <;> rfl) | (simp [*, errW_none, errW_some] <;> rfl), by repeat (first | (with_reducible first | exact HB.out | apply below_alloc | apply pw_below_drewN | apply below_drew1) | exact HB.out)⟩
  · rw [if_neg c9] at H
    have c9b0 : (t200 == 0) = false := beq_eq_false_iff_ne.mpr c9
    have c9b1 : (t200 != 0) = true := bne_iff_ne.mpr c9
    obtain rfl := Option.some.inj H
    go_wp2
    go_ret
    exact ⟨by first | rfl | (simp [errW_none, errW_some] <;> rfl) | (simp [*, errW_none, errW_some] <;> rfl), by repeat (first | (with_reducible first | exact HB.out | apply below_alloc | apply pw_below_drewN | apply below_drew1) | exact HB.out)⟩

end Go.Proofs.Ytchpeobenlnemaa.S
end

section
namespace Go.Proofs.Ytchpeobenlnemaa.SchedAlive
set_option linter.unusedVariables false
set_option linter.unusedSimpArgs false
open Go.RowKit Go.Proofs.Ytchpeobenlnemaa.S Go.Proofs.Ytchpeobenlnemaa.XPay Go.Proofs.Ytchpeobenlnemaa.XSched Go.Proofs.YtchpeobenlnemaaW.PrintWords Go.Proofs.YtchpeobenlnemaaW.PrintLast Go.Proofs.YtchpeobenlnemaaW.PrintMore

theorem alive {k : Nat} (hk : 2000 ≤ k) : lombardlaw08_alive.f k = some true := by
  unfold lombardlaw08_alive.f
  rw [build_f hk, Option.bind_some, level_f (by omega), Option.bind_some]
  decide +kernel
end Go.Proofs.Ytchpeobenlnemaa.SchedAlive
end

section
namespace Go.Proofs.Ytchpeobenlnemaa.S
set_option linter.unusedVariables false
set_option linter.unusedSimpArgs false
open Go.RowKit Go.Proofs.YtchpeobenlnemaaW.PrintWords Go.Proofs.YtchpeobenlnemaaW.PrintLast Go.Proofs.YtchpeobenlnemaaW.PrintMore Go.Proofs.Ytchpeobenlnemaa.XPay Go.Proofs.Ytchpeobenlnemaa.SchedAlive
attribute [local go_sem] max2_int min2_int max_two min_two max_three min_three max_four min_four
attribute [local go_sem] Go.Proofs.Ytchpeobenlnemaa.XWalk.cell2
set_option linter.unusedVariables false
set_option linter.unusedSimpArgs false

/-- A call of a closure that stands in a temporary. -/
theorem SchedLeast.goesC {P : Program} {ops : Array Oper} {Q : Exit → Act → World → Prop} {rest : List Oper} {oi : Oper} {a : Act} {w : World} (N : Option Tmp) (hd : oi.dst = N) {f : FuncId} {fn : Func} {c : Operand} {ar : Array Operand} {ts : Array TypeId} {caps : Array Value} (hf : P.funcs[f]? = some fn) (hname : (fn.name == "runtime.NumGoroutine") = false) (hb : fn.body.isSome = true) (args : Array Value)
    (hw : Region.wanted oi (yielded ops a.tmps) = true) (hop : oi.op = .call { callee := .value c, args := ar, argTypes := ts }) (hc : a.eval c = .func (.func f) #[] caps) (hargs : ar.map a.eval ++ caps = args)
    (h : Calls P f args w fun e w' => ∃ v, e = .returned v ∧ wpList P ops Q rest (a.put N v) w') : wpList P ops Q (oi :: rest) a w := by
  have he := enters_ hf hname hb args w
  have hrun : (execOp a.eval oi).run P w = .ok (.enter f args) w := by
    unfold execOp
    simp [hop, resolve, Deferred.ofValue, invoke, hc, hargs, he]
  unfold wpList
  rw [if_pos hw]
  unfold Oper.wp
  rw [hrun, Oper.upon_enter]
  refine Or.inl (h.mono fun e w'' hh => ?_)
  obtain ⟨v, rfl, hk⟩ := hh
  subst hd
  exact hk
theorem SchedLeast.pure_ {P : Program} {md : Region.Mode} {ops : Array Oper} {Q : Exit → Act → World → Prop} {fuel : Nat} {l : Array Bool} {a a' : Act} {w : World} (ha : a = a') (h : wpAnyH P md ops Q (fun _ => True) fuel l a' w) : wpAnyH P md ops Q (fun _ => True) fuel l a w := ha ▸ h
theorem SchedLeast.step {P : Program} {ops : Array Oper} {Q : Exit → Act → World → Prop} {i : Nat} {o : Oper} {K : Act → World → Prop} {a : Act} {w w' : World} {v : Value} (hi : ops[i]? = some o) (hg : o.guard = none) (hr : (execOp a.eval o).run P w = .ok (.value v) w') (h : K (a.put o.dst v) w') : wpOp P ops Q i K a w := by
  have hw : Region.wanted o (yielded ops a.tmps) = true := by simp [Region.wanted, hg]
  unfold wpOp
  simp only [hi]
  rw [if_pos hw]
  refine Or.inl ?_
  unfold Oper.wp
  rw [hr]
  exact h
theorem SchedLeast.skip {P : Program} {ops : Array Oper} {Q : Exit → Act → World → Prop} {i : Nat} {o : Oper} {K : Act → World → Prop} {a : Act} {w w' : World} (hi : ops[i]? = some o) (hg : o.guard = none) (hd : o.dst = none) (hr : (execOp a.eval o).run P w = .ok .skip w') (h : K a w') : wpOp P ops Q i K a w := by
  have hw : Region.wanted o (yielded ops a.tmps) = true := by simp [Region.wanted, hg]
  have hp : a.put o.dst undef = a := by rw [hd]; rfl
  unfold wpOp
  simp only [hi]
  rw [if_pos hw]
  refine Or.inl ?_
  unfold Oper.wp
  rw [hr]
  show K (a.put o.dst undef) w'
  rw [hp]
  exact h
set_option maxHeartbeats 4000000 in
set_option maxRecDepth 100000 in
theorem lombardlaw08_SchedLeast.walk (a0 : Int) (a1 : Int) (a2 : Int) (w : World) (hp : (Lit.int .u8 a2).wf = true) :
    Calls Try.prog 7 #[.int .i64 a0, .int .i64 a1, .int .u8 a2] w fun e w' => e = .returned (.bool true) ∧ Below w.heap.size w w' := by
  rw [XNum.wfu8] at hp
  obtain ⟨k, hk⟩ : ∃ k : Nat, k = 9000 := ⟨_, rfl⟩
  have HAl := Aside0.mk (alive (k := k) (by omega))
  obtain ⟨L1, hL1⟩ : ∃ x, (if a0 < 1 then 1 else a0) = x := ⟨_, rfl⟩
  obtain ⟨L, hL⟩ : ∃ x, (if (9999999999999 : Int) < L1 then 9999999999999 else L1) = x := ⟨_, rfl⟩
  obtain ⟨R1, hR1⟩ : ∃ x, (if a1 < 0 then 0 else a1) = x := ⟨_, rfl⟩
  obtain ⟨R, hR⟩ : ∃ x, (if (999999999999 : Int) < R1 then 999999999999 else R1) = x := ⟨_, rfl⟩
  obtain ⟨n, hn⟩ : ∃ n : Int, a2 % 40 + 1 = n := ⟨_, rfl⟩
  have HB0 := Aside0.mk (show 0 < L ∧ L ≤ 9999999999999 ∧ 0 ≤ R ∧ R ≤ 999999999999 ∧ 1 ≤ n ∧ n ≤ 40 by
    have e1 : 1 ≤ L1 := by rw [← hL1]; split <;> omega
    have e2 : 0 ≤ R1 := by rw [← hR1]; split <;> omega
    refine ⟨by rw [← hL]; split <;> omega, by rw [← hL]; split <;> omega, by rw [← hR]; split <;> omega, by rw [← hR]; split <;> omega, by omega, by omega⟩)
  have HALL := Aside0.mk (XOff.all HB0.out.1 HB0.out.2.1 HB0.out.2.2.1 HB0.out.2.2.2.1 HB0.out.2.2.2.2.1 HB0.out.2.2.2.2.2 (k := k) (by omega))
  obtain ⟨M, hM⟩ : ∃ M : Nat, M = w.heap.size := ⟨_, rfl⟩
  have HM := Aside0.mk hM
  have HNN := Aside0.mk hn
  have HP := Aside0.mk hp
  clear hk hn hp
  go_enter Try.func7, Try.ntmps7
  go_upto_region 1 with (fail)
  have b1 := blk_new w (.cells #[.int .i64 a0] 2 (0, 0))
  have y1 := below_alloc (Below.refl w.heap.size w) (.cells #[.int .i64 a0] 2 (0, 0))
  have s1 := World.size_alloc w (.cells #[.int .i64 a0] 2 (0, 0))
  generalize w.alloc (.cells #[.int .i64 a0] 2 (0, 0)) = W0 at *
  have b2 := blk_new W0 (.cells #[.int .i64 a1] 2 (0, 0))
  have y2 := below_alloc (Below.refl W0.heap.size W0) (.cells #[.int .i64 a1] 2 (0, 0))
  generalize W0.alloc (.cells #[.int .i64 a1] 2 (0, 0)) = W1 at *
  obtain ⟨G, hG⟩ : ∃ G, G = w.heap.size + 1 := ⟨_, rfl⟩
  have b1' := (y2.block w.heap.size (by omega)).trans b1
  have y3 := y1.trans (y2.mono (by omega))
  rw [s1] at b2
  rw [← hG] at b2 ⊢
  rw [← hM] at b1' y3 hG ⊢
  have MG := Aside0.mk (show M < G by omega)
  have BL1 := Aside0.mk b1'
  have BR1 := Aside0.mk b2
  have YB1 := Aside0.mk y3
  clear b1 y1 s1 b2 y2 b1' y3 hG hM
  go_upto_region 3 with (first | (go_at_call 9; go_must ((with_reducible refine (lombardlaw08_alive.calls k true _ HAl.out).mono ?_)); rintro e W2 ⟨rfl, hb2⟩))
  have BL2 := Aside0.mk ((hb2.block M (Array.getElem?_eq_some_iff.1 BL1.out).1).trans BL1.out)
  have BR2 := Aside0.mk ((hb2.block G (Array.getElem?_eq_some_iff.1 BR1.out).1).trans BR1.out)
  have YB2 := Aside0.mk (YB1.out.trans (hb2.mono (Nat.le_of_lt (Array.getElem?_eq_some_iff.1 BL1.out).1)))
  clear hb2 BL1 BR1 YB1
  rename_i K3 hK3
  have TAIL : ∀ W : World, W.heap[M]? = some (.cells #[.int .i64 L] 2 (0, 0)) → W.heap[G]? = some (.cells #[.int .i64 R] 2 (0, 0)) → Below M w W → K3 { tmps := #[.int .i64 a0, .int .i64 a1, .int .u8 a2, .pointer (some ⟨M, 0, none⟩), .pointer (some ⟨G, 0, none⟩), undef, .bool false, undef, undef, undef, undef, undef, undef, undef, undef, undef, undef, .bool true, .bool false, .int .i64 a0, .int .i64 L1, .int .i64 L, .int .i64 a1, .int .i64 R1, .int .i64 R, undef, undef, undef, undef, undef, undef, undef, undef, undef, undef, undef, undef, undef, undef, undef, undef, undef, undef, undef, undef, undef, undef, undef, undef, undef, undef, undef, undef, undef, undef, undef, undef, undef, undef, undef, undef, undef, undef, undef, undef, undef, undef, undef, undef, undef, undef, undef, undef, undef, undef, undef, undef, undef, undef, undef, undef, undef, undef, undef, undef, undef, undef, undef, undef, undef, undef, undef, undef, undef, undef, undef, undef, undef, undef, undef, undef, undef, undef, undef], defers := [] } W := by
    intro W hl hr hy
    have BL := Aside0.mk hl
    have BR := Aside0.mk hr
    have YB := Aside0.mk hy
    clear hl hr hy hL1 hL hR1 hR BL2 BR2 YB2
    have cl := (blk_cell BL.out 0).trans rfl
    have cr := (blk_cell BR.out 0).trans rfl
    have t1 : wrap64 a2 = a2 := by have := HP.out; unfold wrap64; omega
    have t2 : Int.tmod a2 40 = a2 % 40 := XNum.tm_nn HP.out.1
    have t3 : wrap64 (a2 % 40) = a2 % 40 := by unfold wrap64; omega
    have t4 : wrap64 (a2 % 40 + 1) = n := by rw [HNN.out]; have := HB0.out; unfold wrap64; omega
    refine hK3 _ _ ?_
    go_upto_region 5 with (fail)
    rw [HNN.out]
    have b7 := blk_new W (.cells #[.int .i64 n] 3 (0, 0))
    have y7 := below_alloc (Below.refl W.heap.size W) (.cells #[.int .i64 n] 3 (0, 0))
    generalize W.alloc (.cells #[.int .i64 n] 3 (0, 0)) = V0 at *
    obtain ⟨g7, hg7⟩ : ∃ g7, g7 = W.heap.size := ⟨_, rfl⟩
    have BL0 := Aside0.mk ((y7.block M (Array.getElem?_eq_some_iff.1 BL.out).1).trans BL.out)
    have BR0 := Aside0.mk ((y7.block G (Array.getElem?_eq_some_iff.1 BR.out).1).trans BR.out)
    have YB0 := Aside0.mk (YB.out.trans (y7.mono (Nat.le_of_lt (Array.getElem?_eq_some_iff.1 BL.out).1)))
    rw [← hg7] at b7 ⊢
    have BK0 := Aside0.mk b7
    clear b7 y7 hg7 cl cr BL BR YB t1 t2 t3 t4
    obtain ⟨v, a, b, c, e1, e2, e3, e4, f1, f2, f3, f4, f5, f6⟩ := HALL.out
    have E1 := Aside0.mk e1
    have E2 := Aside0.mk e2
    have E3 := Aside0.mk e3
    have E4 := Aside0.mk e4
    have F4 := Aside0.mk f4
    have F5 := Aside0.mk f5
    have F6 := Aside0.mk f6
    have r1 : decide (a < v) = false := decide_eq_false (by omega)
    have r2 : decide (b < v) = false := decide_eq_false (by omega)
    have r3 : decide (v < c) = false := decide_eq_false (by omega)
    have t1 : wrap64 (L + 1) = L + 1 := by have := HB0.out; unfold wrap64; omega
    have t2 : wrap64 (R + 1) = R + 1 := by have := HB0.out; unfold wrap64; omega
    have t3 : wrap64 (n + 1) = n + 1 := by have := HB0.out; unfold wrap64; omega
    clear e1 e2 e3 e4 f1 f2 f3 f4 f5 f6
    have cl := (blk_cell BL0.out 0).trans rfl
    have cr := (blk_cell BR0.out 0).trans rfl
    have ck := (blk_cell BK0.out 0).trans rfl
    go_upto_region 6 with (first | (go_at_call 17; go_must ((with_reducible refine (sched_Level.calls k L R n v 0 _ E1.out).mono ?_)); rintro e V1 ⟨rfl, hb⟩))
    have BL1 := Aside0.mk ((hb.block M (Array.getElem?_eq_some_iff.1 BL0.out).1).trans BL0.out)
    have BR1 := Aside0.mk ((hb.block G (Array.getElem?_eq_some_iff.1 BR0.out).1).trans BR0.out)
    have BK1 := Aside0.mk ((hb.block g7 (Array.getElem?_eq_some_iff.1 BK0.out).1).trans BK0.out)
    have YB1 := Aside0.mk (YB0.out.trans (hb.mono (Nat.le_of_lt (Array.getElem?_eq_some_iff.1 BL0.out).1)))
    clear hb cl cr ck BL0 BR0 BK0 YB0
    have cl := (blk_cell BL1.out 0).trans rfl
    have cr := (blk_cell BR1.out 0).trans rfl
    have ck := (blk_cell BK1.out 0).trans rfl
    go_upto_region 7 with (first | (go_at_call 17; go_must ((with_reducible refine (sched_Level.calls k (L + 1) R n a 0 _ E2.out).mono ?_)); rintro e V2 ⟨rfl, hb⟩))
    have BL2 := Aside0.mk ((hb.block M (Array.getElem?_eq_some_iff.1 BL1.out).1).trans BL1.out)
    have BR2 := Aside0.mk ((hb.block G (Array.getElem?_eq_some_iff.1 BR1.out).1).trans BR1.out)
    have BK2 := Aside0.mk ((hb.block g7 (Array.getElem?_eq_some_iff.1 BK1.out).1).trans BK1.out)
    have YB2 := Aside0.mk (YB1.out.trans (hb.mono (Nat.le_of_lt (Array.getElem?_eq_some_iff.1 BL1.out).1)))
    clear hb cl cr ck BL1 BR1 BK1 YB1
    have cl := (blk_cell BL2.out 0).trans rfl
    have cr := (blk_cell BR2.out 0).trans rfl
    have ck := (blk_cell BK2.out 0).trans rfl
    go_upto_region 8 with (first | (go_at_call 17; go_must ((with_reducible refine (sched_Level.calls k L (R + 1) n b 0 _ E3.out).mono ?_)); rintro e V3 ⟨rfl, hb⟩))
    have BL3 := Aside0.mk ((hb.block M (Array.getElem?_eq_some_iff.1 BL2.out).1).trans BL2.out)
    have BR3 := Aside0.mk ((hb.block G (Array.getElem?_eq_some_iff.1 BR2.out).1).trans BR2.out)
    have BK3 := Aside0.mk ((hb.block g7 (Array.getElem?_eq_some_iff.1 BK2.out).1).trans BK2.out)
    have YB3 := Aside0.mk (YB2.out.trans (hb.mono (Nat.le_of_lt (Array.getElem?_eq_some_iff.1 BL2.out).1)))
    clear hb cl cr ck BL2 BR2 BK2 YB2
    have cl := (blk_cell BL3.out 0).trans rfl
    have cr := (blk_cell BR3.out 0).trans rfl
    have ck := (blk_cell BK3.out 0).trans rfl
    go_upto_region 9 with (first | (go_at_call 17; go_must ((with_reducible refine (sched_Level.calls k L R (n + 1) c 0 _ E4.out).mono ?_)); rintro e V4 ⟨rfl, hb⟩))
    have BL4 := Aside0.mk ((hb.block M (Array.getElem?_eq_some_iff.1 BL3.out).1).trans BL3.out)
    have BR4 := Aside0.mk ((hb.block G (Array.getElem?_eq_some_iff.1 BR3.out).1).trans BR3.out)
    have BK4 := Aside0.mk ((hb.block g7 (Array.getElem?_eq_some_iff.1 BK3.out).1).trans BK3.out)
    have YB4 := Aside0.mk (YB3.out.trans (hb.mono (Nat.le_of_lt (Array.getElem?_eq_some_iff.1 BL3.out).1)))
    clear hb cl cr ck BL3 BR3 BK3 YB3
    go_upto_region 12 with (fail)
    clear r1 r2 r3 t1 t2 t3
    by_cases vz : v = 0
    · have q1 : (v == 0) = true := beq_iff_eq.2 vz
      have F5' := F5.out
      clear vz
      go_wp2_with (first | ((with_reducible refine gate_dst (N := 92) rfl ?_); go_must (refine SchedLeast.goesC (some 92) rfl Try.func20 (by kernel_rfl) rfl #[.int .i64 v, .pointer (some ⟨M, 0, none⟩), .pointer (some ⟨g7, 0, none⟩), .pointer (some ⟨G, 0, none⟩)] (by kernel_rfl) rfl rfl (by (try simp only [List.map_toArray, List.map_cons, List.map_nil]); first | done | rfl | (simp [Act.eval]; done) | (go_simp; done)) ?_; refine (lombardlaw08_SchedLeast_1.calls k v M L g7 n G R true _ BL4.out BK4.out BR4.out F5.out).mono ?_); rintro e V5 ⟨rfl, hb⟩; refine ⟨_, rfl, ?_⟩; have BL5 := Aside0.mk ((hb.block M (Array.getElem?_eq_some_iff.1 BL4.out).1).trans BL4.out); have BR5 := Aside0.mk ((hb.block G (Array.getElem?_eq_some_iff.1 BR4.out).1).trans BR4.out); have BK5 := Aside0.mk ((hb.block g7 (Array.getElem?_eq_some_iff.1 BK4.out).1).trans BK4.out); have YB5 := Aside0.mk (YB4.out.trans (hb.mono (Nat.le_of_lt (Array.getElem?_eq_some_iff.1 BL4.out).1))); clear hb))
      go_ret
      refine ⟨rfl, ?_⟩
      rw [← HM.out]
      exact YB5.out
    · have q1 : (v == 0) = false := beq_eq_false_iff_ne.2 vz
      have q2 : wrap64 (v - 1) = v - 1 := by have := F4.out; unfold wrap64; omega
      have F7 := Aside0.mk (F6.out vz)
      clear vz
      go_wp2_with (first | ((with_reducible refine gate_dst (N := 92) rfl ?_); go_must (refine SchedLeast.goesC (some 92) rfl Try.func20 (by kernel_rfl) rfl #[.int .i64 v, .pointer (some ⟨M, 0, none⟩), .pointer (some ⟨g7, 0, none⟩), .pointer (some ⟨G, 0, none⟩)] (by kernel_rfl) rfl rfl (by (try simp only [List.map_toArray, List.map_cons, List.map_nil]); first | done | rfl | (simp [Act.eval]; done) | (go_simp; done)) ?_; refine (lombardlaw08_SchedLeast_1.calls k v M L g7 n G R true _ BL4.out BK4.out BR4.out F5.out).mono ?_); rintro e V5 ⟨rfl, hb⟩; refine ⟨_, rfl, ?_⟩; have BL5 := Aside0.mk ((hb.block M (Array.getElem?_eq_some_iff.1 BL4.out).1).trans BL4.out); have BR5 := Aside0.mk ((hb.block G (Array.getElem?_eq_some_iff.1 BR4.out).1).trans BR4.out); have BK5 := Aside0.mk ((hb.block g7 (Array.getElem?_eq_some_iff.1 BK4.out).1).trans BK4.out); have YB5 := Aside0.mk (YB4.out.trans (hb.mono (Nat.le_of_lt (Array.getElem?_eq_some_iff.1 BL4.out).1))); clear hb) | ((with_reducible refine gate_dst (N := 100) rfl ?_); go_must (refine SchedLeast.goesC (some 100) rfl Try.func20 (by kernel_rfl) rfl #[.int .i64 (v - 1), .pointer (some ⟨M, 0, none⟩), .pointer (some ⟨g7, 0, none⟩), .pointer (some ⟨G, 0, none⟩)] (by kernel_rfl) rfl rfl (by (try simp only [List.map_toArray, List.map_cons, List.map_nil]); first | done | rfl | (simp [Act.eval]; done) | (go_simp; done)) ?_; refine (lombardlaw08_SchedLeast_1.calls k (v - 1) M L g7 n G R false _ BL5.out BK5.out BR5.out F7.out).mono ?_); rintro e V6 ⟨rfl, hb⟩; refine ⟨_, rfl, ?_⟩; have BL6 := Aside0.mk ((hb.block M (Array.getElem?_eq_some_iff.1 BL5.out).1).trans BL5.out); have BR6 := Aside0.mk ((hb.block G (Array.getElem?_eq_some_iff.1 BR5.out).1).trans BR5.out); have BK6 := Aside0.mk ((hb.block g7 (Array.getElem?_eq_some_iff.1 BK5.out).1).trans BK5.out); have YB6 := Aside0.mk (YB5.out.trans (hb.mono (Nat.le_of_lt (Array.getElem?_eq_some_iff.1 BL5.out).1))); clear hb))
      go_ret
      refine ⟨rfl, ?_⟩
      rw [← HM.out]
      exact YB6.out
  have TL := Aside0.mk TAIL
  clear TAIL hK3
  refine wp_region_held (S := fun _ => True) (by kernel_rfl) ?_
  have BL : Aside0 (({ W2 with drawn := W2.drawn + 1 } : World).heap[M]? = _) := Aside0.mk BL2.out
  have BR : Aside0 (({ W2 with drawn := W2.drawn + 1 } : World).heap[G]? = _) := Aside0.mk BR2.out
  have YB : Aside0 (Below M w { W2 with drawn := W2.drawn + 1 }) := Aside0.mk YB2.out.drew
  clear BL2 BR2 YB2
  generalize ({ W2 with drawn := W2.drawn + 1 } : World) = W3 at *
  refine wpAnyH_all (rs := [0, 3]) (by kernel_rfl) (by simp) ?_
  intro ix hix
  rcases (by simpa using hix : ix = 0 ∨ ix = 3) with rfl | rfl
  · clear hix
    have cl := (blk_cell BL.out 0).trans rfl
    have fl := blk_frozen BL.out 0
    have cr := (blk_cell BR.out 0).trans rfl
    have fr := blk_frozen BR.out 0
    refine SchedLeast.step (v := .int .i64 a0) (w' := W3) rfl rfl (by go_simp) ?_
    clear cl fl cr fr
    refine ⟨trivial, ?_⟩
    refine wpAnyH_take (i := 1) (v := .int .i64 L1) rfl (by kernel_rfl) (by kernel_rfl) (by kernel_rfl) (fun _ _ _ h => h) (Or.inl ⟨by kernel_rfl, fun W1 hS => by go_simp⟩) trivial ?_
    refine wpAnyH_take (i := 2) (v := .int .i64 L) rfl (by kernel_rfl) (by kernel_rfl) (by kernel_rfl) (fun _ _ _ h => h) (Or.inl ⟨by kernel_rfl, fun W1 hS => by go_simp⟩) trivial ?_
    refine wpAnyH_all (rs := [3, 6]) (by kernel_rfl) (by simp) ?_
    intro ix hix
    rcases (by simpa using hix : ix = 3 ∨ ix = 6) with rfl | rfl
    · clear hix
      have cl := (blk_cell BL.out 0).trans rfl
      have fl := blk_frozen BL.out 0
      have cr := (blk_cell BR.out 0).trans rfl
      have fr := blk_frozen BR.out 0
      refine SchedLeast.step (v := .int .i64 a1) (w' := W3) rfl rfl (by go_simp) ?_
      clear cl fl cr fr
      refine ⟨trivial, ?_⟩
      refine wpAnyH_take (i := 4) (v := .int .i64 R1) rfl (by kernel_rfl) (by kernel_rfl) (by kernel_rfl) (fun _ _ _ h => h) (Or.inl ⟨by kernel_rfl, fun W1 hS => by go_simp⟩) trivial ?_
      refine wpAnyH_take (i := 5) (v := .int .i64 R) rfl (by kernel_rfl) (by kernel_rfl) (by kernel_rfl) (fun _ _ _ h => h) (Or.inl ⟨by kernel_rfl, fun W1 hS => by go_simp⟩) trivial ?_
      refine wpAnyH_all (rs := [6]) (by kernel_rfl) (by simp) ?_
      intro ix hix
      obtain rfl : ix = 6 := by simpa using hix
      clear hix
      have cl := (blk_cell BL.out 0).trans rfl
      have fl := blk_frozen BL.out 0
      have cr := (blk_cell BR.out 0).trans rfl
      have fr := blk_frozen BR.out 0
      refine SchedLeast.skip (w' := W3.setCell ⟨M, 0, none⟩ (.int .i64 L)) rfl rfl rfl (by go_simp) ?_
      clear cl fl cr fr
      refine ⟨trivial, ?_⟩
      replace YB := Aside0.mk (Below.setCell YB.out (p := ⟨M, 0, none⟩) (by have := MG.out; first | exact Nat.le_refl _ | exact Nat.le_of_lt this) (.int .i64 L))
      have bl := Aside0.mk (blk_put BL.out 0 (.int .i64 L) rfl)
      have br := Aside0.mk ((Below.heap_setCell W3 ⟨M, 0, none⟩ (.int .i64 L) G (Nat.ne_of_gt MG.out)).trans BR.out)
      clear BL BR
      have BL := bl
      have BR := br
      clear bl br
      generalize W3.setCell ⟨M, 0, none⟩ (.int .i64 L) = W3a at *
      refine wpAnyH_all (rs := [7]) (by kernel_rfl) (by simp) ?_
      intro ix hix
      obtain rfl : ix = 7 := by simpa using hix
      clear hix
      have cl := (blk_cell BL.out 0).trans rfl
      have fl := blk_frozen BL.out 0
      have cr := (blk_cell BR.out 0).trans rfl
      have fr := blk_frozen BR.out 0
      refine SchedLeast.skip (w' := W3a.setCell ⟨G, 0, none⟩ (.int .i64 R)) rfl rfl rfl (by go_simp) ?_
      clear cl fl cr fr
      refine ⟨trivial, ?_⟩
      replace YB := Aside0.mk (Below.setCell YB.out (p := ⟨G, 0, none⟩) (by have := MG.out; first | exact Nat.le_refl _ | exact Nat.le_of_lt this) (.int .i64 R))
      have bl := Aside0.mk ((Below.heap_setCell W3a ⟨G, 0, none⟩ (.int .i64 R) M (Nat.ne_of_lt MG.out)).trans BL.out)
      have br := Aside0.mk (blk_put BR.out 0 (.int .i64 R) rfl)
      clear BL BR
      have BL := bl
      have BR := br
      clear bl br
      generalize W3a.setCell ⟨G, 0, none⟩ (.int .i64 R) = W3aa at *
      refine SchedLeast.pure_ (a' := { tmps := #[.int .i64 a0, .int .i64 a1, .int .u8 a2, .pointer (some ⟨M, 0, none⟩), .pointer (some ⟨G, 0, none⟩), undef, .bool false, undef, undef, undef, undef, undef, undef, undef, undef, undef, undef, .bool true, .bool false, .int .i64 a0, .int .i64 L1, .int .i64 L, .int .i64 a1, .int .i64 R1, .int .i64 R, undef, undef, undef, undef, undef, undef, undef, undef, undef, undef, undef, undef, undef, undef, undef, undef, undef, undef, undef, undef, undef, undef, undef, undef, undef, undef, undef, undef, undef, undef, undef, undef, undef, undef, undef, undef, undef, undef, undef, undef, undef, undef, undef, undef, undef, undef, undef, undef, undef, undef, undef, undef, undef, undef, undef, undef, undef, undef, undef, undef, undef, undef, undef, undef, undef, undef, undef, undef, undef, undef, undef, undef, undef, undef, undef, undef, undef, undef, undef], defers := [] }) (by kernel_rfl) ?_
      refine wpAnyH_done (by kernel_rfl) ?_ _
      exact TL.out W3aa BL.out BR.out YB.out
    · clear hix
      have cl := (blk_cell BL.out 0).trans rfl
      have fl := blk_frozen BL.out 0
      have cr := (blk_cell BR.out 0).trans rfl
      have fr := blk_frozen BR.out 0
      refine SchedLeast.skip (w' := W3.setCell ⟨M, 0, none⟩ (.int .i64 L)) rfl rfl rfl (by go_simp) ?_
      clear cl fl cr fr
      refine ⟨trivial, ?_⟩
      replace YB := Aside0.mk (Below.setCell YB.out (p := ⟨M, 0, none⟩) (by have := MG.out; first | exact Nat.le_refl _ | exact Nat.le_of_lt this) (.int .i64 L))
      have bl := Aside0.mk (blk_put BL.out 0 (.int .i64 L) rfl)
      have br := Aside0.mk ((Below.heap_setCell W3 ⟨M, 0, none⟩ (.int .i64 L) G (Nat.ne_of_gt MG.out)).trans BR.out)
      clear BL BR
      have BL := bl
      have BR := br
      clear bl br
      generalize W3.setCell ⟨M, 0, none⟩ (.int .i64 L) = W3a at *
      refine wpAnyH_all (rs := [3]) (by kernel_rfl) (by simp) ?_
      intro ix hix
      obtain rfl : ix = 3 := by simpa using hix
      clear hix
      have cl := (blk_cell BL.out 0).trans rfl
      have fl := blk_frozen BL.out 0
      have cr := (blk_cell BR.out 0).trans rfl
      have fr := blk_frozen BR.out 0
      refine SchedLeast.step (v := .int .i64 a1) (w' := W3a) rfl rfl (by go_simp) ?_
      clear cl fl cr fr
      refine ⟨trivial, ?_⟩
      refine wpAnyH_take (i := 4) (v := .int .i64 R1) rfl (by kernel_rfl) (by kernel_rfl) (by kernel_rfl) (fun _ _ _ h => h) (Or.inl ⟨by kernel_rfl, fun W1 hS => by go_simp⟩) trivial ?_
      refine wpAnyH_take (i := 5) (v := .int .i64 R) rfl (by kernel_rfl) (by kernel_rfl) (by kernel_rfl) (fun _ _ _ h => h) (Or.inl ⟨by kernel_rfl, fun W1 hS => by go_simp⟩) trivial ?_
      refine wpAnyH_all (rs := [7]) (by kernel_rfl) (by simp) ?_
      intro ix hix
      obtain rfl : ix = 7 := by simpa using hix
      clear hix
      have cl := (blk_cell BL.out 0).trans rfl
      have fl := blk_frozen BL.out 0
      have cr := (blk_cell BR.out 0).trans rfl
      have fr := blk_frozen BR.out 0
      refine SchedLeast.skip (w' := W3a.setCell ⟨G, 0, none⟩ (.int .i64 R)) rfl rfl rfl (by go_simp) ?_
      clear cl fl cr fr
      refine ⟨trivial, ?_⟩
      replace YB := Aside0.mk (Below.setCell YB.out (p := ⟨G, 0, none⟩) (by have := MG.out; first | exact Nat.le_refl _ | exact Nat.le_of_lt this) (.int .i64 R))
      have bl := Aside0.mk ((Below.heap_setCell W3a ⟨G, 0, none⟩ (.int .i64 R) M (Nat.ne_of_lt MG.out)).trans BL.out)
      have br := Aside0.mk (blk_put BR.out 0 (.int .i64 R) rfl)
      clear BL BR
      have BL := bl
      have BR := br
      clear bl br
      generalize W3a.setCell ⟨G, 0, none⟩ (.int .i64 R) = W3aa at *
      refine SchedLeast.pure_ (a' := { tmps := #[.int .i64 a0, .int .i64 a1, .int .u8 a2, .pointer (some ⟨M, 0, none⟩), .pointer (some ⟨G, 0, none⟩), undef, .bool false, undef, undef, undef, undef, undef, undef, undef, undef, undef, undef, .bool true, .bool false, .int .i64 a0, .int .i64 L1, .int .i64 L, .int .i64 a1, .int .i64 R1, .int .i64 R, undef, undef, undef, undef, undef, undef, undef, undef, undef, undef, undef, undef, undef, undef, undef, undef, undef, undef, undef, undef, undef, undef, undef, undef, undef, undef, undef, undef, undef, undef, undef, undef, undef, undef, undef, undef, undef, undef, undef, undef, undef, undef, undef, undef, undef, undef, undef, undef, undef, undef, undef, undef, undef, undef, undef, undef, undef, undef, undef, undef, undef, undef, undef, undef, undef, undef, undef, undef, undef, undef, undef, undef, undef, undef, undef, undef, undef, undef, undef], defers := [] }) (by kernel_rfl) ?_
      refine wpAnyH_done (by kernel_rfl) ?_ _
      exact TL.out W3aa BL.out BR.out YB.out
  · clear hix
    have cl := (blk_cell BL.out 0).trans rfl
    have fl := blk_frozen BL.out 0
    have cr := (blk_cell BR.out 0).trans rfl
    have fr := blk_frozen BR.out 0
    refine SchedLeast.step (v := .int .i64 a1) (w' := W3) rfl rfl (by go_simp) ?_
    clear cl fl cr fr
    refine ⟨trivial, ?_⟩
    refine wpAnyH_take (i := 4) (v := .int .i64 R1) rfl (by kernel_rfl) (by kernel_rfl) (by kernel_rfl) (fun _ _ _ h => h) (Or.inl ⟨by kernel_rfl, fun W1 hS => by go_simp⟩) trivial ?_
    refine wpAnyH_take (i := 5) (v := .int .i64 R) rfl (by kernel_rfl) (by kernel_rfl) (by kernel_rfl) (fun _ _ _ h => h) (Or.inl ⟨by kernel_rfl, fun W1 hS => by go_simp⟩) trivial ?_
    refine wpAnyH_all (rs := [0]) (by kernel_rfl) (by simp) ?_
    intro ix hix
    obtain rfl : ix = 0 := by simpa using hix
    clear hix
    have cl := (blk_cell BL.out 0).trans rfl
    have fl := blk_frozen BL.out 0
    have cr := (blk_cell BR.out 0).trans rfl
    have fr := blk_frozen BR.out 0
    refine SchedLeast.step (v := .int .i64 a0) (w' := W3) rfl rfl (by go_simp) ?_
    clear cl fl cr fr
    refine ⟨trivial, ?_⟩
    refine wpAnyH_take (i := 1) (v := .int .i64 L1) rfl (by kernel_rfl) (by kernel_rfl) (by kernel_rfl) (fun _ _ _ h => h) (Or.inl ⟨by kernel_rfl, fun W1 hS => by go_simp⟩) trivial ?_
    refine wpAnyH_take (i := 2) (v := .int .i64 L) rfl (by kernel_rfl) (by kernel_rfl) (by kernel_rfl) (fun _ _ _ h => h) (Or.inl ⟨by kernel_rfl, fun W1 hS => by go_simp⟩) trivial ?_
    refine wpAnyH_all (rs := [6]) (by kernel_rfl) (by simp) ?_
    intro ix hix
    obtain rfl : ix = 6 := by simpa using hix
    clear hix
    have cl := (blk_cell BL.out 0).trans rfl
    have fl := blk_frozen BL.out 0
    have cr := (blk_cell BR.out 0).trans rfl
    have fr := blk_frozen BR.out 0
    refine SchedLeast.skip (w' := W3.setCell ⟨M, 0, none⟩ (.int .i64 L)) rfl rfl rfl (by go_simp) ?_
    clear cl fl cr fr
    refine ⟨trivial, ?_⟩
    replace YB := Aside0.mk (Below.setCell YB.out (p := ⟨M, 0, none⟩) (by have := MG.out; first | exact Nat.le_refl _ | exact Nat.le_of_lt this) (.int .i64 L))
    have bl := Aside0.mk (blk_put BL.out 0 (.int .i64 L) rfl)
    have br := Aside0.mk ((Below.heap_setCell W3 ⟨M, 0, none⟩ (.int .i64 L) G (Nat.ne_of_gt MG.out)).trans BR.out)
    clear BL BR
    have BL := bl
    have BR := br
    clear bl br
    generalize W3.setCell ⟨M, 0, none⟩ (.int .i64 L) = W3a at *
    refine wpAnyH_all (rs := [7]) (by kernel_rfl) (by simp) ?_
    intro ix hix
    obtain rfl : ix = 7 := by simpa using hix
    clear hix
    have cl := (blk_cell BL.out 0).trans rfl
    have fl := blk_frozen BL.out 0
    have cr := (blk_cell BR.out 0).trans rfl
    have fr := blk_frozen BR.out 0
    refine SchedLeast.skip (w' := W3a.setCell ⟨G, 0, none⟩ (.int .i64 R)) rfl rfl rfl (by go_simp) ?_
    clear cl fl cr fr
    refine ⟨trivial, ?_⟩
    replace YB := Aside0.mk (Below.setCell YB.out (p := ⟨G, 0, none⟩) (by have := MG.out; first | exact Nat.le_refl _ | exact Nat.le_of_lt this) (.int .i64 R))
    have bl := Aside0.mk ((Below.heap_setCell W3a ⟨G, 0, none⟩ (.int .i64 R) M (Nat.ne_of_lt MG.out)).trans BL.out)
    have br := Aside0.mk (blk_put BR.out 0 (.int .i64 R) rfl)
    clear BL BR
    have BL := bl
    have BR := br
    clear bl br
    generalize W3a.setCell ⟨G, 0, none⟩ (.int .i64 R) = W3aa at *
    refine SchedLeast.pure_ (a' := { tmps := #[.int .i64 a0, .int .i64 a1, .int .u8 a2, .pointer (some ⟨M, 0, none⟩), .pointer (some ⟨G, 0, none⟩), undef, .bool false, undef, undef, undef, undef, undef, undef, undef, undef, undef, undef, .bool true, .bool false, .int .i64 a0, .int .i64 L1, .int .i64 L, .int .i64 a1, .int .i64 R1, .int .i64 R, undef, undef, undef, undef, undef, undef, undef, undef, undef, undef, undef, undef, undef, undef, undef, undef, undef, undef, undef, undef, undef, undef, undef, undef, undef, undef, undef, undef, undef, undef, undef, undef, undef, undef, undef, undef, undef, undef, undef, undef, undef, undef, undef, undef, undef, undef, undef, undef, undef, undef, undef, undef, undef, undef, undef, undef, undef, undef, undef, undef, undef, undef, undef, undef, undef, undef, undef, undef, undef, undef, undef, undef, undef, undef, undef, undef, undef, undef, undef], defers := [] }) (by kernel_rfl) ?_
    refine wpAnyH_done (by kernel_rfl) ?_ _
    exact TL.out W3aa BL.out BR.out YB.out
end Go.Proofs.Ytchpeobenlnemaa.S
end

section
namespace Go.Proofs.Ytchpeobenlnemaa.schedLeast
open Go.ChangeShapes Go.WideShapes Go.ChangeAt Go.RowKit
open Go.ChangeMaps (open_string shut_string)
set_option linter.unusedVariables false
theorem own : ownKnob Try.prog.godebug = none := by kernel_rfl
set_option maxRecDepth 100000 in
theorem lifted (os : Os) (started : os.Started) (H : Type) (enc : TypeId × Value → H) :
    ReturnsInHanded {} Try.checked os 7 .any (Rows.schedLeastSpec.pre6 enc Try.prog Try.f7 Rows.schedLeastRow.domain false) (Rows.schedLeastSpec.post enc Try.prog Try.f7 false true false false) := by
  refine returnsInHanded_of_change_sized (C := Try.checked) own started (by kernel_rfl) Try.func7
    (ChangeSpec.witness6 (enc := enc) (C := Try.checked) false ⟨#[], #[.int .i64 0, .int .i64 0, .int .u8 0], []⟩ 8 (by kernel_rfl) (by kernel_rfl) (by kernel_rfl) (by kernel_rfl)) ?_
  intro W base args ds gs before hval0 hW hcnd hsz0 _
  have hsz : (DataW.weightsEach Try.prog (Try.f7.params.toList ++ Rows.schedLeastSpec.plain.varTypes Try.prog) (ds ++ gs)).all (· ≤ reachBytes) = true := hsz0
  have hval : ∀ (j : Nat) t v, Try.f7.params[j]? = some t → args[j]? = some v → Value.okWide Try.prog W .any base t v := hval0
  have hW' := hW
  obtain ⟨p, q, hA0, hV, rfl, hfz, hnd⟩ := hW
  have hA : DataW.TrodAll enc Try.prog W 0 (fun _ => true) true Try.f7.params.toList args.toList ds p := hA0
  rw [Try.params7] at hA hval hsz
  obtain ⟨v0, vs0, d0, ds0, p0, q0, hargs, rfl, rfl, h0, r0⟩ := trodAll_cons hA
  obtain ⟨v1, vs1, d1, ds1, p1, q1, rfl, rfl, rfl, h1, r1⟩ := trodAll_cons r0
  obtain ⟨v2, vs2, d2, ds2, p2, q2, rfl, rfl, rfl, h2, r2⟩ := trodAll_cons r1
  obtain ⟨rfl, rfl, rfl⟩ := trodAll_nil r2
  obtain rfl : args = #[v0, v1, v2] := by cases args; simp_all
  obtain ⟨rfl, rfl⟩ := trodVars_none hV
  obtain ⟨a0, rfl, rfl, rfl, w0⟩ := open_int Try.underlying2 (hval 0 2 v0 rfl rfl) h0
  obtain ⟨a1, rfl, rfl, rfl, w1⟩ := open_int Try.underlying2 (hval 1 2 v1 rfl rfl) h1
  obtain ⟨a2, rfl, rfl, rfl, w2⟩ := open_int Try.underlying5 (hval 2 5 v2 rfl rfl) h2
  clear hA0 hval0 hsz0 hsz
  refine (S.lombardlaw08_SchedLeast.walk a0 a1 a2 W w2).mono fun e W' ⟨he, bel⟩ => ?_
  subst he
  exact ⟨_, rfl, _, _, _, [], _, [], hW', trodAll_mk1 (shut_bool Try.underlying4 _), (trodAll_cons_mk (shut_int Try.underlying2 w0) (trodAll_cons_mk (shut_int Try.underlying2 w1) (trodAll_cons_mk (shut_int Try.underlying5 w2) trodAll_mk0))), rfl, bel.frame _, fun h => by cases h⟩
theorem over : Rows.schedLeastRow.holds Try.pinned (OpenSpec.ofChange Rows.schedLeastSpec) :=
  OpenClaim.holds_of_wide 7 Try.f7 rfl rfl rfl rfl rfl rfl rfl ⟨rfl, rfl, rfl, rfl, rfl⟩ rfl rfl rfl rfl rfl (by kernel_rfl) Try.func7 (by kernel_rfl)
    (of_decide_eq_true (by kernel_rfl)) (by unfold Func.isWrapper; first | (rw [if_pos (by decide +kernel)]; kernel_rfl) | (rw [if_neg (by decide +kernel)]; exact ⟨rfl, rfl⟩))
    (fun os started H enc _ => lifted os started H enc)
theorem proved : Rows.SchedLeastSaid := over
#print axioms proved
end Go.Proofs.Ytchpeobenlnemaa.schedLeast
namespace Go.Proofs.Ytchpeobenlnemaa
/-- The row, under a short name, for the claim. -/
theorem schedLeast_holds : Rows.SchedLeastSaid := schedLeast.proved
end Go.Proofs.Ytchpeobenlnemaa
end
