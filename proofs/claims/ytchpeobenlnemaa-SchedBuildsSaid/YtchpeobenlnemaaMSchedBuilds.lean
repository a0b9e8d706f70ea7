/- The statement SchedBuildsSaid: for every input the law returns true, and each argument reads afterwards as it read before. Conditions: none. -/
import Derived.Test.YtchpeobenlnemaaMSchedBuilds1
import Derived.Test.YtchpeobenlnemaaSxLombardref02MulDiv
import Derived.Test.YtchpeobenlnemaaSxLombardref03Interest
import Derived.Test.YtchpeobenlnemaaSxLombardref08Level
import Derived.Test.YtchpeobenlnemaaMSchedBuilds2
import Derived.Test.YtchpeobenlnemaaSxLombardref01May
import Derived.Test.YtchpeobenlnemaaSx0
import Derived.Test.YtchpeobenlnemaaSxLombardref01Split
import Derived.Test.YtchpeobenlnemaaXWalk
import Derived.OrdersHeld
import Derived.LoopTactic
import Derived.Deep.DeepMust
import Derived.Test.YtchpeobenlnemaaWWords
import Derived.ChangeArms
import Derived.DataReads
import Derived.WideShapes
import Derived.Deep.Slices
import Derived.Test.YtchpeobenlnemaaRows
import Derived.WalkKit
import Derived.ProofKit
import Derived.OpenShut
import Derived.ShutString
import Derived.ChangeOld
import Derived.Below
import Derived.SizedLaws
import Derived.Carry
section
namespace Go.Proofs.Ytchpeobenlnemaa.Rnd
set_option linter.unusedVariables false
set_option linter.unusedSimpArgs false

/-- A over b rounded to the nearer whole number, to the even one of two; b above 0. -/
def near (A b : Int) : Int := if 2 * (A % b) > b ∨ 2 * (A % b) = b ∧ (A / b) % 2 = 1 then A / b + 1 else A / b

theorem div_split (A b : Int) (hb : 0 < b) : A = b * (A / b) + A % b ∧ 0 ≤ A % b ∧ A % b < b :=
 ⟨(Int.mul_ediv_add_emod A b).symm, Int.emod_nonneg A (by omega), Int.emod_lt_of_pos A hb⟩

theorem near_spec {A b : Int} (hb : 0 < b) : 2 * (b * near A b) ≤ 2 * A + b ∧ 2 * A ≤ 2 * (b * near A b) + b ∧
  (2 * (b * near A b) = 2 * A + b ∨ 2 * A = 2 * (b * near A b) + b → near A b % 2 = 0) := by
 obtain ⟨h, h0, h1⟩ := div_split A b hb
 unfold near
 generalize A % b = r at *
 generalize A / b = q at *
 split
 ·rw [Int.mul_add, Int.mul_one]
  generalize b * q = m at *
  refine ⟨by omega, by omega, by omega⟩
 ·generalize b * q = m at *
  refine ⟨by omega, by omega, by omega⟩

theorem mul_step {b N M : Int} (hb : 0 < b) (h : N < M) : b * N + b ≤ b * M := by
 have : b * (N + 1) ≤ b * M := Int.mul_le_mul_of_nonneg_left (by omega) (by omega)
 rw [Int.mul_add, Int.mul_one] at this
 exact this

theorem near_mono {A A' b : Int} (hb : 0 < b) (h : A ≤ A') : near A b ≤ near A' b := by
 obtain ⟨a1, a2, a3⟩ := near_spec (A := A) hb
 obtain ⟨b1, b2, b3⟩ := near_spec (A := A') hb
 generalize near A b = N at *
 generalize near A' b = M at *
 by_cases c : N ≤ M
 ·exact c
 have s := mul_step hb (show M < N by omega)
 have s2 : M + 2 ≤ N → b * M + 2 * b ≤ b * N := fun h => by
  have := mul_step hb (show M < M + 1 by omega)
  have := mul_step hb (show M + 1 < N by omega)
  omega
 by_cases d : M + 2 ≤ N
 ·have := s2 d
  omega
 have e : N = M + 1 := by omega
 subst e
 rw [Int.mul_add, Int.mul_one] at *
 omega

theorem near_uniq {A b N : Int} (hb : 0 < b) (h1 : 2 * (b * N) ≤ 2 * A + b) (h2 : 2 * A ≤ 2 * (b * N) + b)
  (h3 : 2 * (b * N) = 2 * A + b ∨ 2 * A = 2 * (b * N) + b → N % 2 = 0) : near A b = N := by
 obtain ⟨a1, a2, a3⟩ := near_spec (A := A) hb
 generalize near A b = M at *
 rcases Int.lt_trichotomy M N with c | c | c
 ·have s := mul_step hb c
  by_cases d : M + 2 ≤ N
  ·have := mul_step hb (show M < M + 1 by omega)
   have := mul_step hb (show M + 1 < N by omega)
   omega
  have e : N = M + 1 := by omega
  subst e
  rw [Int.mul_add, Int.mul_one] at *
  omega
 ·exact c
 ·have s := mul_step hb c
  by_cases d : N + 2 ≤ M
  ·have := mul_step hb (show N < N + 1 by omega)
   have := mul_step hb (show N + 1 < M by omega)
   omega
  have e : M = N + 1 := by omega
  subst e
  rw [Int.mul_add, Int.mul_one] at *
  omega

theorem near_neg {A b : Int} (hb : 0 < b) : near (-A) b = -near A b := by
 obtain ⟨a1, a2, a3⟩ := near_spec (A := A) hb
 have e : b * -near A b = -(b * near A b) := Int.mul_neg _ _
 refine near_uniq hb ?_ ?_ ?_ <;> rw [e] <;> omega

theorem near_exact {b N : Int} (hb : 0 < b) : near (b * N) b = N := near_uniq hb (by omega) (by omega) (by omega)

/-- the quotient: way 0 downwards, way 1 to the nearer one -/
def rnd (A b way : Int) : Int := if way = 0 then (if b < 0 then (-A) / (-b) else A / b) else (if b < 0 then near (-A) (-b) else near A b)

theorem floor_neg {X b : Int} (hb : 0 < b) : (-X) / b = -(X / b + if X % b > 0 then 1 else 0) := by
 obtain ⟨h, h0, h1⟩ := div_split X b hb
 obtain ⟨g, g0, g1⟩ := div_split (-X) b hb
 generalize X % b = r at *
 generalize X / b = q at *
 generalize (-X) % b = r' at *
 generalize (-X) / b = q' at *
 -- b q' + r' = -(b q + r)
 split
 ·rcases Int.lt_trichotomy q' (-(q + 1)) with c | c | c
  ·have := mul_step hb c
   rw [Int.mul_neg, Int.mul_add, Int.mul_one] at this
   omega
  ·omega
  ·have := mul_step hb c
   rw [Int.mul_neg, Int.mul_add, Int.mul_one] at this
   omega
 ·rcases Int.lt_trichotomy q' (-q) with c | c | c
  ·have := mul_step hb c
   rw [Int.mul_neg] at this
   omega
  ·omega
  ·have := mul_step hb c
   rw [Int.mul_neg] at this
   omega

/-- whether the size of a quotient is rounded up -/
def upf (way X y : Int) (less : Bool) : Bool := if way = 0 then less && decide (X % y > 0) else decide (2 * (X % y) > y ∨ 2 * (X % y) = y ∧ (X / y) % 2 = 1)
/-- by sizes and signs, as the code does it -/
theorem rnd_sizes {A b way X y : Int} (hw : way = 0 ∨ way = 1) (hb : b ≠ 0) (hX : X = if A < 0 then -A else A) (hy : y = if b < 0 then -b else b) :
  rnd A b way = if (decide (A < 0) != decide (b < 0)) = true then -(X / y + (if upf way X y (decide (A < 0) != decide (b < 0)) = true then 1 else 0)) else X / y + (if upf way X y (decide (A < 0) != decide (b < 0)) = true then 1 else 0) := by
 unfold upf
 have hy0 : 0 < y := by subst hy; split <;> omega
 have hX0 : 0 ≤ X := by subst hX; split <;> omega
 rcases hw with rfl | rfl
 ·unfold rnd
  rw [if_pos rfl]
  simp only [if_true]
  by_cases c : A < 0
  ·rw [if_pos c] at hX
   by_cases d : b < 0
   ·rw [if_pos d] at hy ⊢
    rw [decide_eq_true c, decide_eq_true d, ← hX, ← hy]
    simp
   ·rw [if_neg d] at hy ⊢
    rw [decide_eq_true c, decide_eq_false d, ← hy]
    have : A = -X := by omega
    rw [this, floor_neg hy0]
    simp
  ·rw [if_neg c] at hX
   by_cases d : b < 0
   ·rw [if_pos d] at hy ⊢
    rw [decide_eq_false c, decide_eq_true d, ← hX, ← hy, floor_neg hy0]
    simp
   ·rw [if_neg d] at hy ⊢
    rw [decide_eq_false c, decide_eq_false d, ← hX, ← hy]
    simp
 ·unfold rnd
  rw [if_neg (by omega)]
  simp only [show ((1 : Int) = 0) = False by simp, if_false]
  have hn : (X / y + if decide (2 * (X % y) > y ∨ 2 * (X % y) = y ∧ X / y % 2 = 1) = true then 1 else 0) = near X y := by
   unfold near
   simp only [decide_eq_true_eq]
   split <;> omega
  rw [hn]
  by_cases c : A < 0
  ·rw [if_pos c] at hX
   by_cases d : b < 0
   ·rw [if_pos d] at hy ⊢
    rw [decide_eq_true c, decide_eq_true d, ← hX, ← hy]
    simp
   ·rw [if_neg d] at hy ⊢
    rw [decide_eq_true c, decide_eq_false d, ← hy]
    have : A = -X := by omega
    rw [this, near_neg hy0]
    simp
  ·rw [if_neg c] at hX
   by_cases d : b < 0
   ·rw [if_pos d] at hy ⊢
    rw [decide_eq_false c, decide_eq_true d, ← hX, ← hy, near_neg hy0]
    simp
   ·rw [if_neg d] at hy ⊢
    rw [decide_eq_false c, decide_eq_false d, ← hX, ← hy]
    simp
end Go.Proofs.Ytchpeobenlnemaa.Rnd
end

section
namespace Go.Proofs.Ytchpeobenlnemaa.XWide
set_option linter.unusedVariables false
set_option linter.unusedSimpArgs false
open Go.RowKit Go.Proofs.Ytchpeobenlnemaa.S Go.Proofs.Ytchpeobenlnemaa.XNum Go.Proofs.Ytchpeobenlnemaa.XBits Go.Proofs.Ytchpeobenlnemaa.Rnd Go.Proofs.YtchpeobenlnemaaW.PrintWords

abbrev I64 (n : Int) : Prop := -9223372036854775808 ≤ n ∧ n ≤ 9223372036854775807
abbrev U64 (n : Int) : Prop := 0 ≤ n ∧ n < 18446744073709551616

theorem and_ones {b : Int} (hb : I64 b) : Go.bits .and .i64 (-1) b = b := by
 show IntKind.i64.wrap (((BitVec.ofInt 64 (-1) &&& BitVec.ofInt 64 b).toNat : Nat) : Int) = b
 have e : BitVec.ofInt 64 (-1) = BitVec.allOnes 64 := by decide
 rw [e, BitVec.allOnes_and, BitVec.toNat_ofInt]
 simp only [IntKind.wrap, IntKind.bits, IntKind.signed, if_true]
 have := hb.1
 have := hb.2
 simp
 omega
theorem and_none (b : Int) : Go.bits .and .i64 0 b = 0 := by
 show IntKind.i64.wrap (((BitVec.ofInt 64 0 &&& BitVec.ofInt 64 b).toNat : Nat) : Int) = 0
 have e : BitVec.ofInt 64 0 = 0#64 := by decide
 rw [e, BitVec.zero_and]
 decide
theorem and1 {x : Int} (h0 : 0 ≤ x) (h1 : x < 18446744073709551616) : Go.bits .and .u64 x 1 = x % 2 := bits_mask .u64 64 (by decide) wraps_u64 1 (by decide) x h0 h1

theorem mul_bd {a b C D : Int} (ha : -C ≤ a) (ha' : a ≤ C) (hb : -D ≤ b) (hb' : b ≤ D) : -(C * D) ≤ a * b ∧ a * b ≤ C * D := by
 have e : (a * b).natAbs ≤ C.natAbs * D.natAbs := by
  rw [Int.natAbs_mul]
  exact Nat.mul_le_mul (by omega) (by omega)
 have f : C * D = ((C.natAbs * D.natAbs : Nat) : Int) := by
  rw [Int.natCast_mul, Int.natAbs_of_nonneg (by omega), Int.natAbs_of_nonneg (by omega)]
 rw [f]
 omega
theorem mul_i64 {a b : Int} (ha : I64 a) (hb : I64 b) : -85070591730234615865843651857942052864 ≤ a * b ∧ a * b ≤ 85070591730234615865843651857942052864 := by
 have := mul_bd (C := 9223372036854775808) (D := 9223372036854775808) (a := a) (b := b) (by have := ha.1; omega) (by have := ha.2; omega) (by have := hb.1; omega) (by have := hb.2; omega)
 omega

theorem mul {a b : Int} (ha : I64 a) (hb : I64 b) : wide_Mul.f a b = some (a * b / 18446744073709551616, a * b % 18446744073709551616) := by
 have hm := mul_i64 ha hb
 obtain ⟨a0, a1⟩ := ha
 obtain ⟨b0, b1⟩ := hb
 unfold wide_Mul.f
 rw [wu a, wu b, mul64 (by omega) (by omega) (by omega) (by omega)]
 simp only [Option.bind_some]
 by_cases ca : a < 0
 ·rw [show a / 9223372036854775808 = -1 by omega, and_ones ⟨b0, b1⟩, show a % 18446744073709551616 = a + 18446744073709551616 by omega]
  by_cases cb : b < 0
  ·rw [show b / 9223372036854775808 = -1 by omega, and_ones ⟨a0, a1⟩, show b % 18446744073709551616 = b + 18446744073709551616 by omega]
   have e : (a + 18446744073709551616) * (b + 18446744073709551616) = a * b + a * 18446744073709551616 + b * 18446744073709551616 + 18446744073709551616 * 18446744073709551616 := by grind
   rw [e]
   unfold wrap64
   generalize a * b = m at *
   congr 2 <;> omega
  ·rw [show b / 9223372036854775808 = 0 by omega, and_none, show b % 18446744073709551616 = b by omega]
   have e : (a + 18446744073709551616) * b = a * b + b * 18446744073709551616 := by grind
   rw [e]
   unfold wrap64
   generalize a * b = m at *
   congr 2 <;> omega
 ·rw [show a / 9223372036854775808 = 0 by omega, and_none, show a % 18446744073709551616 = a by omega]
  by_cases cb : b < 0
  ·rw [show b / 9223372036854775808 = -1 by omega, and_ones ⟨a0, a1⟩, show b % 18446744073709551616 = b + 18446744073709551616 by omega]
   have e : a * (b + 18446744073709551616) = a * b + a * 18446744073709551616 := by grind
   rw [e]
   unfold wrap64
   generalize a * b = m at *
   congr 2 <;> omega
  ·rw [show b / 9223372036854775808 = 0 by omega, and_none, show b % 18446744073709551616 = b by omega]
   unfold wrap64
   generalize a * b = m at *
   congr 2 <;> omega

theorem turned {hi lo : Int} (h : I64 hi) (l : U64 lo) : ∃ h' l', wide_turned.f hi lo = some (h', l') ∧ I64 h' ∧ U64 l' ∧
  (h' % 18446744073709551616) * 18446744073709551616 + l' = (-(hi * 18446744073709551616 + lo)) % 340282366920938463463374607431768211456 := by
 obtain ⟨h0, h1⟩ := h
 obtain ⟨l0, l1⟩ := l
 unfold wide_turned.f
 rw [if_pos l0, if_pos l1]
 refine ⟨_, _, rfl, ?_, ?_, ?_⟩
 ·unfold wrap64
  omega
 ·unfold XWalk.d64
  omega
 ·unfold wrap64 XWalk.b64 XWalk.d64
  split <;> omega

/-- A quotient, or the error. -/
def mdiv (A b way : Int) : Int × Int :=
 if way < 0 ∨ way ≥ 2 then (0, 2) else if b = 0 then (0, 4) else if -9223372036854775808 ≤ rnd A b way ∧ rnd A b way ≤ 9223372036854775807 then (rnd A b way, 0) else (0, 3)

/-- what is told of a quotient without its sign -/
def toldQ (Q : Int) (less : Bool) : Int × Int := if less = true then (if Q ≤ 9223372036854775808 then (-Q, 0) else (0, 3)) else (if Q < 9223372036854775808 then (Q, 0) else (0, 3))

theorem j3_told {h l rest by_ : Int} {less : Bool} (h0 : 0 ≤ h) (l0 : 0 ≤ l) (l1 : l < 18446744073709551616) (k : Nat) : wide_Div.j3 (k + 2) h l rest by_ less = some (toldQ (h * 18446744073709551616 + l) less) := by
 simp only [wide_Div.j3]
 unfold toldQ
 by_cases c : h > 0
 ·rw [if_pos c, if_neg (c := h * 18446744073709551616 + l ≤ _) (by omega), if_neg (c := h * 18446744073709551616 + l < _) (by omega)]
  simp
 ·rw [if_neg c, show h * 18446744073709551616 + l = l by omega]
  cases less
  ·simp only [wide_Div.j4, Bool.false_eq_true, if_false]
   split
   ·rw [w64 (by omega) (by omega)]
   ·rfl
  ·simp only [wide_Div.j4, if_true]
   by_cases d : l ≤ 9223372036854775808
   ·rw [decide_eq_true d, if_pos d]
    simp only [if_true]
    congr 2
    rw [wu]
    unfold wrap64
    omega
   ·rw [decide_eq_false d, if_neg d]
    simp

theorem j5_told {h l rest by_ : Int} {less : Bool} (h0 : 0 ≤ h) (l0 : 0 ≤ l) (l1 : l < 18446744073709551616) (k : Nat) : wide_Div.j5 (k + 2) h l rest by_ less = some (toldQ (h * 18446744073709551616 + l) less) := by
 simp only [wide_Div.j5]
 unfold toldQ
 by_cases c : h > 0
 ·rw [if_pos c, if_neg (c := h * 18446744073709551616 + l ≤ _) (by omega), if_neg (c := h * 18446744073709551616 + l < _) (by omega)]
  simp
 ·rw [if_neg c, show h * 18446744073709551616 + l = l by omega]
  cases less
  ·simp only [wide_Div.j6, Bool.false_eq_true, if_false]
   split
   ·rw [w64 (by omega) (by omega)]
   ·rfl
  ·simp only [wide_Div.j6, if_true]
   by_cases d : l ≤ 9223372036854775808
   ·rw [decide_eq_true d, if_pos d]
    simp only [if_true]
    congr 2
    rw [wu]
    unfold wrap64
    omega
   ·rw [decide_eq_false d, if_neg d]
    simp

theorem near_told {q0 lo rest y : Int} {less : Bool} (r0 : 0 ≤ rest) (r1 : rest < y) (y1 : y < 18446744073709551616) (l0 : 0 ≤ lo) (l1 : lo < 18446744073709551616) :
  wide_quotient_near.f q0 lo rest y less = some (decide (2 * rest > y ∨ 2 * rest = y ∧ lo % 2 = 1)) := by
 unfold wide_quotient_near.f
 by_cases c : rest / 9223372036854775808 = 1
 ·rw [if_pos c, decide_eq_true (by omega)]
 ·rw [if_neg c, wu_id (n := rest * 2) (by omega) (by omega), and1 l0 l1]
  by_cases d : rest * 2 > y
  ·rw [if_pos d, decide_eq_true (by omega)]
  ·rw [if_neg d]
   by_cases e : rest * 2 = y
   ·rw [if_pos e]
    congr 1
    rw [Bool.eq_iff_iff, beq_iff_eq, decide_eq_true_iff]
    omega
   ·rw [if_neg e, decide_eq_false (by omega)]

/-- what is told of the sizes, by the law of sizes and signs -/
theorem told_rnd {A b way X y : Int} (hw : way = 0 ∨ way = 1) (hb : b ≠ 0) (hX : X = if A < 0 then -A else A) (hy : y = if b < 0 then -b else b) :
  toldQ (X / y + if upf way X y (decide (A < 0) != decide (b < 0)) = true then 1 else 0) (decide (A < 0) != decide (b < 0)) = mdiv A b way := by
 have this := rnd_sizes hw hb hX hy
 have hy0 : 0 < y := by subst hy; split <;> omega
 have hX0 : 0 ≤ X := by subst hX; split <;> omega
 have q0 : 0 ≤ X / y := Int.ediv_nonneg hX0 (by omega)
 unfold mdiv
 rw [if_neg (c := way < 0 ∨ way ≥ 2) (by omega), if_neg hb, this]
 generalize upf way X y (decide (A < 0) != decide (b < 0)) = up
 generalize (decide (A < 0) != decide (b < 0)) = less
 have p0 : 0 ≤ X / y + if up = true then (1 : Int) else 0 := by
  split <;> omega
 generalize (X / y + if up = true then (1 : Int) else 0) = Q at *
 unfold toldQ
 cases less
 ·simp only [Bool.false_eq_true, if_false]
  by_cases c : Q < 9223372036854775808
  ·rw [if_pos c, if_pos (by omega)]
  ·rw [if_neg c, if_neg (by omega)]
 ·simp only [if_true]
  by_cases c : Q ≤ 9223372036854775808
  ·rw [if_pos c, if_pos (by omega)]
  ·rw [if_neg c, if_neg (by omega)]

/-- the sum of a word and 1, with what goes over -/
theorem up_one {qh ql : Int} (h0 : 0 ≤ qh) (h1 : qh ≤ 9223372036854775808) (l0 : 0 ≤ ql) (l1 : ql < 18446744073709551616) :
  IntKind.u64.wrap (qh + XWalk.c64 ql 1 0) * 18446744073709551616 + XWalk.s64 ql 1 0 = qh * 18446744073709551616 + ql + 1 ∧ 0 ≤ IntKind.u64.wrap (qh + XWalk.c64 ql 1 0) ∧ 0 ≤ XWalk.s64 ql 1 0 ∧ XWalk.s64 ql 1 0 < 18446744073709551616 := by
 rw [wu]
 unfold XWalk.c64 XWalk.s64
 refine ⟨by omega, by omega, by omega, by omega⟩

theorem div {hi lo b way : Int} (h : I64 hi) (l : U64 lo) (hb : I64 b) {k : Nat} (hk : 30 ≤ k) : wide_Div.f k hi lo b way = some (mdiv (hi * 18446744073709551616 + lo) b way) := by
 obtain ⟨k, rfl⟩ : ∃ m, k = m + 30 := ⟨k - 30, by omega⟩
 unfold wide_Div.f
 by_cases c : way < 0 ∨ way ≥ 2
 ·have e : mdiv (hi * 18446744073709551616 + lo) b way = (0, 2) := by unfold mdiv; rw [if_pos c]
  rw [e]
  by_cases c1 : way < 0
  ·rw [if_pos c1]
   simp only [wide_Div.j0, if_true]
  ·rw [if_neg c1, decide_eq_true (by omega)]
   simp only [wide_Div.j0, if_true]
 rw [if_neg (by omega), decide_eq_false (by omega)]
 simp only [wide_Div.j0, Bool.false_eq_true, if_false]
 by_cases cb : b = 0
 ·rw [if_pos cb]
  unfold mdiv
  rw [if_neg c, if_pos cb]
 rw [if_neg cb]
 have hw : way = 0 ∨ way = 1 := by omega
 obtain ⟨h0, h1⟩ := h
 obtain ⟨l0, l1⟩ := l
 obtain ⟨b0, b1⟩ := hb
 have main : ∀ xh xl : Int, U64 xl → I64 xh → (xh % 18446744073709551616) * 18446744073709551616 + xl = (if hi * 18446744073709551616 + lo < 0 then -(hi * 18446744073709551616 + lo) else hi * 18446744073709551616 + lo) →
   wide_Div.j1 (k + 29) b way (IntKind.u64.wrap b) hi lo xh xl = some (mdiv (hi * 18446744073709551616 + lo) b way) := by
  intro xh xl ⟨xl0, xl1⟩ ⟨xh0, xh1⟩ hX
  have j2 : ∀ y : Int, y = (if b < 0 then -b else b) → wide_Div.j2 (k + 28) b way y hi lo xh xl = some (mdiv (hi * 18446744073709551616 + lo) b way) := by
   intro y hy
   have hy0 : 0 < y := by subst hy; split <;> omega
   have hy1 : y ≤ 9223372036854775808 := by subst hy; split <;> omega
   simp only [wide_Div.j2]
   rw [if_neg (by omega), wu xh, td_nn (by omega), tm_nn (by omega)]
   have x0 : 0 ≤ xh % 18446744073709551616 := by omega
   have x1 : xh % 18446744073709551616 ≤ 9223372036854775808 := by
    split at hX <;> omega
   generalize xh % 18446744073709551616 = X1 at *
   have a := Int.mul_ediv_add_emod X1 y
   have a0 := Int.emod_nonneg X1 (show y ≠ 0 by omega)
   have a1 := Int.emod_lt_of_pos X1 hy0
   have q0 : 0 ≤ X1 / y := Int.ediv_nonneg x0 (by omega)
   have q1 : X1 / y ≤ X1 := Int.ediv_le_self _ x0
   rw [div64 a0 a1 xl0 xl1 (by omega) (by omega)]
   simp only [Option.bind_some]
   generalize X1 / y = qh at *
   generalize X1 % y = rest at *
   have m := Int.mul_ediv_add_emod (rest * 18446744073709551616 + xl) y
   have m0 := Int.emod_nonneg (rest * 18446744073709551616 + xl) (show y ≠ 0 by omega)
   have m1 := Int.emod_lt_of_pos (rest * 18446744073709551616 + xl) hy0
   have p0 : 0 ≤ (rest * 18446744073709551616 + xl) / y := Int.ediv_nonneg (by omega) (by omega)
   have p1 : (rest * 18446744073709551616 + xl) / y < 18446744073709551616 := by
    rw [Int.ediv_lt_iff_lt_mul hy0, Int.mul_comm]
    omega
   generalize (rest * 18446744073709551616 + xl) / y = ql at *
   generalize (rest * 18446744073709551616 + xl) % y = rr at *
   have whole := Knuth.quot_uniq (A := X1 * 18446744073709551616 + xl) (b := y) (q := qh * 18446744073709551616 + ql) (r := rr) hy0 (by
    rw [Int.mul_add, ← Int.mul_assoc]
    generalize y * qh = u at *
    generalize y * ql = v at *
    omega) m0 m1
   have T := told_rnd (A := hi * 18446744073709551616 + lo) (b := b) (way := way) (X := X1 * 18446744073709551616 + xl) (y := y) hw cb hX hy
   unfold upf at T
   rw [whole.1, whole.2] at T
   have s : (!(decide (hi < 0) == decide (b < 0))) = (decide (hi * 18446744073709551616 + lo < 0) != decide (b < 0)) := by
    rw [show decide (hi < 0) = decide (hi * 18446744073709551616 + lo < 0) from decide_eq_decide.2 (by omega)]
    rfl
   rw [s, ← T]
   generalize (decide (hi * 18446744073709551616 + lo < 0) != decide (b < 0)) = less
   obtain ⟨u1, u2, u3, u4⟩ := up_one (qh := qh) (ql := ql) q0 (by omega) p0 p1
   rcases hw with rfl | rfl
   ·simp only [if_true]
    have F : wide_quotient_floor.f (IntKind.u64.wrap qh) ql rr y less = some (less && decide (rr > 0)) := by
     unfold wide_quotient_floor.f
     cases less <;> simp
    rw [F]
    simp only [Option.bind_some]
    rw [wu_id (n := qh) q0 (by omega)]
    by_cases d : (less && decide (rr > 0)) = true
    ·rw [if_pos d, if_pos d, if_pos p0]
     rw [j3_told u2 u3 u4, u1]
     first | done | rfl
    ·rw [if_neg d, if_neg d]
     rw [j3_told q0 p0 p1]
     simp
   ·simp only [show ((1 : Int) = 0) = False by simp, if_false, if_true]
    rw [near_told m0 m1 (by omega) p0 p1]
    simp only [Option.bind_some]
    rw [wu_id (n := qh) q0 (by omega)]
    have par : (qh * 18446744073709551616 + ql) % 2 = ql % 2 := by omega
    rw [par]
    by_cases d : (decide (2 * rr > y ∨ 2 * rr = y ∧ ql % 2 = 1)) = true
    ·rw [if_pos d, if_pos d, if_pos p0]
     rw [j5_told u2 u3 u4, u1]
     first | done | rfl
    ·rw [if_neg d, if_neg d]
     rw [j5_told q0 p0 p1]
     simp
  simp only [wide_Div.j1]
  by_cases d : b < 0
  ·rw [if_pos d]
   refine j2 _ ?_
   rw [wu, wu, if_pos d]
   omega
  ·rw [if_neg d]
   refine j2 _ ?_
   rw [wu, if_neg d]
   omega
 by_cases d : hi < 0
 ·rw [if_pos d]
  obtain ⟨h', l', e, i1, i2, i3⟩ := turned ⟨h0, h1⟩ ⟨l0, l1⟩
  rw [e]
  simp only [Option.bind_some]
  refine main h' l' i2 i1 ?_
  rw [i3, if_pos (by omega)]
  omega
 ·rw [if_neg d]
  refine main hi lo ⟨l0, l1⟩ ⟨h0, h1⟩ ?_
  rw [if_neg (by omega)]
  omega

theorem mulDiv {a b c way : Int} (ha : I64 a) (hb : I64 b) (hc : I64 c) {k : Nat} (hk : 30 ≤ k) : wide_MulDiv.f k a b c way = some (mdiv (a * b) c way) := by
 unfold wide_MulDiv.f
 rw [mul ha hb]
 have hm := mul_i64 ha hb
 simp only [Option.bind_some]
 rw [div ⟨by omega, by omega⟩ ⟨by omega, by omega⟩ hc hk]
 simp only [Option.bind_some]
 rw [show a * b / 18446744073709551616 * 18446744073709551616 + a * b % 18446744073709551616 = a * b by omega]
end Go.Proofs.Ytchpeobenlnemaa.XWide
end

section
namespace Go.Proofs.Ytchpeobenlnemaa.XMdiv
set_option linter.unusedVariables false
set_option linter.unusedSimpArgs false
open Go.RowKit Go.Proofs.Ytchpeobenlnemaa.S Go.Proofs.Ytchpeobenlnemaa.XNum Go.Proofs.Ytchpeobenlnemaa.XBits Go.Proofs.Ytchpeobenlnemaa.XWide Go.Proofs.Ytchpeobenlnemaa.Rnd Go.Proofs.YtchpeobenlnemaaW.PrintWords

theorem rnd_n {A b : Int} (hb : 0 < b) : rnd A b 1 = near A b := by
 unfold rnd
 rw [if_neg (c := (1 : Int) = 0) (by omega), if_neg (c := b < 0) (by omega)]
/-- to the nearer one, by a number above 0 -/
theorem mdiv_n {A b : Int} (hb : 0 < b) : mdiv A b 1 = if I64 (near A b) then (near A b, 0) else (0, 3) := by
 unfold mdiv
 rw [if_neg (c := (1 : Int) < 0 ∨ (1 : Int) ≥ 2) (by omega), if_neg (c := b = 0) (by omega), rnd_n hb]
theorem mdiv_in {A b : Int} (hb : 0 < b) (h : I64 (near A b)) : mdiv A b 1 = (near A b, 0) := by
 rw [mdiv_n hb, if_pos h]
end Go.Proofs.Ytchpeobenlnemaa.XMdiv
end

section
namespace Go.Proofs.Ytchpeobenlnemaa.XRate
set_option linter.unusedVariables false
set_option linter.unusedSimpArgs false
open Go.RowKit Go.Proofs.Ytchpeobenlnemaa.S Go.Proofs.Ytchpeobenlnemaa.XNum Go.Proofs.Ytchpeobenlnemaa.XBits Go.Proofs.Ytchpeobenlnemaa.XWide Go.Proofs.Ytchpeobenlnemaa.Rnd Go.Proofs.Ytchpeobenlnemaa.XMdiv Go.Proofs.YtchpeobenlnemaaW.PrintWords

/-- may a rate be? -/
def mayR (r : Int) : Prop := -990000000000 ≤ r ∧ r ≤ 10000000000000
instance (r : Int) : Decidable (mayR r) := inferInstanceAs (Decidable (_ ∧ _))
theorem may (r : Int) : rate_May.f r = some (decide (mayR r)) := by
 unfold rate_May.f
 by_cases c : mayR r
 ·rw [decide_eq_true c]
  unfold mayR at c
  rw [if_pos (by omega), decide_eq_true (by omega)]
 ·rw [decide_eq_false c]
  unfold mayR at c
  by_cases d : r ≥ -990000000000
  ·rw [if_pos d, decide_eq_false (by omega)]
  ·rw [if_neg d]

def interest (x r : Int) : Int × Int := if mayR r then mdiv (x * r) 1000000000000 1 else (0, 2)
def grow (x r : Int) : Int × Int := if mayR r then mdiv (x * (1000000000000 + r)) 1000000000000 1 else (0, 2)
def discount (x r : Int) : Int × Int := if mayR r then mdiv (x * 1000000000000) (1000000000000 + r) 1 else (0, 2)

theorem interest_f {x r : Int} (hx : I64 x) {k : Nat} (hk : 30 ≤ k) : rate_Interest.f k x r = some (interest x r) := by
 unfold rate_Interest.f rate_over_rate_yield.f rate_yield_terms.f
 rw [may]
 simp only [Option.bind_some]
 unfold interest
 by_cases c : mayR r
 ·rw [decide_eq_true c, if_pos c]
  simp only [if_true]
  unfold mayR at c
  rw [mulDiv hx ⟨by omega, by omega⟩ ⟨by omega, by omega⟩ hk]
  simp only [Option.bind_some]
 ·rw [decide_eq_false c, if_neg c]
  simp
/-- a part of a rate -/
def part (r o all : Int) : Int × Int := if o < 0 ∨ all ≤ 0 then (0, 2) else mdiv (r * o) all 1
/-- what an amount grows to in n periods, or the first error -/
def powers (r : Int) : Nat → Int × Int
 | 0 => (1000000000000, 0)
 | n + 1 => if (powers r n).2 = 0 then grow (powers r n).1 r else powers r n
def power (r n : Int) : Int × Int := if mayR r ∧ 0 ≤ n ∧ n ≤ 600 then powers r n.toNat else (0, 2)
end Go.Proofs.Ytchpeobenlnemaa.XRate
end

section
namespace Go.Proofs.Ytchpeobenlnemaa.XRef02
set_option linter.unusedVariables false
set_option linter.unusedSimpArgs false
open Go.RowKit Go.Proofs.Ytchpeobenlnemaa.S Go.Proofs.Ytchpeobenlnemaa.XNum Go.Proofs.Ytchpeobenlnemaa.XWide Go.Proofs.Ytchpeobenlnemaa.Rnd Go.Proofs.YtchpeobenlnemaaW.PrintWords

theorem up_eq (way : Int) (L : Bool) (N D : Nat) : lombardref02_div.up way L N D = upf way N D L := by
 have e1 : ((N % D : Nat) : Int) = (N : Int) % D := Int.natCast_emod N D
 have e2 : ((N / D : Nat) : Int) = (N : Int) / D := Int.natCast_ediv N D
 unfold lombardref02_div.up upf
 rw [← e1, ← e2]
 by_cases c : way = 0
 ·rw [if_pos c, if_pos c]
  congr 1
  exact decide_eq_decide.2 (by omega)
 ·rw [if_neg c, if_neg c, Bool.eq_iff_iff]
  simp only [Bool.or_eq_true, Bool.and_eq_true, decide_eq_true_iff]
  omega
theorem Q_eq (way : Int) (L : Bool) (N D : Nat) : ((lombardref02_div.Q way L N D : Nat) : Int) = (N : Int) / D + if upf way N D L = true then 1 else 0 := by
 have e2 : ((N / D : Nat) : Int) = (N : Int) / D := Int.natCast_ediv N D
 unfold lombardref02_div.Q
 rw [up_eq, ← e2]
 split <;> omega
theorem told (way : Int) (L : Bool) (N D : Nat) : (lombardref02_div.r way L N D, lombardref02_div.e way L N D) = toldQ ((lombardref02_div.Q way L N D : Nat) : Int) L := by
 have e : (2 : Nat) ^ 63 = 9223372036854775808 := by decide
 unfold lombardref02_div.r lombardref02_div.e lombardref02_small.v lombardref02_small.ok toldQ
 rw [e]
 generalize lombardref02_div.Q way L N D = Q
 cases L
 ·by_cases c : Q < 9223372036854775808
  ·have z : ¬(9223372036854775808 < Q ∨ Q = 9223372036854775808 ∧ false = false) := by
    intro h
    rcases h with h | h <;> omega
   rw [if_neg z, if_neg z, if_pos rfl, if_pos rfl, if_neg (by simp), if_neg (by simp), if_pos (by omega)]
  ·have z : 9223372036854775808 < Q ∨ Q = 9223372036854775808 ∧ false = false := by
    by_cases d : Q = 9223372036854775808
    ·exact .inr ⟨d, rfl⟩
    ·exact .inl (by omega)
   rw [if_pos z, if_neg (by simp), if_neg (by simp), if_neg (by simp), if_neg (by omega)]
 ·by_cases c : Q ≤ 9223372036854775808
  ·have z : ¬(9223372036854775808 < Q ∨ Q = 9223372036854775808 ∧ true = false) := by
    intro h
    rcases h with h | h
    ·omega
    ·exact absurd h.2 (by simp)
   rw [if_neg z, if_neg z, if_pos rfl, if_pos rfl, if_pos rfl, if_pos rfl, if_pos (by omega)]
  ·have z : 9223372036854775808 < Q ∨ Q = 9223372036854775808 ∧ true = false := .inl (by omega)
   rw [if_pos z, if_neg (by simp), if_neg (by simp), if_pos rfl, if_neg (by omega)]
theorem zero {way y : Int} (hy : 0 < y) (L : Bool) : toldQ (0 / y + if upf way 0 y L = true then 1 else 0) L = (0, 0) := by
 have u : upf way 0 y L = false := by
  unfold upf
  rw [Int.zero_emod, Int.zero_ediv]
  split
  ·simp
  ·exact decide_eq_false (by omega)
 rw [u, Int.zero_ediv]
 unfold toldQ
 cases L <;> simp
theorem v_eq {less : Bool} {N : Nat} {b way : Int} : lombardref02_div.v less N b way = mdiv (if less = true then -(N : Int) else N) b way := by
 unfold lombardref02_div.v
 by_cases c : way ≠ 0 ∧ way ≠ 1
 ·rw [if_pos c]
  unfold mdiv
  rw [if_pos (by omega)]
 ·rw [if_neg c]
  by_cases z : b = 0
  ·rw [if_pos z]
   unfold mdiv
   rw [if_neg (by omega), if_pos z]
  ·rw [if_neg z, told, Q_eq]
   have hw : way = 0 ∨ way = 1 := by omega
   have hy : ((b.natAbs : Nat) : Int) = if b < 0 then -b else b := by split <;> omega
   have y0 : (0 : Int) < (b.natAbs : Nat) := by omega
   by_cases n0 : N = 0
   ·subst n0
    have t := told_rnd (A := 0) (b := b) (way := way) (X := 0) (y := (b.natAbs : Nat)) hw z (by simp) hy
    rw [zero y0] at t
    have w : (if less = true then -((0 : Nat) : Int) else ((0 : Nat) : Int)) = 0 := by split <;> rfl
    rw [w, ← t]
    exact zero y0 _
   ·have A0 : decide ((if less = true then -(N : Int) else (N : Int)) < 0) = less := by
     cases less
     ·rw [if_neg (by simp)]
      exact decide_eq_false (by omega)
     ·rw [if_pos rfl]
      exact decide_eq_true (by omega)
    have t := told_rnd (A := if less = true then -(N : Int) else (N : Int)) (b := b) (way := way) (X := N) (y := (b.natAbs : Nat)) hw z (by
     cases less
     ·rw [if_neg (c := false = true) (by simp), if_neg (by omega)]
     ·rw [if_pos (c := true = true) rfl, if_pos (by omega), Int.neg_neg]) hy
    rw [A0] at t
    exact t
theorem mulDiv {a b c way : Int} (ha : I64 a) (hb : I64 b) (hc : I64 c) : lombardref02_MulDiv.f a b c way = some (mdiv (a * b) c way) := by
 unfold lombardref02_MulDiv.f
 rw [if_pos ⟨ha.1, ha.2, hb.1, hb.2, hc.1, hc.2⟩, v_eq]
 congr 2
 have h1 : ((a.natAbs : Nat) : Int) = if a < 0 then -a else a := by split <;> omega
 have h2 : ((b.natAbs : Nat) : Int) = if b < 0 then -b else b := by split <;> omega
 rw [Int.natCast_mul, h1, h2]
 by_cases x : a < 0 <;> by_cases y : b < 0 <;> simp [x, y, Int.neg_mul, Int.mul_neg]
end Go.Proofs.Ytchpeobenlnemaa.XRef02
end

section
namespace Go.Proofs.Ytchpeobenlnemaa.XRefRate
set_option linter.unusedVariables false
set_option linter.unusedSimpArgs false
open Go.RowKit Go.Proofs.Ytchpeobenlnemaa.S Go.Proofs.Ytchpeobenlnemaa.XNum Go.Proofs.Ytchpeobenlnemaa.XBits Go.Proofs.Ytchpeobenlnemaa.XWide Go.Proofs.Ytchpeobenlnemaa.Rnd Go.Proofs.Ytchpeobenlnemaa.XMdiv Go.Proofs.Ytchpeobenlnemaa.XRate Go.Proofs.YtchpeobenlnemaaW.PrintWords

theorem rmay (r : Int) : lombardref03_May.f r = some (decide (mayR r)) := by
 have h := may r
 unfold rate_May.f at h
 unfold lombardref03_May.f
 exact h
theorem near_f {r a b c : Int} (ha : I64 a) (hb : mayR r → I64 b) (hc : mayR r → I64 c) : lombardref03_near.f r a b c = some (if mayR r then mdiv (a * b) c 1 else (0, 2)) := by
 unfold lombardref03_near.f
 rw [rmay]
 simp only [Option.bind_some]
 by_cases d : mayR r
 ·rw [decide_eq_true d, if_pos rfl, if_pos d, XRef02.mulDiv ha (hb d) (hc d)]
  rfl
 ·rw [decide_eq_false d, if_neg (by simp), if_neg d]
theorem rinterest {x r : Int} (hx : I64 x) : lombardref03_Interest.f x r = some (interest x r) := by
 unfold lombardref03_Interest.f
 rw [near_f hx (fun h => ⟨by unfold mayR at h; omega, by unfold mayR at h; omega⟩) (fun _ => ⟨by omega, by omega⟩)]
 rfl
end Go.Proofs.Ytchpeobenlnemaa.XRefRate
end

section
namespace Go.Proofs.Ytchpeobenlnemaa.XPay
set_option linter.unusedVariables false
set_option linter.unusedSimpArgs false
open Go.RowKit Go.Proofs.Ytchpeobenlnemaa.S Go.Proofs.Ytchpeobenlnemaa.XNum Go.Proofs.Ytchpeobenlnemaa.XWide Go.Proofs.Ytchpeobenlnemaa.Rnd Go.Proofs.Ytchpeobenlnemaa.XMdiv Go.Proofs.Ytchpeobenlnemaa.XRate Go.Proofs.Ytchpeobenlnemaa.XRefRate Go.Proofs.YtchpeobenlnemaaW.PrintWords Go.Proofs.YtchpeobenlnemaaW.PrintLast Go.Proofs.YtchpeobenlnemaaW.PrintMore

/-- a period's interest -/
def nr (r x : Int) : Int := near (x * r) 1000000000000
def okr (r : Int) : Prop := 0 ≤ r ∧ r ≤ 1000000000000
instance (r : Int) : Decidable (okr r) := inferInstanceAs (Decidable (_ ∧ _))
theorem nr_rate {r r' x x' : Int} (h0 : 0 ≤ r') (h : r' ≤ r) (hx : 0 ≤ x') (hxx : x' ≤ x) : nr r' x' ≤ nr r x :=
 near_mono (by omega) (Int.mul_le_mul hxx h h0 (by omega))
theorem nr_mono {r x y : Int} (hr : okr r) (h : x ≤ y) : nr r x ≤ nr r y := near_mono (by omega) (Int.mul_le_mul_of_nonneg_right h hr.1)
theorem nr_zero (r : Int) : nr r 0 = 0 := by
 unfold nr
 rw [Int.zero_mul]
 have := near_exact (b := 1000000000000) (N := 0) (by omega)
 rwa [Int.mul_zero] at this
theorem nr_nn {r x : Int} (hr : okr r) (hx : 0 ≤ x) : 0 ≤ nr r x := by
 have := nr_mono hr hx
 rwa [nr_zero] at this
theorem nr_le {r x : Int} (hr : okr r) (hx : 0 ≤ x) : nr r x ≤ x := by
 have h : nr r x ≤ near (1000000000000 * x) 1000000000000 := by
  refine near_mono (by omega) ?_
  rw [Int.mul_comm 1000000000000 x]
  exact Int.mul_le_mul_of_nonneg_left hr.2 hx
 rwa [near_exact (by omega)] at h
theorem int_eq {r x : Int} (hr : okr r) (h0 : 0 ≤ x) (h1 : x ≤ 1000000000000000000) : interest x r = (nr r x, 0) := by
 have hn := nr_nn hr h0
 have hl := nr_le hr h0
 unfold okr at hr
 unfold interest
 rw [if_pos (by unfold mayR; omega)]
 exact mdiv_in (by omega) ⟨by unfold nr at hn; omega, by unfold nr at hl; omega⟩

/-- is x paid off by a in n periods? -/
def pd (r a : Int) : Nat → Int → Bool
 | 0, x => decide (x ≤ 0)
 | n + 1, x => if x ≤ 0 then true else pd r a n (x + nr r x - a)
theorem pd_done {r a x : Int} (h : x ≤ 0) : ∀ n, pd r a n x = true
 | 0 => by unfold pd; exact decide_eq_true h
 | n + 1 => by unfold pd; rw [if_pos h]
/-- at a lower rate, with more paid, in more periods, of less -/
theorem pd_all {r r' : Int} (hr' : okr r') (h : r' ≤ r) {a a' : Int} (ha : a ≤ a') : ∀ (n n' : Nat) (x x' : Int), n ≤ n' → x' ≤ x → pd r a n x = true → pd r' a' n' x' = true
 | 0, n', x, x', _, hx, hp => by
  unfold pd at hp
  exact pd_done (by have := of_decide_eq_true hp; omega) n'
 | n + 1, n', x, x', hn, hx, hp => by
  by_cases c : x' ≤ 0
  ·exact pd_done c n'
  ·obtain ⟨m, rfl⟩ : ∃ m, n' = m + 1 := ⟨n' - 1, by omega⟩
   unfold pd at hp ⊢
   rw [if_neg c]
   rw [if_neg (by omega)] at hp
   refine pd_all hr' h ha n m _ _ (by omega) ?_ hp
   have := nr_rate hr'.1 h (x := x) (x' := x') (by omega) hx
   omega
theorem pd_mono {r : Int} (hr : okr r) {a a' x : Int} (ha : a ≤ a') {n : Nat} (h : pd r a n x = true) : pd r a' n x = true := pd_all hr (Int.le_refl r) ha n n x x (Nat.le_refl _) (Int.le_refl _) h
/-- what doesn't get less is never paid off -/
theorem pd_stuck {r a x : Int} (hr : okr r) (hx : 0 < x) (h : x ≤ x + nr r x - a) : ∀ (n : Nat) (y : Int), x ≤ y → pd r a n y = false
 | 0, y, hy => by unfold pd; exact decide_eq_false (by omega)
 | n + 1, y, hy => by
  unfold pd
  rw [if_neg (by omega)]
  refine pd_stuck hr hx h n _ ?_
  have := nr_mono hr hy
  omega

/-- v is the least payment -/
def IsLv (r : Int) (n : Nat) (left v : Int) : Prop := 0 ≤ v ∧ pd r v n left = true ∧ ∀ a, 0 ≤ a → a < v → pd r a n left = false
theorem IsLv.uniq {r : Int} {n : Nat} {left v v' : Int} (h : IsLv r n left v) (h' : IsLv r n left v') : v = v' := by
 rcases Int.lt_trichotomy v v' with c | c | c
 ·have := h'.2.2 v h.1 c
  rw [h.2.1] at this
  exact absurd this (by simp)
 ·exact c
 ·have := h.2.2 v' h'.1 c
  rw [h'.2.1] at this
  exact absurd this (by simp)
/-- the search -/
def srch (r : Int) (n : Nat) (left : Int) : Nat → Int → Int → Int
 | 0, lo, _ => lo
 | j + 1, lo, hi => if lo < hi then (if pd r (lo + (hi - lo) / 2) n left = true then srch r n left j lo (lo + (hi - lo) / 2) else srch r n left j (lo + (hi - lo) / 2 + 1) hi) else lo
theorem srch_is {r : Int} (hr : okr r) {n : Nat} {left : Int} : ∀ (j : Nat) (lo hi : Int), 0 ≤ lo → lo ≤ hi → hi - lo < 2 ^ j → pd r hi n left = true → (∀ a, 0 ≤ a → a < lo → pd r a n left = false) → IsLv r n left (srch r n left j lo hi) ∧ srch r n left j lo hi ≤ hi
 | 0, lo, hi, h0, h1, h2, h3, h4 => by
  have e : lo = hi := by simp at h2; omega
  subst e
  unfold srch
  exact ⟨⟨h0, h3, h4⟩, Int.le_refl _⟩
 | j + 1, lo, hi, h0, h1, h2, h3, h4 => by
  unfold srch
  by_cases c : lo < hi
  ·rw [if_pos c]
   obtain ⟨p, hp⟩ : ∃ p : Int, (2 : Int) ^ j = p := ⟨_, rfl⟩
   have h2' : hi - lo < 2 * p := by rw [Int.pow_succ, hp] at h2; omega
   by_cases d : pd r (lo + (hi - lo) / 2) n left = true
   ·rw [if_pos d]
    have := srch_is hr (n := n) (left := left) j lo (lo + (hi - lo) / 2) h0 (by omega) (by rw [hp]; omega) d h4
    exact ⟨this.1, by omega⟩
   ·rw [if_neg d]
    refine srch_is hr (n := n) (left := left) j (lo + (hi - lo) / 2 + 1) hi (by omega) (by omega) (by rw [hp]; omega) h3 fun a ha hl => ?_
    cases e : pd r a n left with
    | false => rfl
    | true => exact absurd (pd_mono hr (by omega) e) d
  ·rw [if_neg c]
   have e : lo = hi := by omega
   subst e
   exact ⟨⟨h0, h3, h4⟩, Int.le_refl _⟩
/-- the least payment -/
def lv (r : Int) (n : Nat) (left : Int) : Int := srch r n left 64 0 (left + nr r left)
theorem pd_first {r left : Int} {n : Nat} (hn : 1 ≤ n) : pd r (left + nr r left) n left = true := by
 obtain ⟨m, rfl⟩ : ∃ m, n = m + 1 := ⟨n - 1, by omega⟩
 unfold pd
 split
 ·rfl
 ·exact pd_done (by omega) m
theorem lv_both {r left : Int} {n : Nat} (hr : okr r) (hn : 1 ≤ n) (h0 : 0 ≤ left) (h1 : left ≤ 10000000000000) : IsLv r n left (lv r n left) ∧ lv r n left ≤ left + nr r left := by
 have a0 := nr_nn hr h0
 have a1 := nr_le hr h0
 exact srch_is hr 64 0 (left + nr r left) (Int.le_refl _) (by omega) (Int.lt_of_lt_of_le (b := 20000000000001) (by omega) (by decide)) (pd_first hn) (fun a h h' => by omega)
theorem lv_is {r left : Int} {n : Nat} (hr : okr r) (hn : 1 ≤ n) (h0 : 0 ≤ left) (h1 : left ≤ 10000000000000) : IsLv r n left (lv r n left) := (lv_both hr hn h0 h1).1
theorem lv_le {r left : Int} {n : Nat} (hr : okr r) (hn : 1 ≤ n) (h0 : 0 ≤ left) (h1 : left ≤ 10000000000000) : lv r n left ≤ left + nr r left := (lv_both hr hn h0 h1).2
theorem lv_nn {r left : Int} {n : Nat} (hr : okr r) (hn : 1 ≤ n) (h0 : 0 ≤ left) (h1 : left ≤ 10000000000000) : 0 ≤ lv r n left := (lv_both hr hn h0 h1).1.1
def level (left r n : Int) : Int × Int := if 0 ≤ left ∧ left ≤ 10000000000000 ∧ okr r ∧ 1 ≤ n ∧ n ≤ 600 then (lv r n.toNat left, 0) else (0, 2)

theorem one_f {x r : Int} (hr : okr r) (h0 : 0 ≤ x) (h1 : x ≤ 1000000000000000000) {k : Nat} (hk : 30 ≤ k) : sched_Level_1.f k x r = some (nr r x) := by
 unfold sched_Level_1.f
 rw [interest_f ⟨by omega, by omega⟩ hk, int_eq hr h0 h1]
 rfl
/-- the program's test -/
theorem test_l0 {r a n : Int} (hr : okr r) (a0 : 0 ≤ a) (a1 : a ≤ 40000000000000) (hn : n ≤ 600) : ∀ (d : Nat) (x i : Int) (k : Nat), i + d = n → 0 ≤ i → -40000000000000 ≤ x → x ≤ 10000000000000 → d + 40 ≤ k → sched_Level_2.l0 k a x n i r = some (pd r a d x)
 | 0, x, i, k + 1, hi, _, _, _, _ => by
  rw [sched_Level_2.l0, if_neg (by omega)]
  rfl
 | d + 1, x, i, k + 1, hi, h0, hx0, hx1, hk => by
  rw [sched_Level_2.l0, if_pos (by omega)]
  by_cases c : x ≤ 0
  ·rw [if_pos c, pd_done c, decide_eq_true c]
  ·rw [if_neg c, one_f hr (by omega) (by omega) (by omega), Option.bind_some]
   have b0 := nr_nn hr (x := x) (by omega)
   have b1 := nr_le hr (x := x) (by omega)
   rw [w64 (n := x + nr r x) (by omega) (by omega), w64 (n := x + nr r x - a) (by omega) (by omega)]
   by_cases e : x + nr r x - a ≥ x
   ·rw [if_pos e, pd_stuck hr (by omega) (by omega) _ _ (Int.le_refl _)]
   ·rw [if_neg e, w64 (n := i + 1) (by omega) (by omega), test_l0 hr a0 a1 hn d _ _ k (by omega) (by omega) (by omega) (by omega) (by omega)]
    conv => rhs; unfold pd
    rw [if_neg c]
theorem test_f {r a left n : Int} (hr : okr r) (a0 : 0 ≤ a) (a1 : a ≤ 40000000000000) (h0 : 0 ≤ left) (h1 : left ≤ 10000000000000) (hn0 : 0 ≤ n) (hn : n ≤ 600) {k : Nat} (hk : 640 ≤ k) : sched_Level_2.f k a left n r = some (pd r a n.toNat left) := by
 unfold sched_Level_2.f
 exact test_l0 hr a0 a1 hn n.toNat left 0 k (by omega) (by omega) (by omega) h1 (by omega)
theorem srch_l0 {r left n : Int} (hr : okr r) (h0 : 0 ≤ left) (h1 : left ≤ 10000000000000) (hn0 : 0 ≤ n) (hn : n ≤ 600) : ∀ (j : Nat) (lo hi : Int) (k : Nat), 0 ≤ lo → hi ≤ 40000000000000 → hi - lo < 2 ^ j → j + 700 ≤ k → sched_least_int64__sched_Level_2.l0 k lo hi left n r = some (srch r n.toNat left j lo hi)
 | 0, lo, hi, k + 1, _, _, h2, _ => by
  rw [sched_least_int64__sched_Level_2.l0, if_neg (by simp at h2; omega)]
  rfl
 | j + 1, lo, hi, k + 1, hl, hh, h2, hk => by
  obtain ⟨p, hp⟩ : ∃ p : Int, (2 : Int) ^ j = p := ⟨_, rfl⟩
  have h2' : hi - lo < 2 * p := by rw [Int.pow_succ, hp] at h2; omega
  rw [sched_least_int64__sched_Level_2.l0]
  conv => rhs; unfold srch
  by_cases c : lo < hi
  ·rw [if_pos c, if_pos c, w64 (n := hi - lo) (by omega) (by omega), td_nn (by omega), w64 (n := (hi - lo) / 2) (by omega) (by omega), w64 (n := lo + (hi - lo) / 2) (by omega) (by omega), test_f hr (by omega) (by omega) h0 h1 hn0 hn (by omega), Option.bind_some]
   by_cases d : pd r (lo + (hi - lo) / 2) n.toNat left = true
   ·rw [if_pos d, if_pos d, srch_l0 hr h0 h1 hn0 hn j _ _ k (by omega) (by omega) (by rw [hp]; omega) (by omega)]
   ·rw [if_neg d, if_neg d, w64 (n := lo + (hi - lo) / 2 + 1) (by omega) (by omega), srch_l0 hr h0 h1 hn0 hn j _ _ k (by omega) (by omega) (by rw [hp]; omega) (by omega)]
  ·rw [if_neg c, if_neg c]
theorem within64 (n lo hi : Int) : sched_within_int64.f n lo hi = some (decide (lo ≤ n ∧ n ≤ hi)) := by
 unfold sched_within_int64.f
 split
 ·rename_i h
  congr 1
  rw [decide_eq_decide]
  omega
 ·rename_i h
  rw [decide_eq_false (by omega)]
theorem withinI (n lo hi : Int) : sched_within_int.f n lo hi = some (decide (lo ≤ n ∧ n ≤ hi)) := by
 unfold sched_within_int.f
 split
 ·rename_i h
  congr 1
  rw [decide_eq_decide]
  omega
 ·rename_i h
  rw [decide_eq_false (by omega)]
theorem level_f {left r n : Int} {k : Nat} (hk : 800 ≤ k) : sched_Level.f k left r n = some (level left r n) := by
 obtain ⟨k, rfl⟩ : ∃ m, k = m + 1 := ⟨k - 1, by omega⟩
 have bad : ∀ (h : ¬(0 ≤ left ∧ left ≤ 10000000000000 ∧ okr r ∧ 1 ≤ n ∧ n ≤ 600)), sched_Level.j0 (k + 1) true left r n = some (level left r n) := by
  intro h
  rw [sched_Level.j0, if_pos rfl]
  unfold level
  rw [if_neg h]
 unfold sched_Level.f sched_may.f
 rw [within64, Option.bind_some]
 by_cases c1 : 0 ≤ left ∧ left ≤ 10000000000000
 ·rw [if_pos (decide_eq_true c1), within64, Option.bind_some, Option.bind_some]
  by_cases c2 : 0 ≤ r ∧ r ≤ 1000000000000
  ·rw [if_pos (decide_eq_true c2), withinI, Option.bind_some]
   by_cases c3 : 1 ≤ n ∧ n ≤ 600
   ·rw [decide_eq_true c3]
    have hr : okr r := c2
    have b0 := nr_nn hr c1.1
    have b1 := nr_le hr c1.1
    rw [sched_Level.j0, if_neg (by simp), one_f hr c1.1 (by omega) (by omega), Option.bind_some, w64 (n := left + nr r left) (by omega) (by omega), sched_least_int64__sched_Level_2.f, srch_l0 hr c1.1 c1.2 (by omega) c3.2 64 _ _ k (by omega) (by omega) (Int.lt_of_lt_of_le (b := 20000000000001) (by omega) (by decide)) (by omega), Option.bind_some]
    unfold level
    rw [if_pos ⟨c1.1, c1.2, hr, c3.1, c3.2⟩]
    rfl
   ·rw [decide_eq_false c3]
    exact bad (fun h => c3 h.2.2.2)
  ·rw [if_neg (by rw [decide_eq_true_iff]; exact c2)]
   exact bad (fun h => c2 h.2.2.1)
 ·rw [if_neg (by rw [decide_eq_true_iff]; exact c1)]
  exact bad (fun h => c1 ⟨h.1, h.2.1⟩)

/-- the document's test -/
theorem rtest {r a n : Int} (hr : okr r) (a0 : 0 ≤ a) (a1 : a ≤ 140737488355328) (hn : n ≤ 600) : ∀ (d : Nat) (x i : Int) (k : Nat), i + d = n → 0 ≤ i → -150000000000000 ≤ x → x ≤ 40000000000000 → 2 * d + 40 ≤ k → lombardref08_pays.l0 k x r n a i = some (pd r a d x)
 | 0, x, i, k + 2, hi, _, _, _, _ => by
  rw [lombardref08_pays.l0, if_neg (by omega), lombardref08_pays.j1, if_neg (by simp)]
  rfl
 | d + 1, x, i, k + 2, hi, h0, hx0, hx1, hk => by
  rw [lombardref08_pays.l0, if_pos (by omega), lombardref08_pays.j1]
  by_cases c : x ≤ 0
  ·rw [if_neg (by rw [decide_eq_true_iff]; omega), pd_done c, decide_eq_true c]
  ·have b0 := nr_nn hr (x := x) (by omega)
   have b1 := nr_le hr (x := x) (by omega)
   rw [if_pos (decide_eq_true (by omega)), rinterest ⟨by omega, by omega⟩, int_eq hr (by omega) (by omega), Option.bind_some]
   dsimp only
   rw [w64 (n := nr r x - a) (by omega) (by omega), w64 (n := x + (nr r x - a)) (by omega) (by omega)]
   by_cases e : x + (nr r x - a) > 40000000000000
   ·rw [if_pos e, pd_stuck hr (by omega) (by omega) _ _ (Int.le_refl _)]
   ·rw [if_neg e, w64 (n := i + 1) (by omega) (by omega), rtest hr a0 a1 hn d _ _ k (by omega) (by omega) (by omega) (by omega) (by omega)]
    conv => rhs; unfold pd
    rw [if_neg c, show x + (nr r x - a) = x + nr r x - a by omega]
theorem rtest_f {r a left n : Int} (hr : okr r) (a0 : 0 ≤ a) (a1 : a ≤ 140737488355328) (h0 : 0 ≤ left) (h1 : left ≤ 10000000000000) (hn0 : 0 ≤ n) (hn : n ≤ 600) {k : Nat} (hk : 1240 ≤ k) : lombardref08_pays.f k left r n a = some (pd r a n.toNat left) := by
 unfold lombardref08_pays.f
 exact rtest hr a0 a1 hn n.toNat left 0 k (by omega) (by omega) (by omega) (by omega) (by omega)
theorem rlevel_end {r left n m v : Int} {k : Nat} (hm0 : 0 ≤ m) (hm1 : m ≤ 140737488355328) (hm : pd r m n.toNat left = false) (hv : IsLv r n.toNat left v) (h : pd r (m + 1) n.toNat left = true) (hr : okr r) : lombardref08_Level.l0 (k + 1) left r n m 0 = some (v, 0) := by
 rw [lombardref08_Level.l0, if_neg (by omega), w64 (n := m + 1) (by omega) (by omega)]
 have e : v = m + 1 := by
  refine hv.uniq ⟨by omega, h, fun a ha hl => ?_⟩
  cases d : pd r a n.toNat left with
  | false => rfl
  | true =>
   have := pd_mono hr (a' := m) (by omega) d
   rw [hm] at this
   exact absurd this (by simp)
 rw [e]
theorem rlevel_l0 {r left n v : Int} (hr : okr r) (h0 : 0 ≤ left) (h1 : left ≤ 10000000000000) (hn0 : 0 ≤ n) (hn : n ≤ 600) (hv : IsLv r n.toNat left v) : ∀ (j : Nat) (m b : Int) (k : Nat), b = 2 ^ j → 0 ≤ m → m + 2 * b ≤ 140737488355328 → pd r m n.toNat left = false → pd r (m + 2 * b) n.toNat left = true → j + 1300 ≤ k → lombardref08_Level.l0 k left r n m b = some (v, 0)
 | 0, m, b, k + 2, hb, hm, hmb, p0, p1, hk => by
  have hb : b = 1 := by simpa using hb
  subst hb
  rw [lombardref08_Level.l0, if_pos (by omega), w64 (n := m + 1) (by omega) (by omega), rtest_f hr (by omega) (by omega) h0 h1 hn0 hn (by omega), Option.bind_some, show wrap64 (Int.tdiv 1 2) = 0 from by decide +kernel]
  by_cases d : pd r (m + 1) n.toNat left = true
  ·rw [if_pos d]
   exact rlevel_end hm (by omega) p0 hv d hr
  ·rw [if_neg d]
   exact rlevel_end (by omega) (by omega) (by simpa using d) hv (by rw [show m + 1 + 1 = m + 2 * 1 by omega]; exact p1) hr
 | j + 1, m, b, k + 1, hb, hm, hmb, p0, p1, hk => by
  obtain ⟨c, hc⟩ : ∃ c : Int, (2 : Int) ^ j = c := ⟨_, rfl⟩
  have hb2 : b = 2 * c := by rw [hb, Int.pow_succ, hc]; omega
  have c0 : 0 < c := by rw [← hc]; exact Int.pow_pos (by omega)
  rw [lombardref08_Level.l0, if_pos (by omega), w64 (n := m + b) (by omega) (by omega), td_nn (by omega), w64 (n := b / 2) (by omega) (by omega), rtest_f hr (by omega) (by omega) h0 h1 hn0 hn (by omega), Option.bind_some, show b / 2 = c by omega]
  by_cases d : pd r (m + b) n.toNat left = true
  ·rw [if_pos d]
   exact rlevel_l0 hr h0 h1 hn0 hn hv j m c k hc.symm hm (by omega) p0 (by rw [← hb2]; exact d) (by omega)
  ·rw [if_neg d]
   exact rlevel_l0 hr h0 h1 hn0 hn hv j (m + b) c k hc.symm (by omega) (by omega) (by simpa using d) (by rw [show m + b + 2 * c = m + 2 * b by omega]; exact p1) (by omega)
theorem rlevel_f {left r n : Int} {k : Nat} (hk : 1400 ≤ k) : lombardref08_Level.f k left r n = some (level left r n) := by
 obtain ⟨k, rfl⟩ : ∃ m, k = m + 1 := ⟨k - 1, by omega⟩
 have bad : ∀ (h : ¬(0 ≤ left ∧ left ≤ 10000000000000 ∧ okr r ∧ 1 ≤ n ∧ n ≤ 600)), lombardref08_Level.j0 (k + 1) left r n true = some (level left r n) := by
  intro h
  rw [lombardref08_Level.j0, if_pos rfl]
  unfold level
  rw [if_neg h]
 unfold lombardref08_Level.f
 by_cases c1 : left < 0
 ·rw [if_pos c1]
  exact bad (by omega)
 rw [if_neg c1]
 by_cases c2 : left > 10000000000000
 ·rw [if_pos c2]
  exact bad (by omega)
 rw [if_neg c2]
 by_cases c3 : r < 0
 ·rw [if_pos c3]
  exact bad (by unfold okr; omega)
 rw [if_neg c3]
 by_cases c4 : r > 1000000000000
 ·rw [if_pos c4]
  exact bad (by unfold okr; omega)
 rw [if_neg c4]
 by_cases c5 : n < 1
 ·rw [if_pos c5]
  exact bad (by omega)
 rw [if_neg c5]
 by_cases c6 : n > 600
 ·rw [decide_eq_true c6]
  exact bad (by omega)
 ·have hr : okr r := ⟨by omega, by omega⟩
  have hv := lv_is (n := n.toNat) (left := left) hr (by omega) (by omega) (by omega)
  have b0 := nr_nn hr (x := left) (by omega)
  have b1 := nr_le hr (x := left) (by omega)
  rw [decide_eq_false c6, lombardref08_Level.j0, if_neg (by simp), rtest_f hr (by omega) (by omega) (by omega) (by omega) (by omega) (by omega) (by omega), Option.bind_some]
  have e : level left r n = (lv r n.toNat left, 0) := by
   unfold level
   rw [if_pos ⟨by omega, by omega, hr, by omega, by omega⟩]
  rw [e]
  by_cases d : pd r 0 n.toNat left = true
  ·rw [if_pos d, hv.uniq ⟨Int.le_refl _, d, fun a h h' => by omega⟩]
  ·rw [if_neg d]
   exact rlevel_l0 hr (by omega) (by omega) (by omega) (by omega) hv 46 0 _ k (by decide) (by omega) (by omega) (by simpa using d) (pd_mono hr (by omega) (pd_first (by omega))) (by omega)
end Go.Proofs.Ytchpeobenlnemaa.XPay
end

section
namespace Go.Proofs.Ytchpeobenlnemaa.XMoney
set_option linter.unusedVariables false
set_option linter.unusedSimpArgs false
open Go.RowKit Go.Proofs.Ytchpeobenlnemaa.S Go.Proofs.Ytchpeobenlnemaa.XNum Go.Proofs.Ytchpeobenlnemaa.XBits Go.Proofs.Ytchpeobenlnemaa.XWide Go.Proofs.YtchpeobenlnemaaW.PrintWords

/-- A number, or that it is too great. -/
def told (n : Int) : Int × Int := if -9223372036854775808 ≤ n ∧ n ≤ 9223372036854775807 then (n, 0) else (0, 3)
theorem may (n : Int) : money_May.f n = some (decide (-10000000000000 ≤ n ∧ n ≤ 10000000000000)) := by
 unfold money_May.f
 split
 ·congr 1
  rw [decide_eq_decide]
  omega
 ·rw [decide_eq_false (by omega)]
theorem size {a : Int} (ha : I64 a) : money_size_int64.f a = some (if a < 0 then -a else a) := by
 obtain ⟨a0, a1⟩ := ha
 unfold money_size_int64.f
 split
 ·rw [wu, wu]
  congr 1 <;> omega
 ·rw [wu]
  congr 1 <;> omega
theorem ref_may (n : Int) : lombardref01_May.f n = some (decide (-10000000000000 ≤ n ∧ n ≤ 10000000000000)) := by
 unfold lombardref01_May.f
 split
 ·congr 1
  rw [decide_eq_decide]
  omega
 ·rw [decide_eq_false (by omega)]
end Go.Proofs.Ytchpeobenlnemaa.XMoney
end

section
namespace Go.Proofs.Ytchpeobenlnemaa.XSum
set_option linter.unusedVariables false
set_option linter.unusedSimpArgs false
open Go.RowKit Go.Proofs.Ytchpeobenlnemaa.S Go.Proofs.Ytchpeobenlnemaa.XNum Go.Proofs.Ytchpeobenlnemaa.XBits Go.Proofs.Ytchpeobenlnemaa.XWide Go.Proofs.Ytchpeobenlnemaa.XMoney Go.Proofs.YtchpeobenlnemaaW.PrintWords

/-- all together -/
def tot : List Int → Int
 | [] => 0
 | x :: l => x + tot l
theorem tot_append (a b : List Int) : tot (a ++ b) = tot a + tot b := by
 induction a with
 | nil => simp [tot]
 | cons x a ih => simp only [List.cons_append, tot, ih]; omega
end Go.Proofs.Ytchpeobenlnemaa.XSum
end

section
namespace Go.Proofs.Ytchpeobenlnemaa.XSplit
set_option linter.unusedVariables false
set_option linter.unusedSimpArgs false
open Go.RowKit Go.Proofs.Ytchpeobenlnemaa.S Go.Proofs.Ytchpeobenlnemaa.XNum Go.Proofs.Ytchpeobenlnemaa.XBits Go.Proofs.Ytchpeobenlnemaa.XWide Go.Proofs.Ytchpeobenlnemaa.XMoney Go.Proofs.Ytchpeobenlnemaa.XSum Go.Proofs.YtchpeobenlnemaaW.PrintWords

/-- what is left over goes to the first weights that aren't 0, one to each -/
def dist : List Int → List Int → Int → List Int
 | w :: ws, q :: qs, L => if 0 < w ∧ 0 < L then (q + 1) :: dist ws qs (L - 1) else q :: dist ws qs L
 | _, qs, _ => qs
/-- how many weights aren't 0 -/
def pos : List Int → Int
 | [] => 0
 | w :: ws => (if 0 < w then 1 else 0) + pos ws
theorem pos_nn (l : List Int) : 0 ≤ pos l := by
 induction l with
 | nil => simp [pos]
 | cons x l ih => unfold pos; split <;> omega
theorem dist_zero (ws qs : List Int) : dist ws qs 0 = qs := by
 induction ws generalizing qs with
 | nil => unfold dist; rfl
 | cons w ws ih =>
  cases qs with
  | nil => unfold dist; rfl
  | cons q qs => unfold dist; rw [if_neg (by omega), ih]
def may (n : Int) : Prop := -10000000000000 ≤ n ∧ n ≤ 10000000000000
instance (n : Int) : Decidable (may n) := inferInstanceAs (Decidable (_ ∧ _))
def okw (w : Int) : Prop := 0 ≤ w ∧ w ≤ 10000000000000
instance (w : Int) : Decidable (okw w) := inferInstanceAs (Decidable (_ ∧ _))
def size (n : Int) : Int := if n < 0 then -n else n
def one (n : Int) : Int := if n < 0 then -1 else 1
theorem one_or (n : Int) : one n = 1 ∨ one n = -1 := by unfold one; split <;> simp
theorem one_size (n : Int) : one n * size n = n := by unfold one size; split <;> omega
def quos (n : Int) (ws : List Int) (S : Int) : List Int := ws.map fun w => size n * w / S
def good (n : Int) (ws : List Int) : Prop := ws.length ≠ 0 ∧ ws.length ≤ 600 ∧ may n ∧ (∀ w ∈ ws, okw w) ∧ tot ws ≠ 0
instance (n : Int) (ws : List Int) : Decidable (good n ws) := inferInstanceAs (Decidable (_ ∧ _))
/-- the parts -/
def parts (n : Int) (ws : List Int) : List Int := (dist ws (quos n ws (tot ws)) (size n - tot (quos n ws (tot ws)))).map (one n * ·)
def splitS (n : Int) (ws : List Int) : List Int × Int := if good n ws then (parts n ws, 0) else ([], 2)

theorem tot_nn {l : List Int} (h : ∀ w ∈ l, okw w) : 0 ≤ tot l := by
 induction l with
 | nil => simp [tot]
 | cons x l ih =>
  have := h x (by simp)
  have := ih fun w hw => h w (by simp [hw])
  unfold okw at *
  unfold tot
  omega
theorem tot_le {l : List Int} (h : ∀ w ∈ l, okw w) : tot l ≤ 10000000000000 * l.length := by
 induction l with
 | nil => simp [tot]
 | cons x l ih =>
  have := h x (by simp)
  have := ih fun w hw => h w (by simp [hw])
  unfold okw at *
  unfold tot
  rw [List.length_cons]
  omega
theorem mem_le {l : List Int} (h : ∀ w ∈ l, okw w) {w : Int} (hw : w ∈ l) : w ≤ tot l := by
 induction l with
 | nil => cases hw
 | cons x l ih =>
  have a := h x (by simp)
  have b := fun w hw => h w (List.mem_cons_of_mem x hw)
  have c := tot_nn b
  unfold okw at a
  unfold tot
  rcases List.mem_cons.1 hw with rfl | hw
  ·omega
  ·have := ih b hw
   omega
theorem quo_bd {n w S : Int} (hn : may n) (hw : okw w) (hS : 0 < S) (hwS : w ≤ S) : 0 ≤ size n * w / S ∧ size n * w / S ≤ size n := by
 have a : 0 ≤ size n := by unfold size; split <;> omega
 have b : 0 ≤ size n * w := Int.mul_nonneg a hw.1
 refine ⟨Int.ediv_nonneg b (by omega), ?_⟩
 have c : size n * w ≤ size n * S := Int.mul_le_mul_of_nonneg_left hwS a
 exact Int.ediv_le_of_le_mul hS c
/-- what is left over is no less than 0, and no more than there are weights that aren't 0 -/
theorem over_bd {n S : Int} (hS : 0 < S) {l : List Int} (h : ∀ w ∈ l, okw w) :
  S * tot (quos n l S) ≤ size n * tot l ∧ size n * tot l ≤ S * tot (quos n l S) + S * pos l := by
 induction l with
 | nil => simp [quos, tot, pos]
 | cons x l ih =>
  have a := h x (by simp)
  obtain ⟨i1, i2⟩ := ih fun w hw => h w (List.mem_cons_of_mem x hw)
  unfold quos at *
  simp only [List.map_cons, tot, pos]
  have d := Int.mul_ediv_add_emod (size n * x) S
  have d0 := Int.emod_nonneg (size n * x) (show S ≠ 0 by omega)
  have d1 := Int.emod_lt_of_pos (size n * x) hS
  have e : x = 0 → size n * x = 0 ∧ size n * x / S = 0 := by
   intro hx
   subst hx
   simp
  rw [Int.mul_add, Int.mul_add, Int.mul_add]
  obtain ⟨a0, _⟩ := a
  generalize size n * x / S = q at *
  generalize size n * x % S = r at *
  by_cases c : 0 < x
  ·rw [if_pos c, Int.mul_one]
   omega
  ·obtain ⟨e1, e2⟩ := e (by omega)
   rw [if_neg c, e1, e2, Int.mul_zero]
   omega
theorem left_bd {n : Int} {ws : List Int} (h : good n ws) : 0 ≤ size n - tot (quos n ws (tot ws)) ∧ size n - tot (quos n ws (tot ws)) ≤ pos ws ∧ 0 ≤ tot (quos n ws (tot ws)) := by
 obtain ⟨_, _, _, hw, h0⟩ := h
 have hS : 0 < tot ws := by have := tot_nn hw; omega
 obtain ⟨a, b⟩ := over_bd (n := n) hS hw
 generalize hT : tot (quos n ws (tot ws)) = T at *
 have nn : 0 ≤ T := by
  rw [← hT]
  have : ∀ l : List Int, (∀ w ∈ l, okw w) → 0 ≤ tot (quos n l (tot ws)) := by
   intro l
   induction l with
   | nil => intro _; simp [quos, tot]
   | cons x l ih =>
    intro hl
    have := ih fun w hw => hl w (List.mem_cons_of_mem x hw)
    have s0 : 0 ≤ size n := by unfold size; split <;> omega
    have : 0 ≤ size n * x / tot ws := Int.ediv_nonneg (Int.mul_nonneg s0 (hl x (by simp)).1) (by omega)
    unfold quos at *
    simp only [List.map_cons, tot]
    omega
  exact this ws hw
 rw [Int.mul_comm (size n)] at a b
 refine ⟨?_, ?_, nn⟩
 ·have := Int.le_of_mul_le_mul_left a hS
  omega
 ·rw [← Int.mul_add] at b
  have := Int.le_of_mul_le_mul_left b hS
  omega

-- ------------------------------------------------ rows, by what lies ahead and behind
theorem rd_mid (A : List Int) (b : Int) (B : List Int) : rd (A ++ b :: B) (A.length : Int) = b := by
 unfold rd
 simp
theorem set_mid (A : List Int) (b v : Int) (B : List Int) : (A ++ b :: B).set ((A.length : Int)).toNat v = A ++ v :: B := by
 simp

-- ------------------------------------------------ package money
theorem pos_le (l : List Int) : pos l ≤ l.length := by
 induction l with
 | nil => simp [pos]
 | cons x l ih => unfold pos; rw [List.length_cons]; split <;> omega
theorem step_v {s b : Int} (hs : s = 1 ∨ s = -1) (h0 : 0 ≤ b) (h1 : b ≤ 10000000000000) : wrap64 (s * b + s) = s * (b + 1) := by
 rcases hs with rfl | rfl <;> (rw [w64 (by omega) (by omega)]; omega)
theorem step_u {s L : Int} (hs : s = 1 ∨ s = -1) (h0 : 0 ≤ L) (h1 : L ≤ 600) : wrap64 (s * L - s) = s * (L - 1) := by
 rcases hs with rfl | rfl <;> (rw [w64 (by omega) (by omega)]; omega)
theorem next_at {a n : Nat} (h : a + 1 < n) (hn : n ≤ 600) : Int.tmod (wrap64 ((a : Int) + 1)) (n : Int) = ((a + 1 : Nat) : Int) := by
 rw [w64 (by omega) (by omega), tm_nn (by omega), Int.emod_eq_of_lt (by omega) (by omega)]
 omega
theorem l2_stop {s : Int} {ws : List Int} (W A B : List Int) (j : Int) {k : Nat} (hk : 1 ≤ k) : money_Split.l2 k ws s (A ++ B.map (s * ·)) (s * 0) j = some (A ++ (dist W B 0).map (s * ·), 0) := by
 obtain ⟨k, rfl⟩ : ∃ m, k = m + 1 := ⟨k - 1, by omega⟩
 rw [money_Split.l2, if_pos (Int.mul_zero s), dist_zero]
/-- one place: one goes to it, or none -/
theorem l2_step {s : Int} (hs : s = 1 ∨ s = -1) {w b L : Int} {V W A B : List Int} (hl : A.length + W.length + 1 ≤ 600) (e2 : V.length = A.length) (e3 : W.length = B.length) (h0 : 0 < L) (h1 : L ≤ 600) (hb : 0 ≤ b ∧ b ≤ 10000000000000) (hw : 0 ≤ w) (k : Nat) :
  money_Split.l2 (k + 1) (V ++ w :: W) s (A ++ (b :: B).map (s * ·)) (s * L) A.length =
   if 0 < w then money_Split.l2 k (V ++ w :: W) s ((A ++ [s * (b + 1)]) ++ B.map (s * ·)) (s * (L - 1)) (Int.tmod (wrap64 ((A.length : Int) + 1)) ((V ++ w :: W).length : Int))
   else money_Split.l2 k (V ++ w :: W) s ((A ++ [s * b]) ++ B.map (s * ·)) (s * L) (Int.tmod (wrap64 ((A.length : Int) + 1)) ((V ++ w :: W).length : Int)) := by
 have nz : s * L ≠ 0 := by rcases hs with rfl | rfl <;> omega
 have lv : (V ++ w :: W).length = A.length + W.length + 1 := by simp; omega
 have la : (A ++ (b :: B).map (s * ·)).length = A.length + W.length + 1 := by simp; omega
 have rw1 : rd (V ++ w :: W) (A.length : Int) = w := by rw [← e2]; exact rd_mid V w W
 rw [money_Split.l2, if_neg nz, if_pos (by omega), lv, if_pos (by omega), rw1, la]
 by_cases c : 0 < w
 ·rw [if_pos c, if_pos c, if_pos (by omega), if_neg (by omega), List.map_cons, rd_mid, set_mid, step_v hs hb.1 hb.2, step_u hs (by omega) h1]
  simp
 ·rw [if_neg c, if_neg c, if_neg (by omega)]
  simp
theorem l2_run {s : Int} (hs : s = 1 ∨ s = -1) : ∀ (W V A B : List Int) (L : Int) (j : Int) (k : Nat), (V ++ W).length ≤ 600 → (∀ w ∈ W, okw w) → V.length = A.length → W.length = B.length → 0 ≤ L → L ≤ pos W →
  (∀ b ∈ B, 0 ≤ b ∧ b ≤ 10000000000000) → (0 < L → j = A.length) → W.length + 1 ≤ k → money_Split.l2 k (V ++ W) s (A ++ B.map (s * ·)) (s * L) j = some (A ++ (dist W B L).map (s * ·), 0) := by
 intro W
 induction W with
 | nil =>
  intro V A B L j k hl h e2 e3 h0 h1 hB hj hk
  have : L = 0 := by unfold pos at h1; omega
  subst this
  exact l2_stop [] A B j (by omega)
 | cons w W ih =>
  intro V A B L j k hl h e2 e3 h0 h1 hB hj hk
  by_cases c : L = 0
  ·subst c
   exact l2_stop (w :: W) A B j (by omega)
  obtain ⟨k, rfl⟩ : ∃ m, k = m + 1 := ⟨k - 1, by omega⟩
  cases B with
  | nil => simp at e3
  | cons b B =>
   have hw := h w (by simp)
   have e3' : W.length = B.length := by simpa using e3
   have hp := pos_le (w :: W)
   rw [List.length_append, List.length_cons] at hl
   rw [List.length_cons] at hp hk
   rw [hj (by omega), l2_step hs (by omega) e2 e3' (by omega) (by omega) (hB b (by simp)) hw.1]
   have hlW : 0 < pos W → A.length + 1 < (V ++ w :: W).length := by
    intro hx
    have := pos_le W
    rw [List.length_append, List.length_cons]
    omega
   have hl' : ((V ++ [w]) ++ W).length ≤ 600 := by simp; omega
   have hB' : ∀ x ∈ B, 0 ≤ x ∧ x ≤ 10000000000000 := fun x hx => hB x (List.mem_cons_of_mem b hx)
   have h' : ∀ x ∈ W, okw x := fun x hx => h x (List.mem_cons_of_mem w hx)
   have lv : (V ++ w :: W).length ≤ 600 := by rw [List.length_append, List.length_cons]; omega
   rw [show V ++ w :: W = (V ++ [w]) ++ W by simp] at hlW lv ⊢
   rw [pos] at h1
   by_cases c1 : 0 < w
   ·rw [if_pos c1] at h1 ⊢
    rw [ih (V ++ [w]) (A ++ [s * (b + 1)]) B (L - 1) _ k hl' h' (by simp [e2]) e3' (by omega) (by omega) hB' (fun hx => by
     rw [next_at (hlW (by omega)) lv]
     simp) (by omega)]
    rw [dist, if_pos ⟨c1, by omega⟩]
    simp
   ·rw [if_neg c1] at h1 ⊢
    rw [ih (V ++ [w]) (A ++ [s * b]) B L _ k hl' h' (by simp [e2]) e3' h0 (by omega) hB' (fun hx => by
     rw [next_at (hlW (by omega)) lv]
     simp) (by omega)]
    rw [dist, if_neg (fun h => c1 h.1)]
    simp

theorem l1_run {n : Int} {ws : List Int} (h : good n ws) : ∀ (W V : List Int) (k : Nat), ws = V ++ W → W.length + ws.length + 40 ≤ k →
  money_Split.l1 k n ws (tot ws) (one n) ((quos n V (tot ws)).map (one n * ·)) (n - one n * tot (quos n V (tot ws))) ws ws.length V.length = some (parts n ws, 0) := by
 have hg := h
 obtain ⟨g1, g2, g3, g4, g5⟩ := h
 have hS : 0 < tot ws := by have := tot_nn g4; omega
 have hS1 := tot_le g4
 have hs := one_or n
 have n0 : 0 ≤ size n := by unfold size; split <;> omega
 have n1 : size n ≤ 10000000000000 := by unfold size; unfold may at g3; split <;> omega
 intro W
 induction W with
 | nil =>
  intro V k e hk
  obtain ⟨k, rfl⟩ : ∃ m, k = m + 1 := ⟨k - 1, by omega⟩
  rw [List.append_nil] at e
  subst e
  simp only [money_Split.l1]
  rw [if_neg (by omega)]
  have e1 : n - one n * tot (quos n ws (tot ws)) = one n * (size n - tot (quos n ws (tot ws))) := by rw [Int.mul_sub, one_size]
  rw [e1]
  have := l2_run hs ws [] [] (quos n ws (tot ws)) (size n - tot (quos n ws (tot ws))) 0 k (by simpa using g2) g4 (by simp) (by simp [quos]) (left_bd hg).1 (left_bd hg).2.1 (by
   intro b hb
   unfold quos at hb
   obtain ⟨w, hw, rfl⟩ := List.mem_map.1 hb
   have := quo_bd g3 (g4 w hw) hS (mem_le g4 hw)
   omega) (by simp) (by omega)
  simpa [parts] using this
 | cons w W ih =>
  intro V k e hk
  obtain ⟨k, rfl⟩ : ∃ m, k = m + 1 := ⟨k - 1, by omega⟩
  have lw : ws.length = V.length + W.length + 1 := by rw [e]; simp; omega
  have hw : w ∈ ws := by rw [e]; simp
  have hok := g4 w hw
  have hok' := hok
  obtain ⟨o0, o1⟩ := hok'
  have qb := quo_bd g3 hok hS (mem_le g4 hw)
  simp only [money_Split.l1]
  rw [if_pos (by omega), if_pos (by omega), if_pos (by omega), show rd ws (V.length : Int) = w by rw [e]; exact rd_mid V w W]
  rw [show money_size_int64.f n = some (size n) from XMoney.size (by unfold may at g3; constructor <;> omega)]
  simp only [Option.bind_some]
  rw [wu_id (n := w) o0 (by omega), mul64 n0 (by omega) o0 (by omega)]
  simp only [Option.bind_some]
  have hm : 0 ≤ size n * w := Int.mul_nonneg n0 o0
  have hm1 : size n * w < 18446744073709551616 * tot ws := by
   have a : size n * w ≤ size n * tot ws := Int.mul_le_mul_of_nonneg_left (mem_le g4 hw) n0
   have b : size n * tot ws < 18446744073709551616 * tot ws := Int.mul_lt_mul_of_pos_right (by omega) hS
   omega
  have hq : size n * w / 18446744073709551616 * 18446744073709551616 + size n * w % 18446744073709551616 = size n * w := by omega
  rw [wu_id (n := tot ws) (by omega) (by omega), div64 (by omega) (by omega) (by omega) (by omega) (by omega) (by omega), hq]
  simp only [Option.bind_some]
  rw [if_pos (by simp [quos]; omega), w64 (n := size n * w / tot ws) (by omega) (by omega)]
  have hT : 0 ≤ tot (quos n V (tot ws)) ∧ tot (quos n V (tot ws)) ≤ 10000000000000 * V.length := by
   have : ∀ x ∈ quos n V (tot ws), okw x := by
    intro b hb
    unfold quos at hb
    obtain ⟨v, hv, rfl⟩ := List.mem_map.1 hb
    have hv' : v ∈ ws := by rw [e]; simp [hv]
    have := quo_bd g3 (g4 v hv') hS (mem_le g4 hv')
    unfold okw
    omega
   refine ⟨tot_nn this, ?_⟩
   have := tot_le this
   simpa [quos] using this
  have e2 : wrap64 (one n * (size n * w / tot ws)) = one n * (size n * w / tot ws) := by
   rcases hs with hs | hs <;> rw [hs] <;> exact w64 (by omega) (by omega)
  have e3 : quos n (V ++ [w]) (tot ws) = quos n V (tot ws) ++ [size n * w / tot ws] := by simp [quos]
  have e4 : wrap64 (n - one n * tot (quos n V (tot ws)) - one n * (size n * w / tot ws)) = n - one n * tot (quos n (V ++ [w]) (tot ws)) := by
   rw [e3, tot_append]
   simp only [tot]
   unfold may at g3
   rcases hs with hs | hs <;> rw [hs] <;> (rw [w64 (by omega) (by omega)]; omega)
  rw [e2, e4, w64 (n := (V.length : Int) + 1) (by omega) (by omega)]
  have := ih (V ++ [w]) k (by rw [e]; simp) (by simp at hk; omega)
  rw [e3] at this ⊢
  simpa using this

theorem l0_run {n : Int} {ws : List Int} (hl : ws.length ≤ 600) (hn : ws.length ≠ 0) (hm : may n) : ∀ (W V : List Int) (k : Nat), ws = V ++ W → (∀ v ∈ V, okw v) → W.length + 2 * ws.length + 50 ≤ k →
  money_Split.l0 k n ws (tot V) ws ws.length V.length = some (splitS n ws) := by
 intro W
 induction W with
 | nil =>
  intro V k e hV hk
  obtain ⟨k, rfl⟩ : ∃ m, k = m + 2 := ⟨k - 2, by omega⟩
  rw [List.append_nil] at e
  subst e
  simp only [money_Split.l0]
  rw [if_neg (by omega)]
  by_cases c : tot ws = 0
  ·rw [if_pos c]
   unfold splitS
   rw [if_neg (by unfold good; omega)]
  ·rw [if_neg c]
   have g : good n ws := ⟨hn, hl, hm, hV, c⟩
   have : ∀ s, s = one n → money_Split.j2 (k + 1) n ws (tot ws) s = some (splitS n ws) := by
    intro s hs
    subst hs
    simp only [money_Split.j2]
    unfold splitS
    rw [if_pos g]
    have := l1_run g ws [] k (by simp) (by omega)
    simpa [quos, tot] using this
   unfold one at this
   by_cases d : n < 0
   ·rw [if_pos d]
    exact this _ (by rw [if_pos d])
   ·rw [if_neg d]
    exact this _ (by rw [if_neg d])
 | cons w W ih =>
  intro V k e hV hk
  obtain ⟨k, rfl⟩ : ∃ m, k = m + 1 := ⟨k - 1, by omega⟩
  have lw : ws.length = V.length + W.length + 1 := by rw [e]; simp; omega
  have hw : w ∈ ws := by rw [e]; simp
  have no : ¬okw w → splitS n ws = ([], 2) := by
   intro h
   unfold splitS
   rw [if_neg (fun g => h (g.2.2.2.1 w hw))]
  simp only [money_Split.l0]
  rw [if_pos (by omega), if_pos (by omega), if_pos (by omega), show rd ws (V.length : Int) = w by rw [e]; exact rd_mid V w W]
  by_cases c : w < 0
  ·rw [if_pos c, no (by unfold okw; omega)]
  ·rw [if_neg c, XMoney.may]
   simp only [Option.bind_some]
   by_cases d : w ≤ 10000000000000
   ·rw [if_pos (by rw [decide_eq_true_iff]; omega), w64 (n := (V.length : Int) + 1) (by omega) (by omega)]
    have t := tot_le hV
    have t0 := tot_nn hV
    rw [w64 (n := tot V + w) (by omega) (by omega)]
    have := ih (V ++ [w]) k (by rw [e]; simp) (by
     intro v hv
     rcases List.mem_append.1 hv with hv | hv
     ·exact hV v hv
     ·rw [List.mem_singleton.1 hv]; unfold okw; omega) (by simp at hk; omega)
    rw [tot_append] at this
    simpa [tot] using this
   ·rw [if_neg (by rw [decide_eq_true_iff]; omega), no (by unfold okw; omega)]

theorem split {n : Int} {ws : List Int} {k : Nat} (hk : 3 * ws.length + 60 ≤ k) : money_Split.f k n ws = some (splitS n ws) := by
 obtain ⟨k, rfl⟩ : ∃ m, k = m + 1 := ⟨k - 1, by omega⟩
 unfold money_Split.f
 have no : ¬(ws.length ≠ 0 ∧ ws.length ≤ 600 ∧ may n) → splitS n ws = ([], 2) := by
  intro h
  unfold splitS
  rw [if_neg (fun g => h ⟨g.1, g.2.1, g.2.2.1⟩)]
 by_cases c : (ws.length : Int) = 0
 ·rw [if_pos c, no (by omega)]
  simp only [money_Split.j0, if_true]
 rw [if_neg c]
 by_cases d : (ws.length : Int) > 600
 ·rw [if_pos d, no (by omega)]
  simp only [money_Split.j0, if_true]
 rw [if_neg d, XMoney.may]
 simp only [Option.bind_some]
 by_cases e : may n
 ·unfold may at e
  rw [decide_eq_true e]
  simp only [money_Split.j0, Bool.not_true, Bool.false_eq_true, if_false]
  have := l0_run (n := n) (ws := ws) (by omega) (by omega) e ws [] k (by simp) (by simp) (by omega)
  simpa [tot] using this
 ·rw [no (fun h => e h.2.2)]
  unfold may at e
  rw [decide_eq_false e]
  simp only [money_Split.j0, Bool.not_false, if_true]
end Go.Proofs.Ytchpeobenlnemaa.XSplit
end

section
namespace Go.Proofs.Ytchpeobenlnemaa.XSched
set_option linter.unusedVariables false
set_option linter.unusedSimpArgs false
open Go.RowKit Go.Proofs.Ytchpeobenlnemaa.S Go.Proofs.Ytchpeobenlnemaa.XNum Go.Proofs.Ytchpeobenlnemaa.XWide Go.Proofs.Ytchpeobenlnemaa.Rnd Go.Proofs.Ytchpeobenlnemaa.XMdiv Go.Proofs.Ytchpeobenlnemaa.XRate Go.Proofs.Ytchpeobenlnemaa.XPay Go.Proofs.Ytchpeobenlnemaa.XSum Go.Proofs.Ytchpeobenlnemaa.XSplit Go.Proofs.YtchpeobenlnemaaW.PrintWords Go.Proofs.YtchpeobenlnemaaW.PrintLast Go.Proofs.YtchpeobenlnemaaW.PrintMore

/-! ### may terms be? -/
def okt (kd pr : Int) (rates : List Int) (per : Int) : Prop := (1 ≤ kd ∧ kd ≤ 4) ∧ (1 ≤ pr ∧ pr ≤ 10000000000000) ∧ (1 ≤ per ∧ per ≤ 600) ∧ (1 ≤ (rates.length : Int) ∧ (rates.length : Int) ≤ per) ∧ ∀ r ∈ rates, okr r
instance (kd pr : Int) (rates : List Int) (per : Int) : Decidable (okt kd pr rates per) := inferInstanceAs (Decidable (_ ∧ _ ∧ _ ∧ _ ∧ _))
theorem rd_mem {l : List Int} {i : Int} (h0 : 0 ≤ i) (h1 : i < l.length) : rd l i ∈ l := by
 unfold rd
 have : i.toNat < l.length := by omega
 rw [List.getD_eq_getElem?_getD, List.getElem?_eq_getElem this, Option.getD_some]
 exact List.getElem_mem this
theorem has_l0 {l : List Int} (hn : l.length ≤ 600) : ∀ (d i k : Nat), i + d = l.length → d + 1 ≤ k → ∃ t, slices_IndexFunc_int64_int64__sched_Check_1.l0 k l l.length i = some t ∧ (0 ≤ t ↔ ¬∀ r ∈ l.drop i, okr r)
 | 0, i, k + 1, hi, _ => by
  refine ⟨-1, by rw [slices_IndexFunc_int64_int64__sched_Check_1.l0, if_neg (by omega)], ?_⟩
  rw [List.drop_eq_nil_of_le (by omega)]
  simp
 | d + 1, i, k + 1, hi, hk => by
  have hl : i < l.length := by omega
  rw [slices_IndexFunc_int64_int64__sched_Check_1.l0, if_pos (by omega), if_pos (by omega), if_pos (by omega), sched_Check_1.f, sched_may.f, within64, Option.bind_some, Option.bind_some, Option.bind_some]
  have e : rd l (i : Int) = l[i] := by
   unfold rd
   simp [hl]
  rw [List.drop_eq_getElem_cons hl, e]
  by_cases c : okr l[i]
  ·rw [decide_eq_true (show 0 ≤ l[i] ∧ l[i] ≤ 1000000000000 from c), if_neg (by simp), w64 (by omega) (by omega)]
   obtain ⟨t, h1, h2⟩ := has_l0 hn d (i + 1) k (by omega) (by omega)
   refine ⟨t, by exact_mod_cast h1, ?_⟩
   rw [h2, List.forall_mem_cons]
   exact not_congr ⟨fun h => ⟨c, h⟩, fun h => h.2⟩
  ·rw [decide_eq_false (show ¬(0 ≤ l[i] ∧ l[i] ≤ 1000000000000) from c), if_pos (by simp)]
   refine ⟨i, rfl, ?_⟩
   rw [List.forall_mem_cons]
   exact ⟨fun _ h => c h.1, fun _ => by omega⟩
theorem check_f {kd pr : Int} {rates : List Int} {per : Int} {k : Nat} (hk : 700 ≤ k) : sched_Check.f k kd pr rates per = some (if okt kd pr rates per then 0 else 2) := by
 unfold sched_Check.f
 rw [withinI, Option.bind_some]
 by_cases c1 : 1 ≤ kd ∧ kd ≤ 4
 ·rw [if_pos (decide_eq_true c1), within64, Option.bind_some]
  by_cases c2 : 1 ≤ pr ∧ pr ≤ 10000000000000
  ·rw [if_pos (decide_eq_true c2), withinI, Option.bind_some]
   by_cases c3 : 1 ≤ per ∧ per ≤ 600
   ·rw [if_pos (decide_eq_true c3), withinI, Option.bind_some]
    by_cases c4 : 1 ≤ (rates.length : Int) ∧ (rates.length : Int) ≤ per
    ·rw [if_pos (decide_eq_true c4)]
     unfold slices_ContainsFunc_int64_int64__sched_Check_1.f slices_IndexFunc_int64_int64__sched_Check_1.f
     obtain ⟨t, h1, h2⟩ := has_l0 (l := rates) (by omega) rates.length 0 k (by omega) (by omega)
     rw [show ((0 : Nat) : Int) = 0 from rfl] at h1
     rw [h1, Option.bind_some, Option.bind_some]
     rw [List.drop_zero] at h2
     by_cases c5 : ∀ r ∈ rates, okr r
     ·rw [if_neg (by rw [decide_eq_true_iff]; exact fun h => (h2.1 h) c5), if_pos ⟨c1, c2, c3, c4, c5⟩]
     ·rw [if_pos (decide_eq_true (h2.2 c5)), if_neg (fun h => c5 h.2.2.2.2)]
    ·rw [if_neg (by rw [decide_eq_true_iff]; exact c4), if_neg (fun h => c4 h.2.2.2.1)]
   ·rw [if_neg (by rw [decide_eq_true_iff]; exact c3), if_neg (fun h => c3 h.2.2.1)]
  ·rw [if_neg (by rw [decide_eq_true_iff]; exact c2), if_neg (fun h => c2 h.2.1)]
 ·rw [if_neg (by rw [decide_eq_true_iff]; exact c1), if_neg (fun h => c1 h.1)]

/-! ### an amount's equal parts -/
def ones (n : Nat) : List Int := List.replicate n 1
def eqs (P : Int) (n : Nat) : List Int := List.replicate (P % n).toNat (P / n + 1) ++ List.replicate (n - (P % n).toNat) (P / n)
theorem tot_rep (n : Nat) (x : Int) : tot (List.replicate n x) = n * x := by
 induction n with
 | zero => simp [tot]
 | succ n ih =>
  rw [List.replicate_succ, tot, ih]
  rw [show ((n + 1 : Nat) : Int) = n + 1 from by omega, Int.add_mul, Int.one_mul, Int.add_comm]
theorem dist_ones (q : Int) : ∀ (n L : Nat), L ≤ n → dist (ones n) (List.replicate n q) L = List.replicate L (q + 1) ++ List.replicate (n - L) q
 | n, 0, _ => by
  rw [show ((0 : Nat) : Int) = 0 from rfl, dist_zero]
  simp
 | n + 1, L + 1, h => by
  unfold ones
  rw [List.replicate_succ, List.replicate_succ, dist, if_pos (by omega), show ((L + 1 : Nat) : Int) - 1 = (L : Int) from by omega]
  have := dist_ones q n L (by omega)
  unfold ones at this
  rw [this, List.replicate_succ, show n + 1 - (L + 1) = n - L from by omega]
  rfl
theorem good_ones {P : Int} {n : Nat} (h0 : 1 ≤ P) (h1 : P ≤ 10000000000000) (n0 : 1 ≤ n) (n1 : n ≤ 600) : good P (ones n) := by
 refine ⟨by unfold ones; simp; omega, by unfold ones; simp; omega, ⟨by omega, by omega⟩, fun w hw => ?_, ?_⟩
 ·have : w = 1 := List.eq_of_mem_replicate hw
  subst this
  exact ⟨by omega, by omega⟩
 ·unfold ones
  rw [tot_rep]
  omega
theorem split_ones {P : Int} {n : Nat} (h0 : 1 ≤ P) (h1 : P ≤ 10000000000000) (n0 : 1 ≤ n) (n1 : n ≤ 600) : splitS P (ones n) = (eqs P n, 0) := by
 unfold splitS
 rw [if_pos (good_ones h0 h1 n0 n1)]
 have es : size P = P := by unfold size; rw [if_neg (by omega)]
 have eo : one P = 1 := by unfold one; rw [if_neg (by omega)]
 have et : tot (ones n) = n := by unfold ones; rw [tot_rep]; omega
 have eq_ : quos P (ones n) (n : Int) = List.replicate n (P / n) := by
  unfold quos ones
  rw [List.map_replicate, es, Int.mul_one]
 unfold parts
 rw [et, eq_, tot_rep, es, eo]
 have hm := Int.mul_ediv_add_emod P n
 have hlt := Int.emod_lt_of_pos P (show (0 : Int) < n by omega)
 have hnn := Int.emod_nonneg P (show (n : Int) ≠ 0 by omega)
 rw [show P - n * (P / n) = ((P % n).toNat : Int) from by omega, dist_ones _ _ _ (by omega)]
 unfold eqs
 simp
theorem eqs_tot {P : Int} {n : Nat} (n0 : 1 ≤ n) : tot (eqs P n) = P := by
 have hm := Int.mul_ediv_add_emod P n
 have hlt := Int.emod_lt_of_pos P (show (0 : Int) < n by omega)
 have hnn := Int.emod_nonneg P (show (n : Int) ≠ 0 by omega)
 unfold eqs
 rw [tot_append, tot_rep, tot_rep]
 obtain ⟨L, hL⟩ : ∃ L : Nat, (P % n).toNat = L := ⟨_, rfl⟩
 rw [hL]
 have e : ((n - L : Nat) : Int) = (n : Int) - L := by omega
 rw [e, Int.mul_add, Int.sub_mul, Int.mul_one]
 omega
theorem eqs_len {P : Int} {n : Nat} (n0 : 1 ≤ n) : (eqs P n).length = n := by
 have hlt := Int.emod_lt_of_pos P (show (0 : Int) < n by omega)
 unfold eqs
 simp
 omega
theorem eqs_nn {P : Int} {n : Nat} (hP : 0 ≤ P) (n0 : 1 ≤ n) : ∀ x ∈ eqs P n, 0 ≤ x := by
 intro x hx
 have hq : 0 ≤ P / (n : Int) := Int.ediv_nonneg hP (by omega)
 unfold eqs at hx
 rcases List.mem_append.1 hx with h | h
 ·have := List.eq_of_mem_replicate h
  omega
 ·have := List.eq_of_mem_replicate h
  omega

/-! ### the periods -/
/-- the level payment that holds in a period -/
def nlv (rates : List Int) (per at_ : Nat) (left lvl : Int) : Int := if (at_ : Int) = 0 ∨ sched_Build.rt rates at_ ≠ sched_Build.rt rates ((at_ : Int) - 1) then (level left (sched_Build.rt rates at_) ((per : Int) - at_)).1 else lvl
/-- what is paid, so many periods ahead of the last -/
def pay (kd : Int) (rates parts : List Int) (per d at_ : Nat) (left lvl : Int) : Int :=
 if d = 0 then left + nr (sched_Build.rt rates at_) left else if kd = 1 then mn (nlv rates per at_ left lvl) (left + nr (sched_Build.rt rates at_) left)
 else if kd = 2 then nr (sched_Build.rt rates at_) left + rd parts at_ else if kd = 3 then nr (sched_Build.rt rates at_) left else 0
def cons (x : S43) (q : List S43 × Int) : List S43 × Int := if q.2 = 0 then (x :: q.1, 0) else ([], q.2)
def fin (out : List S43) (q : List S43 × Int) : List S43 × Int := if q.2 = 0 then (out ++ q.1, 0) else ([], q.2)
theorem fin_cons (out : List S43) (x : S43) (q : List S43 × Int) : fin (out ++ [x]) q = fin out (cons x q) := by
 unfold fin cons
 split
 ·simp
 ·rfl
def bld (kd : Int) (rates parts : List Int) (per : Nat) : Nat → Nat → Int → Int → List S43 × Int
 | 0, _, _, _ => ([], 0)
 | d + 1, at_, left, lvl =>
  if left - (pay kd rates parts per d at_ left lvl - nr (sched_Build.rt rates at_) left) > 10000000000000 ∨ pay kd rates parts per d at_ left lvl > 10000000000000 then ([], 3)
  else cons ⟨nr (sched_Build.rt rates at_) left, pay kd rates parts per d at_ left lvl, pay kd rates parts per d at_ left lvl - nr (sched_Build.rt rates at_) left, left - (pay kd rates parts per d at_ left lvl - nr (sched_Build.rt rates at_) left)⟩
   (bld kd rates parts per d (at_ + 1) (left - (pay kd rates parts per d at_ left lvl - nr (sched_Build.rt rates at_) left)) (if kd = 1 then nlv rates per at_ left lvl else lvl))
structure Inv (kd : Int) (rates parts : List Int) (per d at_ : Nat) (left lvl : Int) : Prop where
 km : 1 ≤ kd ∧ kd ≤ 4
 sum : at_ + d = per
 pm : per ≤ 600
 r1 : 1 ≤ rates.length
 rs : ∀ r ∈ rates, okr r
 l0 : 0 ≤ left
 l1 : left ≤ 10000000000000
 v0 : 0 ≤ lvl
 v1 : lvl ≤ 20000000000000
 pt : kd = 2 → left = tot (parts.drop at_) ∧ parts.length = per ∧ ∀ x ∈ parts, 0 ≤ x
theorem rt_ok {rates : List Int} (r1 : 1 ≤ rates.length) (rs : ∀ r ∈ rates, okr r) {i : Int} (h : 0 ≤ i) : okr (sched_Build.rt rates i) := by
 unfold sched_Build.rt mn
 refine rs _ (rd_mem ?_ ?_) <;> split <;> omega
section
variable {kd : Int} {rates parts : List Int} {per d at_ : Nat} {left lvl : Int}
theorem Inv.rt (h : Inv kd rates parts per d at_ left lvl) : okr (sched_Build.rt rates at_) := rt_ok h.r1 h.rs (by omega)
theorem Inv.n0 (h : Inv kd rates parts per d at_ left lvl) : 0 ≤ nr (sched_Build.rt rates at_) left := nr_nn h.rt h.l0
theorem Inv.n1 (h : Inv kd rates parts per d at_ left lvl) : nr (sched_Build.rt rates at_) left ≤ left := nr_le h.rt h.l0
theorem Inv.lev (h : Inv kd rates parts per (d + 1) at_ left lvl) : level left (sched_Build.rt rates at_) ((per : Int) - at_) = (lv (sched_Build.rt rates at_) (d + 1) left, 0) := by
 have := h.sum
 have := h.pm
 unfold level
 rw [if_pos ⟨h.l0, h.l1, h.rt, by omega, by omega⟩, show ((per : Int) - at_).toNat = d + 1 from by omega]
theorem Inv.nl (h : Inv kd rates parts per (d + 1) at_ left lvl) : 0 ≤ nlv rates per at_ left lvl ∧ nlv rates per at_ left lvl ≤ 20000000000000 := by
 have a0 := h.n0
 have a1 := h.n1
 have a2 := h.l1
 unfold nlv
 split
 ·rw [h.lev]
  have b0 := lv_nn h.rt (n := d + 1) (by omega) h.l0 h.l1
  have b1 := lv_le h.rt (n := d + 1) (by omega) h.l0 h.l1
  dsimp only
  omega
 ·exact ⟨h.v0, h.v1⟩
theorem tot_drop {l : List Int} {i : Nat} (h : i < l.length) : tot (l.drop i) = rd l i + tot (l.drop (i + 1)) := by
 rw [List.drop_eq_getElem_cons h, tot]
 congr 1
 unfold rd
 simp [h]
theorem tot_nonneg {l : List Int} (h : ∀ x ∈ l, 0 ≤ x) : 0 ≤ tot l := by
 induction l with
 | nil => simp [tot]
 | cons x l ih =>
  have := h x (by simp)
  have := ih fun w hw => h w (by simp [hw])
  unfold tot
  omega
/-- what is paid, and what is left then -/
theorem Inv.paid (h : Inv kd rates parts per (d + 1) at_ left lvl) : 0 ≤ pay kd rates parts per d at_ left lvl ∧ pay kd rates parts per d at_ left lvl ≤ 20000000000000 ∧ 0 ≤ left - (pay kd rates parts per d at_ left lvl - nr (sched_Build.rt rates at_) left) ∧ left - (pay kd rates parts per d at_ left lvl - nr (sched_Build.rt rates at_) left) ≤ 20000000000000 ∧
  (kd = 2 → left - (pay kd rates parts per d at_ left lvl - nr (sched_Build.rt rates at_) left) = tot (parts.drop (at_ + 1)) ∧ 0 ≤ rd parts at_ ∧ rd parts at_ ≤ left) := by
 have a0 := h.n0
 have a1 := h.n1
 have a2 := h.l1
 have hs := h.sum
 obtain ⟨b0, b1⟩ := h.nl
 have k2 : kd = 2 → left = rd parts at_ + tot (parts.drop (at_ + 1)) ∧ 0 ≤ rd parts at_ ∧ 0 ≤ tot (parts.drop (at_ + 1)) ∧ (d = 0 → tot (parts.drop (at_ + 1)) = 0) := by
  intro hk
  obtain ⟨e, hl, hn⟩ := h.pt hk
  refine ⟨by rw [e]; exact tot_drop (by omega), hn _ (rd_mem (by omega) (by omega)), tot_nonneg (fun x hx => hn x (List.mem_of_mem_drop hx)), fun hd => ?_⟩
  rw [List.drop_eq_nil_of_le (by omega)]
  rfl
 have hp : pay kd rates parts per d at_ left lvl = if d = 0 then left + nr (sched_Build.rt rates at_) left else if kd = 1 then mn (nlv rates per at_ left lvl) (left + nr (sched_Build.rt rates at_) left) else if kd = 2 then nr (sched_Build.rt rates at_) left + rd parts at_ else if kd = 3 then nr (sched_Build.rt rates at_) left else 0 := rfl
 generalize nr (sched_Build.rt rates at_) left = n at *
 generalize nlv rates per at_ left lvl = v at *
 generalize tot (parts.drop (at_ + 1)) = T at *
 generalize rd parts at_ = R at *
 rw [hp]
 have hl0 := h.l0
 unfold mn
 by_cases hk : kd = 2
 ·obtain ⟨e1, e2, e3, e4⟩ := k2 hk
  subst hk
  by_cases hd : d = 0
  ·have := e4 hd
   rw [if_pos hd]
   omega
  ·rw [if_neg hd, if_neg (by omega), if_pos rfl]
   omega
 ·rw [if_neg hk]
  by_cases hd : d = 0
  ·rw [if_pos hd]
   omega
  ·rw [if_neg hd]
   by_cases c1 : kd = 1
   ·rw [if_pos c1]
    split <;> omega
   ·rw [if_neg c1]
    split <;> omega
theorem Inv.next (h : Inv kd rates parts per (d + 1) at_ left lvl) (hc : ¬(left - (pay kd rates parts per d at_ left lvl - nr (sched_Build.rt rates at_) left) > 10000000000000 ∨ pay kd rates parts per d at_ left lvl > 10000000000000)) :
  Inv kd rates parts per d (at_ + 1) (left - (pay kd rates parts per d at_ left lvl - nr (sched_Build.rt rates at_) left)) (if kd = 1 then nlv rates per at_ left lvl else lvl) := by
 obtain ⟨p0, p1, p2, p3, p4⟩ := h.paid
 have hs := h.sum
 have hn := h.nl
 have hv0 := h.v0
 have hv1 := h.v1
 refine ⟨h.km, by omega, h.pm, h.r1, h.rs, p2, by omega, ?_, ?_, fun hk => ⟨(p4 hk).1, (h.pt hk).2⟩⟩
 ·split <;> omega
 ·split <;> omega
/-- the program's rows -/
theorem rows_run : ∀ (d at_ : Nat) (left lvl : Int) (out : List S43) (n k : Nat), Inv kd rates parts per d at_ left lvl → d + 1 ≤ n → 800 ≤ k →
  sched_Build.rows k kd rates parts per n at_ left lvl out = some (fin out (bld kd rates parts per d at_ left lvl))
 | 0, at_, left, lvl, out, n + 1, k, h, _, hk => by
  have := h.sum
  rw [sched_Build.rows, if_neg (by omega)]
  unfold bld fin
  rw [if_pos rfl, List.append_nil]
 | d + 1, at_, left, lvl, out, n + 1, k, h, hn, hk => by
  have hs := h.sum
  have a0 := h.n0
  have a1 := h.n1
  have a2 := h.l0
  have a3 := h.l1
  have hpm := h.pm
  obtain ⟨p0, p1, p2, p3, p4⟩ := h.paid
  have hnl := h.nl
  have hnx := h.next
  have hlev := h.lev
  rw [sched_Build.rows, if_pos (by omega), interest_f ⟨by omega, by omega⟩ (by omega), int_eq h.rt a2 (by omega), Option.bind_some, if_pos rfl]
  dsimp only
  have q : (if (at_ : Int) < (per : Int) - 1 then sched_Build.pay k kd rates parts per at_ left lvl (nr (sched_Build.rt rates at_) left) else some (wrap64 (left + nr (sched_Build.rt rates at_) left), lvl)) =
    some (pay kd rates parts per d at_ left lvl, if d = 0 then lvl else if kd = 1 then nlv rates per at_ left lvl else lvl) := by
   rw [w64 (n := left + nr (sched_Build.rt rates at_) left) (by omega) (by omega)]
   by_cases c : d = 0
   ·rw [if_neg (by omega)]
    unfold pay
    rw [if_pos c, if_pos c]
   ·rw [if_pos (by omega), if_neg c]
    unfold sched_Build.pay pay
    rw [if_neg c]
    have hkm := h.km
    by_cases c1 : kd = 1
    ·rw [if_pos c1, if_pos c1, if_pos c1, w64 (n := (per : Int) - at_) (by omega) (by omega), level_f hk, w64 (n := left + nr (sched_Build.rt rates at_) left) (by omega) (by omega)]
     unfold nlv
     split
     ·rfl
     ·rfl
    ·rw [if_neg c1, if_neg c1, if_neg c1]
     by_cases c2 : kd = 2
     ·obtain ⟨_, e1, e2⟩ := p4 c2
      rw [if_pos c2, if_pos c2, w64 (by omega) (by omega)]
     ·rw [if_neg c2, if_neg c2]
      by_cases c3 : kd = 3
      ·rw [if_pos c3, if_pos c3]
      ·rw [if_neg c3, if_neg c3, if_pos (by omega)]
  rw [q, Option.bind_some]
  dsimp only
  conv => rhs; unfold bld
  generalize pay kd rates parts per d at_ left lvl = P at *
  generalize nr (sched_Build.rt rates at_) left = I at *
  rw [w64 (n := P - I) (by omega) (by omega), w64 (n := left - (P - I)) (by omega) (by omega)]
  by_cases c : left - (P - I) > 10000000000000 ∨ P > 10000000000000
  ·rw [if_pos (by unfold mx; split <;> omega), if_pos c]
   rfl
  ·rw [if_neg (by unfold mx; split <;> omega), if_neg c, show ((at_ : Int) + 1) = ((at_ + 1 : Nat) : Int) from by omega]
   have hnx' := hnx c
   have hn1 : (if d = 0 then lvl else if kd = 1 then nlv rates per at_ left lvl else lvl) = (if kd = 1 then nlv rates per at_ left lvl else lvl) ∨ d = 0 := by
    by_cases hd : d = 0
    ·exact .inr hd
    ·rw [if_neg hd]; exact .inl rfl
   rcases hn1 with e | hd
   ·rw [e, rows_run d (at_ + 1) _ _ _ n k hnx' (by omega) hk, fin_cons]
   ·subst hd
    rw [if_pos rfl]
    have hI : Inv kd rates parts per 0 (at_ + 1) (left - (P - I)) lvl := ⟨h.km, hnx'.sum, h.pm, h.r1, h.rs, hnx'.l0, hnx'.l1, h.v0, h.v1, hnx'.pt⟩
    rw [rows_run 0 (at_ + 1) _ _ _ n k hI (by omega) hk, fin_cons]
    rfl
end
/-- what Build comes to -/
def build (kd pr : Int) (rates : List Int) (per : Int) : List S43 × Int := if okt kd pr rates per then bld kd rates (eqs pr per.toNat) per.toNat per.toNat 0 pr 0 else ([], 2)
theorem inv0 {kd pr per : Int} {rates : List Int} (h : okt kd pr rates per) : Inv kd rates (eqs pr per.toNat) per.toNat per.toNat 0 pr 0 := by
 obtain ⟨h1, h2, h3, h4, h5⟩ := h
 refine ⟨h1, by omega, by omega, by omega, h5, by omega, h2.2, Int.le_refl _, by omega, fun _ => ⟨?_, eqs_len (by omega), eqs_nn (by omega) (by omega)⟩⟩
 rw [List.drop_zero, eqs_tot (by omega)]
theorem fin_nil (q : List S43 × Int) (h : q.2 = 0 ∨ q.1 = []) : fin [] q = q := by
 unfold fin
 obtain ⟨a, b⟩ := q
 split
 ·rename_i c
  simp at c
  subst c
  rfl
 ·rename_i c
  rcases h with h | h
  ·exact absurd h c
  ·simp at h
   subst h
   rfl
theorem cons_err {x : S43} {q : List S43 × Int} (h : q.2 = 0 ∨ q.1 = [] ∧ q.2 = 3) : (cons x q).2 = 0 ∨ (cons x q).1 = [] ∧ (cons x q).2 = 3 := by
 unfold cons
 by_cases c : q.2 = 0
 ·rw [if_pos c]
  exact .inl rfl
 ·rw [if_neg c]
  exact .inr ⟨rfl, (h.resolve_left c).2⟩
theorem bld_err (kd : Int) (rates parts : List Int) (per : Nat) : ∀ (d at_ : Nat) (left lvl : Int), (bld kd rates parts per d at_ left lvl).2 = 0 ∨ (bld kd rates parts per d at_ left lvl).1 = [] ∧ (bld kd rates parts per d at_ left lvl).2 = 3
 | 0, _, _, _ => .inl rfl
 | d + 1, at_, left, lvl => by
  unfold bld
  split
  ·exact .inr ⟨rfl, rfl⟩
  ·exact cons_err (bld_err kd rates parts per d _ _ _)
theorem build_f {kd pr per : Int} {rates : List Int} {k : Nat} (hk : 2000 ≤ k) : sched_Build.f k kd pr rates per = some (build kd pr rates per) := by
 unfold sched_Build.f build
 rw [check_f (by omega), Option.bind_some]
 by_cases c : okt kd pr rates per
 ·obtain ⟨h1, h2, h3, h4, h5⟩ := id c
  have hp : ((per.toNat : Nat) : Int) = per := by omega
  rw [if_pos c, if_pos rfl, if_pos ⟨by omega, h1.1, h1.2, h3.1, h3.2, by omega, by omega⟩]
  have hs := split (n := pr) (ws := ones per.toNat) (k := k) (by unfold ones; simp; omega)
  rw [split_ones h2.1 h2.2 (by omega) (by omega)] at hs
  unfold ones at hs
  rw [hs, Option.bind_some, if_pos ⟨rfl, by rw [eqs_len (by omega)]; exact hp⟩, if_pos c]
  have hr := rows_run (per := per.toNat) per.toNat 0 pr 0 [] (per.toNat + 1) k (inv0 c) (by omega) (by omega)
  rw [hp] at hr
  rw [show (0 : Int) = ((0 : Nat) : Int) from rfl] 
  rw [show ((0 : Nat) : Int) = (0 : Int) from rfl] at hr ⊢
  rw [hr, fin_nil _ ((bld_err kd rates (eqs pr per.toNat) per.toNat per.toNat 0 pr 0).imp_right And.left)]
 ·rw [if_neg c, if_neg (by omega), if_neg c]
end Go.Proofs.Ytchpeobenlnemaa.XSched
end

section
namespace Go.Proofs.Ytchpeobenlnemaa.S
open Go.RowKit Go.Proofs.YtchpeobenlnemaaW.PrintWords Go.Proofs.YtchpeobenlnemaaW.PrintLast Go.Proofs.YtchpeobenlnemaaW.PrintMore
attribute [local go_sem] max2_int min2_int max_two min_two max_three min_three max_four min_four   -- for this text's walks alone
attribute [local go_sem] Go.Proofs.Ytchpeobenlnemaa.XWalk.cell2
set_option linter.unusedVariables false
set_option linter.unusedSimpArgs false

theorem eqA43 (d : Nat) (w : World) (x0 y0 : Int) (x1 y1 : Int) (x2 y2 : Int) (x3 y3 : Int) :
  (Op.equalIn (d + 2) 43 (.agg #[.int .i64 x0, .int .i64 x1, .int .i64 x2, .int .i64 x3]) (.agg #[.int .i64 y0, .int .i64 y1, .int .i64 y2, .int .i64 y3])).run Try.prog w = .ok (x0 == y0 && (x1 == y1 && (x2 == y2 && (x3 == y3)))) w := by
 refine eqA_of Try.underlying43 (by kernel_rfl) ?_
 refine eqf_cons (by rfl) (by go_simp; rfl) (by go_simp; rfl) (by go_simp) ?_
 refine eqf_cons (by rfl) (by go_simp; rfl) (by go_simp; rfl) (by go_simp) ?_
 refine eqf_cons (by rfl) (by go_simp; rfl) (by go_simp; rfl) (by go_simp) ?_
 exact eqf_last (by rfl) (by go_simp; rfl) (by go_simp; rfl) (by go_simp)
end Go.Proofs.Ytchpeobenlnemaa.S
end

section
namespace Go.Proofs.Ytchpeobenlnemaa.S
open Go.RowKit Go.Proofs.YtchpeobenlnemaaW.PrintWords Go.Proofs.YtchpeobenlnemaaW.PrintLast Go.Proofs.YtchpeobenlnemaaW.PrintMore
attribute [local go_sem] max2_int min2_int max_two min_two max_three min_three max_four min_four   -- for this text's walks alone
attribute [local go_sem] Go.Proofs.Ytchpeobenlnemaa.XWalk.cell2
set_option linter.unusedVariables false
set_option linter.unusedSimpArgs false

attribute [local go_sem high] eqA43
/-! ### lombardlaw08_alive: function 9 -/
def lombardlaw08_alive.f (k : Nat)  : Option (Bool) := (sched_Build.f k 2 1000 (([10000000000] : List Int)) 4).bind fun bt197 => ((sched_Level.f k 1000 10000000000 4).bind fun bt201 => (if bt197.2 = 0 then (if (bt197.1.length : Int) = 4 then (if 1 < (bt197.1.length : Int) then (if (((rd_T43 bt197.1 1).f0) == 8 && (((rd_T43 bt197.1 1).f1) == 258 && (((rd_T43 bt197.1 1).f2) == 250 && (((rd_T43 bt197.1 1).f3) == 500)))) = true then (if 3 < (bt197.1.length : Int) then (if ((rd_T43 bt197.1 3).f1) = 252 then (if bt201.1 = 257 then (some (bt201.2 == 0)) else (some false)) else (some false)) else (none)) else (some false)) else (none)) else (some false)) else (some false)))
set_option maxHeartbeats 8000000 in
set_option maxRecDepth 100000 in
theorem lombardlaw08_alive.calls (k : Nat)  (r : Bool) (w : World) (h : lombardlaw08_alive.f k  = some r) :
  Calls Try.prog 9 #[] w fun e w' => e = .returned (.bool r) ∧ Below w.heap.size w w' := by
 have hu27 := Try.underlying27
 have hu43 := Try.underlying43
 have HB := Aside0.mk (Below.refl w.heap.size w)
 have H : ((sched_Build.f k 2 1000 (([10000000000] : List Int)) 4).bind fun bt197 => ((sched_Level.f k 1000 10000000000 4).bind fun bt201 => (if bt197.2 = 0 then (if (bt197.1.length : Int) = 4 then (if 1 < (bt197.1.length : Int) then (if (((rd_T43 bt197.1 1).f0) == 8 && (((rd_T43 bt197.1 1).f1) == 258 && (((rd_T43 bt197.1 1).f2) == 250 && (((rd_T43 bt197.1 1).f3) == 500)))) = true then (if 3 < (bt197.1.length : Int) then (if ((rd_T43 bt197.1 3).f1) = 252 then (if bt201.1 = 257 then (some (bt201.2 == 0)) else (some false)) else (some false)) else (none)) else (some false)) else (none)) else (some false)) else (some false)))) = some r := h
 clear h
 obtain ⟨y194, hy194⟩ : ∃ y_ : List Int, y_ = (([10000000000] : List Int)) := ⟨_, rfl⟩
 replace H : ((sched_Build.f k 2 1000 y194 4).bind fun bt197 => ((sched_Level.f k 1000 10000000000 4).bind fun bt201 => (if bt197.2 = 0 then (if (bt197.1.length : Int) = 4 then (if 1 < (bt197.1.length : Int) then (if (((rd_T43 bt197.1 1).f0) == 8 && (((rd_T43 bt197.1 1).f1) == 258 && (((rd_T43 bt197.1 1).f2) == 250 && (((rd_T43 bt197.1 1).f3) == 500)))) = true then (if 3 < (bt197.1.length : Int) then (if ((rd_T43 bt197.1 3).f1) = 252 then (if bt201.1 = 257 then (some (bt201.2 == 0)) else (some false)) else (some false)) else (none)) else (some false)) else (none)) else (some false)) else (some false)))) = some r := by first | (rw [hy194]; with_reducible exact H) | (have H2_ := (Option.bind_some _ _).symm.trans H; rw [hy194]; with_reducible exact H2_) | (have H2_ := (Option.bind_some _ _).symm.trans H; with_reducible exact H2_) | with_reducible exact H | (rw [hy194]; exact H) | exact H
 have Ny194 := Aside0.mk hy194
 clear hy194
 replace H := Option.bind_eq_some_iff.mp H
 obtain ⟨⟨t197, t200⟩, A10, H⟩ := H
 replace H : ((sched_Level.f k 1000 10000000000 4).bind fun bt201 => (if t200 = 0 then (if (t197.length : Int) = 4 then (if 1 < (t197.length : Int) then (if (((rd_T43 t197 1).f0) == 8 && (((rd_T43 t197 1).f1) == 258 && (((rd_T43 t197 1).f2) == 250 && (((rd_T43 t197 1).f3) == 500)))) = true then (if 3 < (t197.length : Int) then (if ((rd_T43 t197 3).f1) = 252 then (if bt201.1 = 257 then (some (bt201.2 == 0)) else (some false)) else (some false)) else (none)) else (some false)) else (none)) else (some false)) else (some false))) = some r := H
 have A1 := Aside0.mk A10
 clear A10
 replace H := Option.bind_eq_some_iff.mp H
 obtain ⟨⟨t201, t202⟩, A20, H⟩ := H
 replace H : (if t200 = 0 then (if (t197.length : Int) = 4 then (if 1 < (t197.length : Int) then (if (((rd_T43 t197 1).f0) == 8 && (((rd_T43 t197 1).f1) == 258 && (((rd_T43 t197 1).f2) == 250 && (((rd_T43 t197 1).f3) == 500)))) = true then (if 3 < (t197.length : Int) then (if ((rd_T43 t197 3).f1) = 252 then (if t201 = 257 then (some (t202 == 0)) else (some false)) else (some false)) else (none)) else (some false)) else (none)) else (some false)) else (some false)) = some r := H
 have A2 := Aside0.mk A20
 clear A20
 have HC3 := Aside0.mk H
 clear H
 go_enter Try.func9, Try.ntmps9
 go_upto_region 3 with (first | ((with_reducible refine gate_dst (N := 6) rfl ?_); (try (refine gate_guard (by rfl) ?_; dsimp only)); refine Kd.R_lit (Kd.int .i64) _ 2 ?hg (N := 6) ?hd (xs := ([10000000000] : List Int)) (inner := [.int .i64 10000000000]) (ok := fun _ => True) (okp := fun _ => True) ?hr ?hp (fun _ hk => hk) trivial (Below.refl _ _) (Nat.le_refl _) (by simp) ?_; (case hd => rfl); (case hg => rfl); (case hr => first | (go_simp; done) | (go_simp; rfl)); (case hp => exact (Reps.one (show Kd.M (Kd.int .i64) _ _ _ 10000000000 [.int .i64 10000000000] from rfl) (Reps.none _ _))); intro v195 w4 ho5 hb hg_ hnew_; clear hg_ hnew_; (first | rw [← Ny194.out] at ho5 | (simp only [Int.reduceToNat] at ho5; rw [← Ny194.out] at ho5)); have n0_ := Aside0.mk (Kd.R_lower ho5 (below_size (by repeat (first | (with_reducible first | exact HB.out | apply below_alloc | apply pw_below_drewN | apply below_drew1) | exact HB.out)))); have n1_ := Aside0.mk (below_step (by repeat (first | (with_reducible first | exact HB.out | apply below_alloc | apply pw_below_drewN | apply below_drew1) | exact HB.out)) hb); clear HB; have HO196 := n0_; have HB := n1_; clear n0_ n1_; clear hb ho5; obtain ⟨Ao6, co6, eo6⟩ := Kd.R_slice HO196.out; subst eo6) | ((with_reducible refine gate_callee (f := 11) rfl ?_); refine goesL_ (some 8) rfl rfl Try.func11 (by kernel_rfl) rfl #[.agg #[.int .i64 2, .int .i64 1000, .slice Ao6 y194.length co6, .int .i64 4]] rfl (by (try simp only [List.map_toArray, List.map_cons, List.map_nil]); first | done | rfl | (simp only [List.length_drop, List.length_take]; rfl)) ?_; (with_reducible refine (sched_Build.calls k 2 1000 _ _ y194 4 t197 t200 _ ?side1 ?side2 A1.out).mono ?_); (case side1 => repeat (first | exact (Kd.R_reads' HO196.out).2.2 | (with_reducible refine Kd.C_alloc ?_ _) | (with_reducible refine Kd.C_drewN ?_ _) | (with_reducible refine Kd.C_drew ?_))); (case side2 => exact (Kd.R_reads' HO196.out).2.1); rintro e w7 ⟨v198, rfl, ho0, hb⟩; refine ⟨_, rfl, ?_⟩; have n0_ := Aside0.mk (Kd.R_below (by (with_reducible repeat (first | apply Kd.R_alloc | apply Kd.R_drewN | apply Kd.R_drew)); exact HO196.out) hb); have n1_ := Aside0.mk (Kd.R_lower ho0 (below_size (by repeat (first | (with_reducible first | exact HB.out | apply below_alloc | apply pw_below_drewN | apply below_drew1) | exact HB.out)))); have n2_ := Aside0.mk (below_step (by repeat (first | (with_reducible first | exact HB.out | apply below_alloc | apply pw_below_drewN | apply below_drew1) | exact HB.out)) hb); clear HO196; clear HB; have HO196 := n0_; have HO199 := n1_; have HB := n2_; clear n0_ n1_ n2_; (try clear hb); (try clear hb2); (try clear hk); (try clear hi); (try clear ho0)) | ((with_reducible refine gate_callee (f := 17) rfl ?_); refine goesL_ (some 12) rfl rfl Try.func17 (by kernel_rfl) rfl #[.int .i64 1000, .int .i64 10000000000, .int .i64 4] rfl (by (try simp only [List.map_toArray, List.map_cons, List.map_nil]); first | done | rfl | (simp only [List.length_drop, List.length_take]; rfl)) ?_; (with_reducible refine (sched_Level.calls k 1000 10000000000 4 t201 t202 _ A2.out).mono ?_); rintro e w8 ⟨rfl, hb⟩; refine ⟨_, rfl, ?_⟩; have n0_ := Aside0.mk (Kd.R_below (by (with_reducible repeat (first | apply Kd.R_alloc | apply Kd.R_drewN | apply Kd.R_drew)); exact HO196.out) hb); have n1_ := Aside0.mk (Kd.R_below (by (with_reducible repeat (first | apply Kd.R_alloc | apply Kd.R_drewN | apply Kd.R_drew)); exact HO199.out) hb); have n2_ := Aside0.mk (below_step (by repeat (first | (with_reducible first | exact HB.out | apply below_alloc | apply pw_below_drewN | apply below_drew1) | exact HB.out)) hb); clear HO196; clear HO199; clear HB; have HO196 := n0_; have HO199 := n1_; have HB := n2_; clear n0_ n1_ n2_; (try clear hb); (try clear hb2); (try clear hk); (try clear hi)))
 have H := HC3.out
 clear HC3
 by_cases c9 : t200 = 0
 ·rw [if_pos c9] at H
  have c9b0 : (t200 == 0) = true := beq_iff_eq.mpr c9
  have c9b1 : (t200 != 0) = false := bne_eq_false_iff_eq.mpr c9
  clear c9
  by_cases c10 : (t197.length : Int) = 4
  ·rw [if_pos c10] at H
   have c10b0 : ((t197.length : Int) == 4) = true := beq_iff_eq.mpr c10
   have c10b1 : ((t197.length : Int) != 4) = false := bne_eq_false_iff_eq.mpr c10
   clear c10
   by_cases c11 : 1 < (t197.length : Int)
   ·rw [if_pos c11] at H
    have c11b0 : decide (1 < (t197.length : Int)) = true := decide_eq_true c11
    have c11b1 : decide (1 < t197.length) = true := decide_eq_true (by omega)
    clear c11
    by_cases c12 : (((rd_T43 t197 1).f0) == 8 && (((rd_T43 t197 1).f1) == 258 && (((rd_T43 t197 1).f2) == 250 && (((rd_T43 t197 1).f3) == 500)))) = true
    ·rw [if_pos c12] at H
     have c12b0 : (((rd_T43 t197 1).f0) == 8 && (((rd_T43 t197 1).f1) == 258 && (((rd_T43 t197 1).f2) == 250 && (((rd_T43 t197 1).f3) == 500)))) = true := c12
     (try (have c12b1 : decide (((rd_T43 t197 1).f0) = 8 && (((rd_T43 t197 1).f1) == 258 && (((rd_T43 t197 1).f2) == 250 && (((rd_T43 t197 1).f3) == 500)))) = true := by simpa using c12))
     (try (have c12b2 : (((rd_T43 t197 1).f0) == 8 && (((rd_T43 t197 1).f1) == 258 && (((rd_T43 t197 1).f2) == 250 && (((rd_T43 t197 1).f3) == 500)))) = true := by simpa using c12))
     clear c12
     by_cases c13 : 3 < (t197.length : Int)
     ·rw [if_pos c13] at H
      have c13b0 : decide (3 < (t197.length : Int)) = true := decide_eq_true c13
      have c13b1 : decide (3 < t197.length) = true := decide_eq_true (by omega)
      clear c13
      by_cases c14 : ((rd_T43 t197 3).f1) = 252
      ·rw [if_pos c14] at H
       have c14b0 : (((rd_T43 t197 3).f1) == 252) = true := beq_iff_eq.mpr c14
       have c14b1 : (((rd_T43 t197 3).f1) != 252) = false := bne_eq_false_iff_eq.mpr c14
       clear c14
       by_cases c15 : t201 = 257
       ·rw [if_pos c15] at H
        have c15b0 : (t201 == 257) = true := beq_iff_eq.mpr c15
        have c15b1 : (t201 != 257) = false := bne_eq_false_iff_eq.mpr c15
        clear c15
        obtain rfl := Option.some.inj H
        obtain ⟨Ao16, co16, eo16⟩ := Kd.R_slice HO199.out
        subst eo16
        have p203 : 0 ≤ (1 : Int) := (by omega)
        have q203 : 1 < (t197.length : Int) := of_decide_eq_true (by first | (with_reducible assumption) | assumption)
        obtain ⟨ad203, e203, hx203_0, hx203_1, hx203_2, hx203_3⟩ := at_T43 (Kd.R_reads' HO199.out).2.2 1 p203 q203
        cases e203
        (try simp only [show (1 : Int).toNat = 1 from rfl, Nat.reduceMul, Nat.reduceEqDiff, Go.Addr.add, ↓reduceIte] at hx203_0)
        (try simp only [show (1 : Int).toNat = 1 from rfl, Nat.reduceMul, Nat.reduceEqDiff, Go.Addr.add, ↓reduceIte] at hx203_1)
        (try simp only [show (1 : Int).toNat = 1 from rfl, Nat.reduceMul, Nat.reduceEqDiff, Go.Addr.add, ↓reduceIte] at hx203_2)
        (try simp only [show (1 : Int).toNat = 1 from rfl, Nat.reduceMul, Nat.reduceEqDiff, Go.Addr.add, ↓reduceIte] at hx203_3)
        have qi203 : (1 < t197.length) = True := eq_true (by omega)
        (try rw [show ((1 : Int)).toNat = 1 from rfl] at hx203_0)
        (try rw [show 1 * 4 = 4 from rfl] at hx203_0)
        (try rw [show ((1 : Int)).toNat = 1 from rfl] at hx203_1)
        (try rw [show 1 * 4 = 4 from rfl] at hx203_1)
        (try rw [show ((1 : Int)).toNat = 1 from rfl] at hx203_2)
        (try rw [show 1 * 4 = 4 from rfl] at hx203_2)
        (try rw [show ((1 : Int)).toNat = 1 from rfl] at hx203_3)
        (try rw [show 1 * 4 = 4 from rfl] at hx203_3)
        replace p203 := eq_true p203
        replace q203 := eq_true q203
        have p204 : 0 ≤ (3 : Int) := (by omega)
        have q204 : 3 < (t197.length : Int) := of_decide_eq_true (by first | (with_reducible assumption) | assumption)
        obtain ⟨ad204, e204, hx204_0, hx204_1, hx204_2, hx204_3⟩ := at_T43 (Kd.R_reads' HO199.out).2.2 3 p204 q204
        obtain rfl : ad203 = ad204 := (by injection e204)
        (try simp only [show (3 : Int).toNat = 3 from rfl, Nat.reduceMul, Nat.reduceEqDiff, Go.Addr.add, ↓reduceIte] at hx204_0)
        (try simp only [show (3 : Int).toNat = 3 from rfl, Nat.reduceMul, Nat.reduceEqDiff, Go.Addr.add, ↓reduceIte] at hx204_1)
        (try simp only [show (3 : Int).toNat = 3 from rfl, Nat.reduceMul, Nat.reduceEqDiff, Go.Addr.add, ↓reduceIte] at hx204_2)
        (try simp only [show (3 : Int).toNat = 3 from rfl, Nat.reduceMul, Nat.reduceEqDiff, Go.Addr.add, ↓reduceIte] at hx204_3)
        have qi204 : (3 < t197.length) = True := eq_true (by omega)
        (try rw [show ((3 : Int)).toNat = 3 from rfl] at hx204_0)
        (try rw [show 3 * 4 = 12 from rfl] at hx204_0)
        (try rw [show ((3 : Int)).toNat = 3 from rfl] at hx204_1)
        (try rw [show 3 * 4 = 12 from rfl] at hx204_1)
        (try rw [show ((3 : Int)).toNat = 3 from rfl] at hx204_2)
        (try rw [show 3 * 4 = 12 from rfl] at hx204_2)
        (try rw [show ((3 : Int)).toNat = 3 from rfl] at hx204_3)
        (try rw [show 3 * 4 = 12 from rfl] at hx204_3)
        replace p204 := eq_true p204
        replace q204 := eq_true q204
        go_wp2
        go_ret
        exact ⟨by first | rfl | (simp [errW_none, errW_some] <;> rfl) | (simp [*, errW_none, errW_some] <;> rfl), by repeat (first | (with_reducible first | exact HB.out | apply below_alloc | apply pw_below_drewN | apply below_drew1) | exact HB.out)⟩
       ·rw [if_neg c15] at H
        have c15b0 : (t201 == 257) = false := beq_eq_false_iff_ne.mpr c15
        have c15b1 : (t201 != 257) = true := bne_iff_ne.mpr c15
        obtain rfl := Option.some.inj H
        obtain ⟨Ao17, co17, eo17⟩ := Kd.R_slice HO199.out
        subst eo17
        have p203 : 0 ≤ (1 : Int) := (by omega)
        have q203 : 1 < (t197.length : Int) := of_decide_eq_true (by first | (with_reducible assumption) | assumption)
        obtain ⟨ad203, e203, hx203_0, hx203_1, hx203_2, hx203_3⟩ := at_T43 (Kd.R_reads' HO199.out).2.2 1 p203 q203
        cases e203
        (try simp only [show (1 : Int).toNat = 1 from rfl, Nat.reduceMul, Nat.reduceEqDiff, Go.Addr.add, ↓reduceIte] at hx203_0)
        (try simp only [show (1 : Int).toNat = 1 from rfl, Nat.reduceMul, Nat.reduceEqDiff, Go.Addr.add, ↓reduceIte] at hx203_1)
        (try simp only [show (1 : Int).toNat = 1 from rfl, Nat.reduceMul, Nat.reduceEqDiff, Go.Addr.add, ↓reduceIte] at hx203_2)
        (try simp only [show (1 : Int).toNat = 1 from rfl, Nat.reduceMul, Nat.reduceEqDiff, Go.Addr.add, ↓reduceIte] at hx203_3)
        have qi203 : (1 < t197.length) = True := eq_true (by omega)
        (try rw [show ((1 : Int)).toNat = 1 from rfl] at hx203_0)
        (try rw [show 1 * 4 = 4 from rfl] at hx203_0)
        (try rw [show ((1 : Int)).toNat = 1 from rfl] at hx203_1)
        (try rw [show 1 * 4 = 4 from rfl] at hx203_1)
        (try rw [show ((1 : Int)).toNat = 1 from rfl] at hx203_2)
        (try rw [show 1 * 4 = 4 from rfl] at hx203_2)
        (try rw [show ((1 : Int)).toNat = 1 from rfl] at hx203_3)
        (try rw [show 1 * 4 = 4 from rfl] at hx203_3)
        replace p203 := eq_true p203
        replace q203 := eq_true q203
        have p204 : 0 ≤ (3 : Int) := (by omega)
        have q204 : 3 < (t197.length : Int) := of_decide_eq_true (by first | (with_reducible assumption) | assumption)
        obtain ⟨ad204, e204, hx204_0, hx204_1, hx204_2, hx204_3⟩ := at_T43 (Kd.R_reads' HO199.out).2.2 3 p204 q204
        obtain rfl : ad203 = ad204 := (by injection e204)
        (try simp only [show (3 : Int).toNat = 3 from rfl, Nat.reduceMul, Nat.reduceEqDiff, Go.Addr.add, ↓reduceIte] at hx204_0)
        (try simp only [show (3 : Int).toNat = 3 from rfl, Nat.reduceMul, Nat.reduceEqDiff, Go.Addr.add, ↓reduceIte] at hx204_1)
        (try simp only [show (3 : Int).toNat = 3 from rfl, Nat.reduceMul, Nat.reduceEqDiff, Go.Addr.add, ↓reduceIte] at hx204_2)
        (try simp only [show (3 : Int).toNat = 3 from rfl, Nat.reduceMul, Nat.reduceEqDiff, Go.Addr.add, ↓reduceIte] at hx204_3)
        have qi204 : (3 < t197.length) = True := eq_true (by omega)
        (try rw [show ((3 : Int)).toNat = 3 from rfl] at hx204_0)
        (try rw [show 3 * 4 = 12 from rfl] at hx204_0)
        (try rw [show ((3 : Int)).toNat = 3 from rfl] at hx204_1)
        (try rw [show 3 * 4 = 12 from rfl] at hx204_1)
        (try rw [show ((3 : Int)).toNat = 3 from rfl] at hx204_2)
        (try rw [show 3 * 4 = 12 from rfl] at hx204_2)
        (try rw [show ((3 : Int)).toNat = 3 from rfl] at hx204_3)
        (try rw [show 3 * 4 = 12 from rfl] at hx204_3)
        replace p204 := eq_true p204
        replace q204 := eq_true q204
        go_wp2
        go_ret
        exact ⟨by first | rfl | (simp [errW_none, errW_some] <;> rfl) | (simp [*, errW_none, errW_some] <;> rfl), by repeat (first | (with_reducible first | exact HB.out | apply below_alloc | apply pw_below_drewN | apply below_drew1) | exact HB.out)⟩
      ·rw [if_neg c14] at H
       have c14b0 : (((rd_T43 t197 3).f1) == 252) = false := beq_eq_false_iff_ne.mpr c14
       have c14b1 : (((rd_T43 t197 3).f1) != 252) = true := bne_iff_ne.mpr c14
       obtain rfl := Option.some.inj H
       obtain ⟨Ao18, co18, eo18⟩ := Kd.R_slice HO199.out
       subst eo18
       have p203 : 0 ≤ (1 : Int) := (by omega)
       have q203 : 1 < (t197.length : Int) := of_decide_eq_true (by first | (with_reducible assumption) | assumption)
       obtain ⟨ad203, e203, hx203_0, hx203_1, hx203_2, hx203_3⟩ := at_T43 (Kd.R_reads' HO199.out).2.2 1 p203 q203
       cases e203
       (try simp only [show (1 : Int).toNat = 1 from rfl, Nat.reduceMul, Nat.reduceEqDiff, Go.Addr.add, ↓reduceIte] at hx203_0)
       (try simp only [show (1 : Int).toNat = 1 from rfl, Nat.reduceMul, Nat.reduceEqDiff, Go.Addr.add, ↓reduceIte] at hx203_1)
       (try simp only [show (1 : Int).toNat = 1 from rfl, Nat.reduceMul, Nat.reduceEqDiff, Go.Addr.add, ↓reduceIte] at hx203_2)
       (try simp only [show (1 : Int).toNat = 1 from rfl, Nat.reduceMul, Nat.reduceEqDiff, Go.Addr.add, ↓reduceIte] at hx203_3)
       have qi203 : (1 < t197.length) = True := eq_true (by omega)
       (try rw [show ((1 : Int)).toNat = 1 from rfl] at hx203_0)
       (try rw [show 1 * 4 = 4 from rfl] at hx203_0)
       (try rw [show ((1 : Int)).toNat = 1 from rfl] at hx203_1)
       (try rw [show 1 * 4 = 4 from rfl] at hx203_1)
       (try rw [show ((1 : Int)).toNat = 1 from rfl] at hx203_2)
       (try rw [show 1 * 4 = 4 from rfl] at hx203_2)
       (try rw [show ((1 : Int)).toNat = 1 from rfl] at hx203_3)
       (try rw [show 1 * 4 = 4 from rfl] at hx203_3)
       replace p203 := eq_true p203
       replace q203 := eq_true q203
       have p204 : 0 ≤ (3 : Int) := (by omega)
       have q204 : 3 < (t197.length : Int) := of_decide_eq_true (by first | (with_reducible assumption) | assumption)
       obtain ⟨ad204, e204, hx204_0, hx204_1, hx204_2, hx204_3⟩ := at_T43 (Kd.R_reads' HO199.out).2.2 3 p204 q204
       obtain rfl : ad203 = ad204 := (by injection e204)
       (try simp only [show (3 : Int).toNat = 3 from rfl, Nat.reduceMul, Nat.reduceEqDiff, Go.Addr.add, ↓reduceIte] at hx204_0)
       (try simp only [show (3 : Int).toNat = 3 from rfl, Nat.reduceMul, Nat.reduceEqDiff, Go.Addr.add, ↓reduceIte] at hx204_1)
       (try simp only [show (3 : Int).toNat = 3 from rfl, Nat.reduceMul, Nat.reduceEqDiff, Go.Addr.add, ↓reduceIte] at hx204_2)
       (try simp only [show (3 : Int).toNat = 3 from rfl, Nat.reduceMul, Nat.reduceEqDiff, Go.Addr.add, ↓reduceIte] at hx204_3)
       have qi204 : (3 < t197.length) = True := eq_true (by omega)
       (try rw [show ((3 : Int)).toNat = 3 from rfl] at hx204_0)
       (try rw [show 3 * 4 = 12 from rfl] at hx204_0)
       (try rw [show ((3 : Int)).toNat = 3 from rfl] at hx204_1)
       (try rw [show 3 * 4 = 12 from rfl] at hx204_1)
       (try rw [show ((3 : Int)).toNat = 3 from rfl] at hx204_2)
       (try rw [show 3 * 4 = 12 from rfl] at hx204_2)
       (try rw [show ((3 : Int)).toNat = 3 from rfl] at hx204_3)
       (try rw [show 3 * 4 = 12 from rfl] at hx204_3)
       replace p204 := eq_true p204
       replace q204 := eq_true q204
       go_wp2
       go_ret
       exact ⟨by first | rfl | (simp [errW_none, errW_some] <;> rfl) | (simp [*, errW_none, errW_some] <;> rfl), by repeat (first | (with_reducible first | exact HB.out | apply below_alloc | apply pw_below_drewN | apply below_drew1) | exact HB.out)⟩
     ·rw [if_neg c13] at H
      exact absurd H (by simp)
    ·rw [if_neg c12] at H
     have c12b0 : (((rd_T43 t197 1).f0) == 8 && (((rd_T43 t197 1).f1) == 258 && (((rd_T43 t197 1).f2) == 250 && (((rd_T43 t197 1).f3) == 500)))) = false := by simpa using c12
     (try (have c12b1 : decide (((rd_T43 t197 1).f0) = 8 && (((rd_T43 t197 1).f1) == 258 && (((rd_T43 t197 1).f2) == 250 && (((rd_T43 t197 1).f3) == 500)))) = false := by simpa using c12))
     (try (have c12b2 : (((rd_T43 t197 1).f0) == 8 && (((rd_T43 t197 1).f1) == 258 && (((rd_T43 t197 1).f2) == 250 && (((rd_T43 t197 1).f3) == 500)))) = false := by simpa using c12))
     (try (have c12b3 : ¬ (((rd_T43 t197 1).f0) = 8 && (((rd_T43 t197 1).f1) == 258 && (((rd_T43 t197 1).f2) == 250 && (((rd_T43 t197 1).f3) == 500)))) := by simpa using c12))
     clear c12
     obtain rfl := Option.some.inj H
     obtain ⟨Ao19, co19, eo19⟩ := Kd.R_slice HO199.out
     subst eo19
     have p203 : 0 ≤ (1 : Int) := (by omega)
     have q203 : 1 < (t197.length : Int) := of_decide_eq_true (by first | (with_reducible assumption) | assumption)
     obtain ⟨ad203, e203, hx203_0, hx203_1, hx203_2, hx203_3⟩ := at_T43 (Kd.R_reads' HO199.out).2.2 1 p203 q203
     cases e203
     (try simp only [show (1 : Int).toNat = 1 from rfl, Nat.reduceMul, Nat.reduceEqDiff, Go.Addr.add, ↓reduceIte] at hx203_0)
     (try simp only [show (1 : Int).toNat = 1 from rfl, Nat.reduceMul, Nat.reduceEqDiff, Go.Addr.add, ↓reduceIte] at hx203_1)
     (try simp only [show (1 : Int).toNat = 1 from rfl, Nat.reduceMul, Nat.reduceEqDiff, Go.Addr.add, ↓reduceIte] at hx203_2)
     (try simp only [show (1 : Int).toNat = 1 from rfl, Nat.reduceMul, Nat.reduceEqDiff, Go.Addr.add, ↓reduceIte] at hx203_3)
     have qi203 : (1 < t197.length) = True := eq_true (by omega)
     (try rw [show ((1 : Int)).toNat = 1 from rfl] at hx203_0)
     (try rw [show 1 * 4 = 4 from rfl] at hx203_0)
     (try rw [show ((1 : Int)).toNat = 1 from rfl] at hx203_1)
     (try rw [show 1 * 4 = 4 from rfl] at hx203_1)
     (try rw [show ((1 : Int)).toNat = 1 from rfl] at hx203_2)
     (try rw [show 1 * 4 = 4 from rfl] at hx203_2)
     (try rw [show ((1 : Int)).toNat = 1 from rfl] at hx203_3)
     (try rw [show 1 * 4 = 4 from rfl] at hx203_3)
     replace p203 := eq_true p203
     replace q203 := eq_true q203
     go_wp2
     go_ret
     exact ⟨by first | rfl | (simp [errW_none, errW_some] <;> rfl) | (simp [*, errW_none, errW_some] <;> rfl), by repeat (first | (with_reducible first | exact HB.out | apply below_alloc | apply pw_below_drewN | apply below_drew1) | exact HB.out)⟩
   ·rw [if_neg c11] at H
    exact absurd H (by simp)
  ·rw [if_neg c10] at H
   have c10b0 : ((t197.length : Int) == 4) = false := beq_eq_false_iff_ne.mpr c10
   have c10b1 : ((t197.length : Int) != 4) = true := bne_iff_ne.mpr c10
   obtain rfl := Option.some.inj H
   obtain ⟨Ao20, co20, eo20⟩ := Kd.R_slice HO199.out
   subst eo20
   go_wp2
   go_ret
   exact ⟨by first | rfl | (simp [errW_none, errW_some] <;> rfl) | (simp [*, errW_none, errW_some] <;> rfl), by repeat (first | (with_reducible first | exact HB.out | apply below_alloc | apply pw_below_drewN | apply below_drew1) | exact HB.out)⟩
 ·rw [if_neg c9] at H
  have c9b0 : (t200 == 0) = false := beq_eq_false_iff_ne.mpr c9
  have c9b1 : (t200 != 0) = true := bne_iff_ne.mpr c9
  obtain rfl := Option.some.inj H
  go_wp2
  go_ret
  exact ⟨by first | rfl | (simp [errW_none, errW_some] <;> rfl) | (simp [*, errW_none, errW_some] <;> rfl), by repeat (first | (with_reducible first | exact HB.out | apply below_alloc | apply pw_below_drewN | apply below_drew1) | exact HB.out)⟩

end Go.Proofs.Ytchpeobenlnemaa.S
end

section
namespace Go.Proofs.Ytchpeobenlnemaa.SchedAlive
set_option linter.unusedVariables false
set_option linter.unusedSimpArgs false
open Go.RowKit Go.Proofs.Ytchpeobenlnemaa.S Go.Proofs.Ytchpeobenlnemaa.XPay Go.Proofs.Ytchpeobenlnemaa.XSched Go.Proofs.YtchpeobenlnemaaW.PrintWords Go.Proofs.YtchpeobenlnemaaW.PrintLast Go.Proofs.YtchpeobenlnemaaW.PrintMore

theorem alive {k : Nat} (hk : 2000 ≤ k) : lombardlaw08_alive.f k = some true := by
 unfold lombardlaw08_alive.f
 rw [build_f hk, Option.bind_some, level_f (by omega), Option.bind_some]
 decide +kernel
end Go.Proofs.Ytchpeobenlnemaa.SchedAlive
end

section
namespace Go.Proofs.Ytchpeobenlnemaa.S
open Go.RowKit Go.Proofs.YtchpeobenlnemaaW.PrintWords Go.Proofs.YtchpeobenlnemaaW.PrintLast Go.Proofs.YtchpeobenlnemaaW.PrintMore
attribute [local go_sem] max2_int min2_int max_two min_two max_three min_three max_four min_four   -- for this text's walks alone
attribute [local go_sem] Go.Proofs.Ytchpeobenlnemaa.XWalk.cell2
set_option linter.unusedVariables false
set_option linter.unusedSimpArgs false

/-! ### lombardlaw08_great: function 10 -/
def lombardlaw08_great.f (a0_0 : Int) (a0_1 : Int) (l0_2 : List Int) (a0_3 : Int) : Option (Bool) := if (l0_2.length : Int) > 60 then (some true) else (if a0_3 > 60 then (some (decide (a0_3 ≤ 600))) else (some false))
set_option maxHeartbeats 8000000 in
set_option maxRecDepth 100000 in
theorem lombardlaw08_great.calls (a0_0 : Int) (a0_1 : Int) (A0_2 : Option Addr) (c0_2 : Nat) (l0_2 : List Int) (a0_3 : Int) (r : Bool) (w : World) (hr0_2 : Kd.C (Kd.int .i64) w A0_2 l0_2.length l0_2) (hc0_2 : l0_2.length ≤ c0_2) (h : lombardlaw08_great.f a0_0 a0_1 l0_2 a0_3 = some r) :
  Calls Try.prog 10 #[.agg #[.int .i64 a0_0, .int .i64 a0_1, .slice A0_2 l0_2.length c0_2, .int .i64 a0_3]] w fun e w' => e = .returned (.bool r) ∧ Below w.heap.size w w' := by
 have hu24 := Try.underlying24
 have HR0_2 := Aside0.mk hr0_2
 have HC0_2 := Aside0.mk hc0_2
 clear hr0_2 hc0_2
 have HB := Aside0.mk (Below.refl w.heap.size w)
 have H : (if (l0_2.length : Int) > 60 then (some true) else (if a0_3 > 60 then (some (decide (a0_3 ≤ 600))) else (some false))) = some r := h
 clear h
 have HC2 := Aside0.mk H
 clear H
 go_enter Try.func10, Try.ntmps10
 go_upto_region 1 with (first | ((with_reducible refine gate_dst (N := 1) rfl ?_); refine box_event ?hg (N := 1) ?hd (cs := #[.int .i64 a0_0, .int .i64 a0_1, .slice A0_2 l0_2.length c0_2, .int .i64 a0_3]) (t := 24) ?hr ?_; (case hd => rfl); (case hg => rfl); (case hr => first | (go_simp; done) | (go_simp; rfl)); intro gb205 hg w3 hbox hb; have n0_ := Aside0.mk (below_step (by repeat (first | (with_reducible first | exact HB.out | apply below_alloc | apply pw_below_drewN | apply below_drew1) | exact HB.out)) hb); have n1_ := Aside0.mk (hbox); have n2_ := Aside0.mk ((by rw [hg]; exact (below_size (by repeat (first | (with_reducible first | exact HB.out | apply below_alloc | apply pw_below_drewN | apply below_drew1) | exact HB.out))) : w.heap.size ≤ gb205)); have n3_ := Aside0.mk ((by rw [hg]; exact (below_size (by repeat (first | (with_reducible first | exact HB.out | apply below_alloc | apply pw_below_drewN | apply below_drew1) | exact HB.out))) : w.heap.size ≤ gb205)); clear HB; have HB := n0_; have BK205 := n1_; have GW205 := n2_; have GE205 := n3_; clear n0_ n1_ n2_ n3_; clear hb hbox hg))
 have H := HC2.out
 clear HC2
 by_cases c4 : (l0_2.length : Int) > 60
 ·rw [if_pos c4] at H
  have c4b0 : decide (60 < (l0_2.length : Int)) = true := decide_eq_true c4
  have c4b1 : decide (60 < l0_2.length) = true := decide_eq_true (by omega)
  clear c4
  obtain rfl := Option.some.inj H
  have hcz5_0 := (blk_cell BK205.out 0).trans rfl
  have hcz5_1 := (blk_cell BK205.out 1).trans rfl
  have hcz5_2 := (blk_cell BK205.out 2).trans rfl
  have hcz5_3 := (blk_cell BK205.out 3).trans rfl
  have hfz5_0 := blk_frozen BK205.out 0
  have hfz5_1 := blk_frozen BK205.out 1
  have hfz5_2 := blk_frozen BK205.out 2
  have hfz5_3 := blk_frozen BK205.out 3
  go_wp2
  go_ret
  exact ⟨by first | rfl | (simp [errW_none, errW_some] <;> rfl) | (simp [*, errW_none, errW_some] <;> rfl), by repeat (first | (with_reducible first | exact HB.out | apply below_alloc | apply pw_below_drewN | apply below_drew1 | refine below_set ?_ GE205.out) | exact HB.out)⟩
 ·rw [if_neg c4] at H
  have c4b0 : decide (60 < (l0_2.length : Int)) = false := decide_eq_false c4
  have c4b1 : decide (60 < l0_2.length) = false := decide_eq_false (by omega)
  clear c4
  by_cases c6 : a0_3 > 60
  ·rw [if_pos c6] at H
   have c6b0 : decide (60 < a0_3) = true := decide_eq_true c6
   clear c6
   obtain rfl := Option.some.inj H
   have hcz7_0 := (blk_cell BK205.out 0).trans rfl
   have hcz7_1 := (blk_cell BK205.out 1).trans rfl
   have hcz7_2 := (blk_cell BK205.out 2).trans rfl
   have hcz7_3 := (blk_cell BK205.out 3).trans rfl
   have hfz7_0 := blk_frozen BK205.out 0
   have hfz7_1 := blk_frozen BK205.out 1
   have hfz7_2 := blk_frozen BK205.out 2
   have hfz7_3 := blk_frozen BK205.out 3
   go_wp2
   go_ret
   exact ⟨by first | rfl | (simp [errW_none, errW_some] <;> rfl) | (simp [*, errW_none, errW_some] <;> rfl), by repeat (first | (with_reducible first | exact HB.out | apply below_alloc | apply pw_below_drewN | apply below_drew1 | refine below_set ?_ GE205.out) | exact HB.out)⟩
  ·rw [if_neg c6] at H
   have c6b0 : decide (60 < a0_3) = false := decide_eq_false c6
   clear c6
   obtain rfl := Option.some.inj H
   have hcz8_0 := (blk_cell BK205.out 0).trans rfl
   have hcz8_1 := (blk_cell BK205.out 1).trans rfl
   have hcz8_2 := (blk_cell BK205.out 2).trans rfl
   have hcz8_3 := (blk_cell BK205.out 3).trans rfl
   have hfz8_0 := blk_frozen BK205.out 0
   have hfz8_1 := blk_frozen BK205.out 1
   have hfz8_2 := blk_frozen BK205.out 2
   have hfz8_3 := blk_frozen BK205.out 3
   go_wp2
   go_ret
   exact ⟨by first | rfl | (simp [errW_none, errW_some] <;> rfl) | (simp [*, errW_none, errW_some] <;> rfl), by repeat (first | (with_reducible first | exact HB.out | apply below_alloc | apply pw_below_drewN | apply below_drew1 | refine below_set ?_ GE205.out) | exact HB.out)⟩

end Go.Proofs.Ytchpeobenlnemaa.S
end

section
namespace Go.Proofs.Ytchpeobenlnemaa.SchedRows
set_option linter.unusedVariables false
set_option linter.unusedSimpArgs false
open Go.RowKit Go.Proofs.Ytchpeobenlnemaa.S Go.Proofs.Ytchpeobenlnemaa.XNum Go.Proofs.Ytchpeobenlnemaa.XRate Go.Proofs.Ytchpeobenlnemaa.XSum Go.Proofs.Ytchpeobenlnemaa.XPay Go.Proofs.Ytchpeobenlnemaa.XSched Go.Proofs.YtchpeobenlnemaaW.PrintWords Go.Proofs.YtchpeobenlnemaaW.PrintLast

theorem bld_row {kd : Int} {rates parts : List Int} {per d at_ : Nat} {left lvl : Int} {xs : List S43} (h : bld kd rates parts per (d + 1) at_ left lvl = (xs, 0)) :
  ¬(left - (pay kd rates parts per d at_ left lvl - nr (sched_Build.rt rates at_) left) > 10000000000000 ∨ pay kd rates parts per d at_ left lvl > 10000000000000) ∧
  ∃ ys, xs = ⟨nr (sched_Build.rt rates at_) left, pay kd rates parts per d at_ left lvl, pay kd rates parts per d at_ left lvl - nr (sched_Build.rt rates at_) left, left - (pay kd rates parts per d at_ left lvl - nr (sched_Build.rt rates at_) left)⟩ :: ys ∧
   bld kd rates parts per d (at_ + 1) (left - (pay kd rates parts per d at_ left lvl - nr (sched_Build.rt rates at_) left)) (if kd = 1 then nlv rates per at_ left lvl else lvl) = (ys, 0) := by
 rw [bld] at h
 by_cases c : left - (pay kd rates parts per d at_ left lvl - nr (sched_Build.rt rates at_) left) > 10000000000000 ∨ pay kd rates parts per d at_ left lvl > 10000000000000
 ·rw [if_pos c] at h
  simp at h
 ·rw [if_neg c] at h
  refine ⟨c, ?_⟩
  obtain ⟨q, hq⟩ : ∃ q, bld kd rates parts per d (at_ + 1) (left - (pay kd rates parts per d at_ left lvl - nr (sched_Build.rt rates at_) left)) (if kd = 1 then nlv rates per at_ left lvl else lvl) = q := ⟨_, rfl⟩
  rw [hq] at h ⊢
  unfold cons at h
  obtain ⟨ys, e⟩ := q
  by_cases d0 : e = 0
  ·subst d0
   rw [if_pos rfl] at h
   exact ⟨ys, (congrArg Prod.fst h).symm, rfl⟩
  ·rw [if_neg d0] at h
   exact absurd (congrArg Prod.snd h) d0
theorem bld_len {kd : Int} {rates parts : List Int} {per : Nat} : ∀ (d at_ : Nat) (left lvl : Int) (xs : List S43), bld kd rates parts per d at_ left lvl = (xs, 0) → xs.length = d
 | 0, _, _, _, xs, h => by
  have : xs = [] := (congrArg Prod.fst h).symm
  rw [this]
  rfl
 | d + 1, at_, left, lvl, xs, h => by
  obtain ⟨_, ys, rfl, hy⟩ := bld_row h
  rw [List.length_cons, bld_len d _ _ _ ys hy]
theorem great_f (kd pr : Int) (rates : List Int) (per : Int) : lombardlaw08_great.f kd pr rates per = some (decide ((rates.length : Int) > 60 ∨ per > 60 ∧ per ≤ 600)) := by
 unfold lombardlaw08_great.f
 by_cases c : (rates.length : Int) > 60
 ·rw [if_pos c, decide_eq_true (.inl c)]
 ·rw [if_neg c]
  by_cases d : per > 60
  ·rw [if_pos d]
   congr 1
   rw [decide_eq_decide]
   omega
  ·rw [if_neg d, decide_eq_false (by omega)]
end Go.Proofs.Ytchpeobenlnemaa.SchedRows
end

section
namespace Go.Proofs.Ytchpeobenlnemaa.XRefSplit
set_option linter.unusedVariables false
set_option linter.unusedSimpArgs false
open Go.RowKit Go.Proofs.Ytchpeobenlnemaa.S Go.Proofs.Ytchpeobenlnemaa.XNum Go.Proofs.Ytchpeobenlnemaa.XBits Go.Proofs.Ytchpeobenlnemaa.XSum Go.Proofs.Ytchpeobenlnemaa.XSplit Go.Proofs.YtchpeobenlnemaaW.PrintWords

theorem and1i {x : Int} (h0 : 0 ≤ x) (h1 : x ≤ 9223372036854775807) : Go.bits .and .i64 x 1 = x % 2 :=
 bits_mask .i64 63 (by decide) (fun n h0 h1 => by
  simp only [IntKind.wrap, IntKind.bits, IntKind.signed, if_true]
  simp at h1 ⊢
  omega) 1 (by decide) x h0 (by simp; omega)
theorem half_pow {n : Int} (b : Nat) : n / 2 ^ (b + 1) = n / 2 ^ b / 2 := by
 rw [Int.ediv_ediv_of_nonneg (Int.pow_nonneg (by decide)), Int.pow_succ]

theorem part_l0 {n w S : Int} (n0 : 0 ≤ n) (n1 : n ≤ 10000000000000) (w0 : 0 ≤ w) (wS : w ≤ S) (S0 : 0 < S) (S1 : S ≤ 6000000000000000) : ∀ (b : Nat) (q r : Int) (k : Nat), b ≤ 63 → n / 2 ^ b * w = q * S + r → 0 ≤ r → r < S → 0 ≤ q → 2 * b + 1 ≤ k →
  lombardref01_part.l0 k n w S q r ((b : Int) - 1) = some (n * w / S) := by
 intro b
 induction b with
 | zero =>
  intro q r k _ e r0 r1 q0 hk
  obtain ⟨k, rfl⟩ : ∃ m, k = m + 1 := ⟨k - 1, by omega⟩
  rw [Int.pow_zero, Int.ediv_one] at e
  rw [lombardref01_part.l0, if_neg (by omega), (Knuth.quot_uniq S0 (show n * w = S * q + r by rw [Int.mul_comm S]; exact e) r0 r1).1]
 | succ b ih =>
  intro q r k hb e r0 r1 q0 hk
  obtain ⟨k, rfl⟩ : ∃ m, k = m + 2 := ⟨k - 2, by omega⟩
  rw [half_pow] at e
  have P : (0 : Int) < 2 ^ b := Int.pow_pos (by decide)
  have x0 : 0 ≤ n / 2 ^ b := Int.ediv_nonneg n0 (by omega)
  have x1 : n / 2 ^ b ≤ n := Int.ediv_le_self _ n0
  have ih' := ih
  have hx : shr .i64 n (IntKind.u64.wrap (b : Int)) = n / 2 ^ b := by
   rw [wu_id (by omega) (by omega)]
   unfold shr
   rw [show min ((b : Int)).toNat IntKind.i64.bits = b by show min ((b : Int)).toNat 64 = b; omega]
  generalize n / 2 ^ b = x at *
  have m0 : 0 ≤ x / 2 := by omega
  have qm : q ≤ x / 2 := by
   have a : x / 2 * w ≤ x / 2 * S := Int.mul_le_mul_of_nonneg_left wS m0
   exact Int.le_of_mul_le_mul_right (show q * S ≤ x / 2 * S by omega) S0
  have fin : ∀ q1 r1 : Int, 2 * (x / 2 * w) = q1 * S + r1 → 0 ≤ r1 → r1 < S → 0 ≤ q1 → q1 ≤ x → lombardref01_part.j1 (k + 1) n w S q1 r1 (b : Int) = some (n * w / S) := by
   intro q1 r1 e1 a0 a1 p0 p1
   rw [lombardref01_part.j1, if_pos (by rw [wu_id (by omega) (by omega)]; omega), hx, and1i x0 (by omega)]
   rw [w64 (n := (b : Int) - 1) (by omega) (by omega)]
   by_cases c : x % 2 = 1
   ·have d := Int.mul_ediv_add_emod w S
    have d0 := Int.emod_nonneg w (show S ≠ 0 by omega)
    have d1 := Int.emod_lt_of_pos w S0
    have d2 : 0 ≤ w / S := Int.ediv_nonneg w0 (by omega)
    have d3 : w / S ≤ 1 := by
     rcases Int.lt_or_le 1 (w / S) with z | z
     ·have : S * 2 ≤ S * (w / S) := Int.mul_le_mul_of_nonneg_left (by omega) (by omega)
      omega
     ·exact z
    have xe : x * w = 2 * (x / 2 * w) + w := by
     have : x * w = (2 * (x / 2) + 1) * w := by congr 1; omega
     rw [this]
     grind
    rw [Int.mul_comm] at d
    rw [if_pos c, if_neg (by omega), td_nn w0, tm_nn w0, w64 (n := w / S) (by omega) (by omega), w64 (n := q1 + w / S) (by omega) (by omega), w64 (n := r1 + w % S) (by omega) (by omega)]
    by_cases f : r1 + w % S ≥ S
    ·rw [if_pos f, w64 (n := q1 + w / S + 1) (by omega) (by omega), w64 (n := r1 + w % S - S) (by omega) (by omega)]
     refine ih' _ _ k (by omega) ?_ (by omega) (by omega) (by omega) (by omega)
     rw [xe, e1, Int.add_mul, Int.add_mul, Int.one_mul]
     omega
    ·rw [if_neg f]
     refine ih' _ _ k (by omega) ?_ (by omega) (by omega) (by omega) (by omega)
     rw [xe, e1, Int.add_mul]
     omega
   ·rw [if_neg c]
    have xe : x * w = 2 * (x / 2 * w) := by
     have : x * w = (2 * (x / 2)) * w := by congr 1; omega
     rw [this]
     grind
    exact ih' _ _ k (by omega) (by rw [xe]; exact e1) a0 a1 p0 (by omega)
  rw [show ((b + 1 : Nat) : Int) - 1 = (b : Int) by omega, lombardref01_part.l0, if_pos (by omega), w64 (n := r * 2) (by omega) (by omega), w64 (n := q * 2) (by omega) (by omega)]
  by_cases g : r * 2 ≥ S
  ·rw [if_pos g, w64 (n := q * 2 + 1) (by omega) (by omega), w64 (n := r * 2 - S) (by omega) (by omega)]
   have e2 : 2 * (x / 2 * w) = (q * 2 + 1) * S + (r * 2 - S) := by
    rw [e, Int.add_mul, Int.one_mul, Int.mul_right_comm]
    omega
   refine fin _ _ e2 (by omega) (by omega) (by omega) ?_
   have a : 2 * (x / 2 * w) ≤ 2 * (x / 2) * S := by
    rw [← Int.mul_assoc]
    exact Int.mul_le_mul_of_nonneg_left wS (by omega)
   have := Int.le_of_mul_le_mul_right (show (q * 2 + 1) * S ≤ 2 * (x / 2) * S by omega) S0
   omega
  ·rw [if_neg g]
   have e2 : 2 * (x / 2 * w) = (q * 2) * S + (r * 2) := by
    rw [e, Int.mul_right_comm]
    omega
   exact fin _ _ e2 (by omega) (by omega) (by omega) (by omega)

theorem part {n w S : Int} (hn : may n) (w0 : 0 ≤ w) (wS : w ≤ S) (S0 : 0 < S) (S1 : S ≤ 6000000000000000) {k : Nat} (hk : 140 ≤ k) : lombardref01_part.f k n w S = some (one n * (size n * w / S)) := by
 obtain ⟨k, rfl⟩ : ∃ m, k = m + 2 := ⟨k - 2, by omega⟩
 unfold may at hn
 have run : ∀ (m : Int) (k : Nat), 0 ≤ m → m ≤ 10000000000000 → 130 ≤ k → lombardref01_part.l0 k m w S 0 0 62 = some (m * w / S) := by
  intro m k h0 h1 hk
  have := part_l0 h0 h1 w0 wS S0 S1 63 0 0 k (by omega) (by
   rw [Int.ediv_eq_zero_of_lt h0 (by simp; omega)]
   simp) (by omega) S0 (by omega) (by omega)
  simpa using this
 rw [lombardref01_part.f]
 by_cases c : n < 0
 ·rw [if_pos c, w64 (n := -n) (by omega) (by omega), lombardref01_part.f, if_neg (by omega), run (-n) k (by omega) (by omega) (by omega)]
  have s : size n = -n := by unfold size; rw [if_pos c]
  have q0 : 0 ≤ -n * w / S := Int.ediv_nonneg (Int.mul_nonneg (by omega) w0) (by omega)
  have q1 : -n * w / S ≤ -n := Int.ediv_le_of_le_mul S0 (Int.mul_le_mul_of_nonneg_left wS (by omega))
  rw [s]
  simp only [Option.bind_some]
  rw [w64 (by omega) (by omega)]
  unfold one
  rw [if_pos c]
  congr 1
  omega
 ·rw [if_neg c, run n (k + 1) (by omega) (by omega) (by omega)]
  have s : size n = n := by unfold size; rw [if_neg c]
  rw [s]
  unfold one
  rw [if_neg c, Int.one_mul]

theorem nx {a : Nat} (h : a ≤ 1000000) : wrap64 ((a : Int) + 1) = ((a + 1 : Nat) : Int) := by
 rw [w64 (by omega) (by omega)]
 omega
theorem put_at (s b v : Int) (A B : List Int) : (A ++ (b :: B).map (s * ·)).set ((A.length : Int)).toNat v = (A ++ [v]) ++ B.map (s * ·) := by
 rw [List.map_cons, set_mid]
 simp
theorem get_at (s b : Int) (A B : List Int) : rd (A ++ (b :: B).map (s * ·)) (A.length : Int) = s * b := by rw [List.map_cons, rd_mid]
/-- one pass over the weights -/
theorem l3_step {s : Int} (hs : s = 1 ∨ s = -1) {w b L : Int} {V W A B : List Int} (hl : A.length + W.length + 1 ≤ 1000) (e2 : V.length = A.length) (e3 : W.length = B.length) (h0 : 0 ≤ L) (h1 : L ≤ 1000) (hb : 0 ≤ b ∧ b ≤ 10000000000000) (hw : 0 ≤ w) (k : Nat) :
  lombardref01_Split.l3 (k + 2) (V ++ w :: W) (A ++ (b :: B).map (s * ·)) (s * L) (V ++ w :: W) (V ++ w :: W).length A.length =
   if 0 < w ∧ 0 < L then lombardref01_Split.l3 k (V ++ w :: W) ((A ++ [s * (b + 1)]) ++ B.map (s * ·)) (s * (L - 1)) (V ++ w :: W) (V ++ w :: W).length (A.length + 1 : Nat)
   else lombardref01_Split.l3 k (V ++ w :: W) ((A ++ [s * b]) ++ B.map (s * ·)) (s * L) (V ++ w :: W) (V ++ w :: W).length (A.length + 1 : Nat) := by
 have lv : (V ++ w :: W).length = A.length + W.length + 1 := by simp; omega
 have la : (A ++ (b :: B).map (s * ·)).length = A.length + W.length + 1 := by simp; omega
 have rw1 : rd (V ++ w :: W) (A.length : Int) = w := by rw [← e2]; exact rd_mid V w W
 have keep : A ++ (b :: B).map (s * ·) = (A ++ [s * b]) ++ B.map (s * ·) := by simp
 have i1 : (A.length : Int) < ((V ++ w :: W).length : Int) := by omega
 have i2 : (A.length : Int) < ((A ++ (b :: B).map (s * ·)).length : Int) := by omega
 have i3 : (0 : Int) ≤ (A.length : Int) := by omega
 have i4 : A.length ≤ 1000000 := by omega
 clear la lv
 rw [lombardref01_Split.l3, if_pos i1, if_pos i3, if_pos i1, rw1]
 clear rw1
 by_cases c : w = 0
 ·rw [if_pos c, if_neg (c := 0 < w ∧ 0 < L) (by omega), lombardref01_Split.j6, if_neg (by simp), if_pos c, nx i4, keep]
 ·rw [if_neg c]
  rcases hs with rfl | rfl
  ·by_cases d : 0 < L
   ·rw [if_pos ⟨by omega, d⟩, decide_eq_true (by omega), lombardref01_Split.j6, if_pos rfl, if_pos i3, if_pos i2, get_at, put_at, nx i4, w64 (by omega) (by omega), w64 (by omega) (by omega)]
    congr 1
    ·congr 3
     omega
    ·omega
   ·rw [if_neg (c := 0 < w ∧ 0 < L) (by omega), decide_eq_false (by omega), lombardref01_Split.j6, if_neg (by simp), if_neg c, if_neg (by omega), nx i4, keep]
  ·by_cases d : 0 < L
   ·rw [if_pos ⟨by omega, d⟩, decide_eq_false (by omega), lombardref01_Split.j6, if_neg (by simp), if_neg c, if_pos (by omega), if_pos i3, if_pos i2, get_at, put_at, nx i4, w64 (by omega) (by omega), w64 (by omega) (by omega)]
    congr 1
    ·congr 3
     omega
    ·omega
   ·rw [if_neg (c := 0 < w ∧ 0 < L) (by omega), decide_eq_false (by omega), lombardref01_Split.j6, if_neg (by simp), if_neg c, if_neg (by omega), nx i4, keep]
theorem l3_run {s : Int} (hs : s = 1 ∨ s = -1) : ∀ (W V A B : List Int) (L : Int) (k : Nat), (V ++ W).length ≤ 1000 → (∀ w ∈ W, okw w) → V.length = A.length → W.length = B.length → 0 ≤ L → L ≤ pos W →
  (∀ b ∈ B, 0 ≤ b ∧ b ≤ 10000000000000) → 2 * W.length + 2 ≤ k → lombardref01_Split.l3 k (V ++ W) (A ++ B.map (s * ·)) (s * L) (V ++ W) (V ++ W).length V.length = some (A ++ (dist W B L).map (s * ·), 0) := by
 intro W
 induction W with
 | nil =>
  intro V A B L k hl h e2 e3 h0 h1 hB hk
  have : L = 0 := by unfold pos at h1; omega
  subst this
  obtain ⟨k, rfl⟩ : ∃ m, k = m + 2 := ⟨k - 2, by omega⟩
  rw [lombardref01_Split.l3, if_neg (by simp), lombardref01_Split.l2, if_pos (Int.mul_zero s), dist_zero]
 | cons w W ih =>
  intro V A B L k hl h e2 e3 h0 h1 hB hk
  rw [List.length_cons] at hk
  obtain ⟨k, rfl⟩ : ∃ m, k = m + 2 := ⟨k - 2, by omega⟩
  cases B with
  | nil => simp at e3
  | cons b B =>
   have hw := h w (by simp)
   have e3' : W.length = B.length := by simpa using e3
   have hp := pos_le (w :: W)
   rw [List.length_append, List.length_cons] at hl
   rw [List.length_cons] at hp
   rw [e2, l3_step hs (by omega) e2 e3' h0 (by omega) (hB b (by simp)) hw.1]
   have hl' : ((V ++ [w]) ++ W).length ≤ 1000 := by simp; omega
   have hB' : ∀ x ∈ B, 0 ≤ x ∧ x ≤ 10000000000000 := fun x hx => hB x (List.mem_cons_of_mem b hx)
   have h' : ∀ x ∈ W, okw x := fun x hx => h x (List.mem_cons_of_mem w hx)
   have la : A.length + 1 = (V ++ [w]).length := by simp [e2]
   rw [show V ++ w :: W = (V ++ [w]) ++ W by simp, la]
   rw [pos] at h1
   by_cases c1 : 0 < w ∧ 0 < L
   ·rw [if_pos c1.1] at h1
    rw [if_pos c1, ih (V ++ [w]) (A ++ [s * (b + 1)]) B (L - 1) k hl' h' (by simp [e2]) e3' (by omega) (by omega) hB' (by omega), dist, if_pos c1]
    simp
   ·have : L ≤ pos W := by
     split at h1
     ·have := pos_nn W
      omega
     ·omega
    rw [if_neg c1, ih (V ++ [w]) (A ++ [s * b]) B L k hl' h' (by simp [e2]) e3' h0 this hB' (by omega), dist, if_neg c1]
    simp

theorem l1_run {n : Int} {ws : List Int} (h : good n ws) : ∀ (W V : List Int) (k : Nat), ws = V ++ W → W.length + 2 * ws.length + 200 ≤ k →
  lombardref01_Split.l1 k n ws (tot ws) ((quos n V (tot ws)).map (one n * ·)) (n - one n * tot (quos n V (tot ws))) ws ws.length V.length = some (parts n ws, 0) := by
 have hg := h
 obtain ⟨g1, g2, g3, g4, g5⟩ := h
 have hS : 0 < tot ws := by have := tot_nn g4; omega
 have hS1 := tot_le g4
 have hs := one_or n
 have n0 : 0 ≤ size n := by unfold size; split <;> omega
 have n1 : size n ≤ 10000000000000 := by unfold size; unfold may at g3; split <;> omega
 intro W
 induction W with
 | nil =>
  intro V k e hk
  obtain ⟨k, rfl⟩ : ∃ m, k = m + 2 := ⟨k - 2, by omega⟩
  rw [List.append_nil] at e
  subst e
  rw [lombardref01_Split.l1, if_neg (by omega)]
  have e1 : n - one n * tot (quos n ws (tot ws)) = one n * (size n - tot (quos n ws (tot ws))) := by rw [Int.mul_sub, one_size]
  obtain ⟨b1, b2, b3⟩ := left_bd hg
  have hB : ∀ b ∈ quos n ws (tot ws), 0 ≤ b ∧ b ≤ 10000000000000 := by
   intro b hb
   unfold quos at hb
   obtain ⟨w, hw, rfl⟩ := List.mem_map.1 hb
   have := quo_bd g3 (g4 w hw) hS (mem_le g4 hw)
   omega
  rw [e1, lombardref01_Split.l2]
  by_cases c : one n * (size n - tot (quos n ws (tot ws))) = 0
  ·rw [if_pos c]
   have z : size n - tot (quos n ws (tot ws)) = 0 := by rcases hs with hs | hs <;> rw [hs] at c <;> omega
   unfold parts
   rw [z, dist_zero]
  ·rw [if_neg c]
   have := l3_run hs ws [] [] (quos n ws (tot ws)) (size n - tot (quos n ws (tot ws))) k (by simp; omega) g4 (by simp) (by simp [quos]) b1 b2 hB (by omega)
   simpa [parts] using this
 | cons w W ih =>
  intro V k e hk
  obtain ⟨k, rfl⟩ : ∃ m, k = m + 1 := ⟨k - 1, by omega⟩
  have lw : ws.length = V.length + W.length + 1 := by rw [e]; simp; omega
  have hw : w ∈ ws := by rw [e]; simp
  have hok := g4 w hw
  have hok' := hok
  obtain ⟨o0, o1⟩ := hok'
  have qb := quo_bd g3 hok hS (mem_le g4 hw)
  rw [lombardref01_Split.l1, if_pos (by omega), if_pos (by omega), if_pos (by omega), show rd ws (V.length : Int) = w by rw [e]; exact rd_mid V w W]
  rw [part g3 o0 (mem_le g4 hw) hS (by omega) (by omega)]
  simp only [Option.bind_some]
  rw [if_pos (by simp [quos]; omega)]
  have hT : 0 ≤ tot (quos n V (tot ws)) ∧ tot (quos n V (tot ws)) ≤ 10000000000000 * V.length := by
   have : ∀ x ∈ quos n V (tot ws), okw x := by
    intro b hb
    unfold quos at hb
    obtain ⟨v, hv, rfl⟩ := List.mem_map.1 hb
    have hv' : v ∈ ws := by rw [e]; simp [hv]
    have := quo_bd g3 (g4 v hv') hS (mem_le g4 hv')
    unfold okw
    omega
   refine ⟨tot_nn this, ?_⟩
   have := tot_le this
   simpa [quos] using this
  have e3 : quos n (V ++ [w]) (tot ws) = quos n V (tot ws) ++ [size n * w / tot ws] := by simp [quos]
  have e4 : wrap64 (n - one n * tot (quos n V (tot ws)) - one n * (size n * w / tot ws)) = n - one n * tot (quos n (V ++ [w]) (tot ws)) := by
   rw [e3, tot_append]
   simp only [tot]
   unfold may at g3
   rcases hs with hs | hs <;> rw [hs] <;> (rw [w64 (by omega) (by omega)]; omega)
  rw [e4, w64 (n := (V.length : Int) + 1) (by omega) (by omega)]
  have := ih (V ++ [w]) k (by rw [e]; simp) (by simp at hk; omega)
  rw [e3] at this ⊢
  simpa using this

theorem j2_run {n : Int} {ws : List Int} (hw : ∀ w ∈ ws, okw w) (hl : ws.length ≤ 600) (h0 : ws.length ≠ 0 ∨ tot ws = 0) {k : Nat} (hk : 3 * ws.length + 210 ≤ k) :
  (if tot ws = 0 then lombardref01_Split.j2 k n ws (tot ws) true else (lombardref01_May.f n).bind fun t => lombardref01_Split.j2 k n ws (tot ws) (!t)) = some (splitS n ws) := by
 obtain ⟨k, rfl⟩ : ∃ m, k = m + 1 := ⟨k - 1, by omega⟩
 by_cases c : tot ws = 0
 ·rw [if_pos c, lombardref01_Split.j2, if_pos rfl]
  unfold splitS
  rw [if_neg (fun g => g.2.2.2.2 c)]
 ·rw [if_neg c, XMoney.ref_may]
  simp only [Option.bind_some]
  by_cases m : may n
  ·have m' := m
   unfold may at m'
   have g : good n ws := ⟨by omega, hl, m, hw, c⟩
   rw [decide_eq_true m', lombardref01_Split.j2, if_neg (by simp)]
   unfold splitS
   rw [if_pos g]
   have := l1_run g ws [] k (by simp) (by omega)
   simpa [quos, tot] using this
  ·have m' := m
   unfold may at m'
   rw [decide_eq_false m', lombardref01_Split.j2, if_pos (by simp)]
   unfold splitS
   rw [if_neg (fun g => m g.2.2.1)]

theorem l0_run {n : Int} {ws : List Int} (hl : ws.length ≤ 600) : ∀ (W V : List Int) (k : Nat), ws = V ++ W → (∀ v ∈ V, okw v) → 2 * W.length + 3 * ws.length + 220 ≤ k →
  lombardref01_Split.l0 k n ws (tot V) ws ws.length V.length = some (splitS n ws) := by
 intro W
 induction W with
 | nil =>
  intro V k e hV hk
  obtain ⟨k, rfl⟩ : ∃ m, k = m + 1 := ⟨k - 1, by omega⟩
  rw [List.append_nil] at e
  subst e
  rw [lombardref01_Split.l0, if_neg (by omega)]
  refine j2_run hV hl ?_ (by omega)
  by_cases c : ws.length = 0
  ·right
   rw [List.eq_nil_of_length_eq_zero c]
   rfl
  ·exact .inl c
 | cons w W ih =>
  intro V k e hV hk
  rw [List.length_cons] at hk
  obtain ⟨k, rfl⟩ : ∃ m, k = m + 2 := ⟨k - 2, by omega⟩
  have lw : ws.length = V.length + W.length + 1 := by rw [e]; simp; omega
  have hw : w ∈ ws := by rw [e]; simp
  have no : ¬okw w → splitS n ws = ([], 2) := by
   intro h
   unfold splitS
   rw [if_neg (fun g => h (g.2.2.2.1 w hw))]
  rw [lombardref01_Split.l0, if_pos (by omega), if_pos (by omega), if_pos (by omega), show rd ws (V.length : Int) = w by rw [e]; exact rd_mid V w W]
  by_cases c : w < 0
  ·rw [if_pos c, lombardref01_Split.j1, if_pos rfl, no (by unfold okw; omega)]
  ·rw [if_neg c, XMoney.ref_may]
   simp only [Option.bind_some]
   by_cases d : w ≤ 10000000000000
   ·rw [decide_eq_true (by omega), lombardref01_Split.j1, if_neg (by simp), if_neg (by omega), w64 (n := (V.length : Int) + 1) (by omega) (by omega)]
    have t := tot_le hV
    have t0 := tot_nn hV
    rw [w64 (n := tot V + w) (by omega) (by omega)]
    have := ih (V ++ [w]) k (by rw [e]; simp) (by
     intro v hv
     rcases List.mem_append.1 hv with hv | hv
     ·exact hV v hv
     ·rw [List.mem_singleton.1 hv]; unfold okw; omega) (by omega)
    rw [tot_append] at this
    simpa [tot] using this
   ·rw [decide_eq_false (by omega), lombardref01_Split.j1, if_pos (by simp), no (by unfold okw; omega)]

theorem split {n : Int} {ws : List Int} {k : Nat} (hk : 4000 ≤ k) : lombardref01_Split.f k n ws = some (splitS n ws) := by
 unfold lombardref01_Split.f
 by_cases c : ws.length ≤ 600
 ·have := l0_run (n := n) c ws [] k (by simp) (by simp) (by omega)
  simpa [tot] using this
 ·obtain ⟨k, rfl⟩ : ∃ m, k = m + 2 := ⟨k - 2, by omega⟩
  have no : splitS n ws = ([], 2) := by
   unfold splitS
   rw [if_neg (fun g => c g.2.1)]
  rw [no, lombardref01_Split.l0, if_pos (by omega), if_pos (by omega), if_pos (by omega)]
  have J : ∀ b : Bool, lombardref01_Split.j1 (k + 1) n ws 0 (rd ws 0) ws ws.length 0 b = some ([], 2) := by
   intro b
   rw [lombardref01_Split.j1]
   split
   ·rfl
   ·rw [if_pos (by omega)]
  split
  ·exact J _
  ·rw [XMoney.ref_may]
   simp only [Option.bind_some]
   exact J _
end Go.Proofs.Ytchpeobenlnemaa.XRefSplit
end

section
namespace Go.Proofs.Ytchpeobenlnemaa.XRefSched
set_option linter.unusedVariables false
set_option linter.unusedSimpArgs false
open Go.RowKit Go.Proofs.Ytchpeobenlnemaa.S Go.Proofs.Ytchpeobenlnemaa.XNum Go.Proofs.Ytchpeobenlnemaa.XWide Go.Proofs.Ytchpeobenlnemaa.XRate Go.Proofs.Ytchpeobenlnemaa.XRefRate Go.Proofs.Ytchpeobenlnemaa.XPay Go.Proofs.Ytchpeobenlnemaa.XSum Go.Proofs.Ytchpeobenlnemaa.XSplit Go.Proofs.Ytchpeobenlnemaa.XSched Go.Proofs.YtchpeobenlnemaaW.PrintWords Go.Proofs.YtchpeobenlnemaaW.PrintLast Go.Proofs.YtchpeobenlnemaaW.PrintMore

def conv (x : S43) : S59 := ⟨x.f0, x.f1, x.f2, x.f3⟩
theorem check_l0 {l : List Int} (hn : l.length ≤ 600) : ∀ (d i k : Nat), i + d = l.length → d + 1 ≤ k → lombardref08_Check.l0 k l l.length i = some (if ∀ r ∈ l.drop i, okr r then 0 else 2)
 | 0, i, k + 1, hi, _ => by
  rw [lombardref08_Check.l0, if_neg (by omega), List.drop_eq_nil_of_le (by omega), if_pos (by simp)]
 | d + 1, i, k + 1, hi, hk => by
  have hl : i < l.length := by omega
  have e : rd l (i : Int) = l[i] := by
   unfold rd
   simp [hl]
  rw [lombardref08_Check.l0, if_pos (by omega), if_pos (by omega), if_pos (by omega), e, List.drop_eq_getElem_cons hl]
  by_cases c : l[i] < 0
  ·rw [if_pos c, if_neg (by rw [List.forall_mem_cons]; unfold okr; omega)]
  ·rw [if_neg c]
   by_cases c2 : l[i] > 1000000000000
   ·rw [if_pos c2, if_neg (by rw [List.forall_mem_cons]; unfold okr; omega)]
   ·rw [if_neg c2, w64 (n := (i : Int) + 1) (by omega) (by omega), show ((i : Int) + 1) = ((i + 1 : Nat) : Int) from by omega, check_l0 hn d (i + 1) k (by omega) (by omega)]
    congr 1
    have ho : okr l[i] := ⟨by omega, by omega⟩
    by_cases c3 : ∀ r ∈ l.drop (i + 1), okr r
    ·rw [if_pos c3, if_pos (by rw [List.forall_mem_cons]; exact ⟨ho, c3⟩)]
    ·rw [if_neg c3, if_neg (by rw [List.forall_mem_cons]; exact fun h => c3 h.2)]
theorem rcheck_f {kd pr : Int} {rates : List Int} {per : Int} {k : Nat} (hk : 700 ≤ k) : lombardref08_Check.f k kd pr rates per = some (if okt kd pr rates per then 0 else 2) := by
 obtain ⟨k, rfl⟩ : ∃ m, k = m + 1 := ⟨k - 1, by omega⟩
 have bad : ∀ (h : ¬okt kd pr rates per), lombardref08_Check.j0 (k + 1) true kd pr rates per = some (if okt kd pr rates per then 0 else 2) := by
  intro h
  rw [lombardref08_Check.j0, if_pos rfl, if_neg h]
 unfold lombardref08_Check.f
 by_cases c1 : kd < 1
 ·rw [if_pos c1]
  exact bad fun h => by have := h.1; omega
 rw [if_neg c1]
 by_cases c2 : kd > 4
 ·rw [if_pos c2]
  exact bad fun h => by have := h.1; omega
 rw [if_neg c2]
 by_cases c3 : pr < 1
 ·rw [if_pos c3]
  exact bad fun h => by have := h.2.1; omega
 rw [if_neg c3]
 by_cases c4 : pr > 10000000000000
 ·rw [if_pos c4]
  exact bad fun h => by have := h.2.1; omega
 rw [if_neg c4]
 by_cases c5 : per < 1
 ·rw [if_pos c5]
  exact bad fun h => by have := h.2.2.1; omega
 rw [if_neg c5]
 by_cases c6 : per > 600
 ·rw [if_pos c6]
  exact bad fun h => by have := h.2.2.1; omega
 rw [if_neg c6]
 by_cases c7 : (rates.length : Int) < 1
 ·rw [if_pos c7]
  exact bad fun h => by have := h.2.2.2.1; omega
 rw [if_neg c7]
 by_cases c8 : (rates.length : Int) > per
 ·rw [decide_eq_true c8]
  exact bad fun h => by have := h.2.2.2.1; omega
 ·rw [decide_eq_false c8, lombardref08_Check.j0, if_neg (by simp)]
  have := check_l0 (l := rates) (by omega) rates.length 0 k (by omega) (by omega)
  rw [show ((0 : Nat) : Int) = 0 from rfl, List.drop_zero] at this
  rw [this]
  congr 1
  by_cases c9 : ∀ r ∈ rates, okr r
  ·rw [if_pos c9, if_pos ⟨⟨by omega, by omega⟩, ⟨by omega, by omega⟩, ⟨by omega, by omega⟩, ⟨by omega, by omega⟩, c9⟩]
  ·rw [if_neg c9, if_neg fun h => c9 h.2.2.2.2]
theorem rate_f {kd pr : Int} {rates : List Int} {per i : Int} (h0 : 0 ≤ i) (h1 : 1 ≤ rates.length) (h2 : rates.length ≤ 600) : lombardref08_rate.f kd pr rates per i = some (sched_Build.rt rates i) := by
 unfold lombardref08_rate.f sched_Build.rt mn
 rw [w64 (n := (rates.length : Int) - 1) (by omega) (by omega)]
 by_cases c : i < (rates.length : Int)
 ·rw [if_pos c, if_pos h0, if_neg (by omega)]
 ·rw [if_neg c, if_pos (by omega), if_pos (by omega), if_pos (by omega)]
theorem ones_l0 {kd pr : Int} {rates : List Int} {per : Int} {n : Nat} (hn : n ≤ 600) : ∀ (d i k : Nat), i + d = n → d + 1 ≤ k → lombardref08_Build.l0 k (List.replicate i 1 ++ List.replicate d 0) n i kd pr rates per =
  (lombardref01_Split.f (k - d - 1) pr (List.replicate n 1)).bind fun bt241 => (lombardref08_Build.l1 (k - d - 1) bt241.1 ([] : List (S59)) pr 0 0 kd pr rates per)
 | 0, i, k + 1, hi, _ => by
  rw [lombardref08_Build.l0, if_neg (by omega), List.replicate_zero, List.append_nil, show i = n from by omega]
  rfl
 | d + 1, i, k + 1, hi, hk => by
  have hl : (List.replicate i (1 : Int) ++ List.replicate (d + 1) 0).length = n := by simp; omega
  have hs : (List.replicate i (1 : Int) ++ List.replicate (d + 1) 0).set ((i : Int)).toNat 1 = List.replicate (i + 1) 1 ++ List.replicate d 0 := by
   rw [show ((i : Int)).toNat = i from by omega, List.replicate_succ, List.set_append_right _ _ (by simp), List.length_replicate, Nat.sub_self, List.set_cons_zero, List.replicate_succ', List.append_assoc]
   rfl
  rw [lombardref08_Build.l0, if_pos (by omega), if_pos (by omega), hl, if_pos (by omega), hs, w64 (n := (i : Int) + 1) (by omega) (by omega), show ((i : Int) + 1) = ((i + 1 : Nat) : Int) from by omega, ones_l0 hn d (i + 1) k (by omega) (by omega), show k + 1 - (d + 1) - 1 = k - d - 1 from by omega]
def rfin (out : List S59) (q : List S43 × Int) : List S59 × Int := if q.2 = 0 then (out ++ q.1.map conv, 0) else ([], q.2)
theorem rfin_cons (out : List S59) (x : S43) (q : List S43 × Int) : rfin (out ++ [conv x]) q = rfin out (cons x q) := by
 unfold rfin cons
 by_cases c : q.2 = 0
 ·rw [if_pos c, if_pos c, if_pos rfl]
  simp
 ·rw [if_neg c, if_neg c, if_neg c]
section
variable {kd pr : Int} {rates parts : List Int} {per d at_ : Nat} {left lvl : Int}
/-- a round, up to what is paid -/
theorem head_run {out : List S59} (hrl : rates.length ≤ 600) (h : Inv kd rates parts per (d + 1) at_ left lvl) {k : Nat} (hk : 1500 ≤ k) :
  lombardref08_Build.l1 (k + 2) parts out left lvl at_ kd pr rates per = lombardref08_Build.j3 k parts out left (if kd = 1 then nlv rates per at_ left lvl else lvl) at_ kd pr rates per (nr (sched_Build.rt rates at_) left) 0 0 0 := by
 have hs := h.sum
 have hpm := h.pm
 have a2 := h.l0
 have a3 := h.l1
 rw [lombardref08_Build.l1, if_pos (by omega), rate_f (by omega) h.r1 hrl, Option.bind_some, rinterest ⟨by omega, by omega⟩, int_eq h.rt a2 (by omega), Option.bind_some]
 by_cases c1 : kd = 1
 ·rw [if_pos c1, if_pos c1]
  by_cases c2 : (at_ : Int) = 0
  ·rw [if_pos c2, lombardref08_Build.j2, if_pos rfl, rlevel_f (by omega), Option.bind_some, w64 (n := (per : Int) - at_) (by omega) (by omega)]
   unfold nlv
   rw [if_pos (.inl c2)]
  ·rw [if_neg c2, w64 (n := (at_ : Int) - 1) (by omega) (by omega), rate_f (by omega) h.r1 hrl, Option.bind_some, lombardref08_Build.j2]
   unfold nlv
   by_cases c3 : sched_Build.rt rates at_ ≠ sched_Build.rt rates ((at_ : Int) - 1)
   ·rw [if_pos (bne_iff_ne.2 c3), if_pos (.inr c3), rlevel_f (by omega), Option.bind_some, w64 (n := (per : Int) - at_) (by omega) (by omega)]
   ·rw [if_neg (by rw [bne_iff_ne]; exact c3), if_neg (fun e => e.elim c2 c3)]
 ·rw [if_neg c1, if_neg c1, lombardref08_Build.j2, if_neg (by simp)]
theorem tail_run {out : List S59} (h : Inv kd rates parts per (d + 1) at_ left lvl) {k : Nat} :
  lombardref08_Build.j3 (k + 1) parts out left (if kd = 1 then nlv rates per at_ left lvl else lvl) at_ kd pr rates per (nr (sched_Build.rt rates at_) left) 0 0 0 =
   if left - (pay kd rates parts per d at_ left lvl - nr (sched_Build.rt rates at_) left) > 10000000000000 then some ([], 3) else if pay kd rates parts per d at_ left lvl > 10000000000000 then some ([], 3) else
    if out.length < 4398046511104 then lombardref08_Build.l1 k parts (out ++ [conv ⟨nr (sched_Build.rt rates at_) left, pay kd rates parts per d at_ left lvl, pay kd rates parts per d at_ left lvl - nr (sched_Build.rt rates at_) left, left - (pay kd rates parts per d at_ left lvl - nr (sched_Build.rt rates at_) left)⟩])
     (left - (pay kd rates parts per d at_ left lvl - nr (sched_Build.rt rates at_) left)) (if kd = 1 then nlv rates per at_ left lvl else lvl) ((at_ + 1 : Nat) : Int) kd pr rates per else none := by
 have hs := h.sum
 have hpm := h.pm
 have a0 := h.n0
 have a1 := h.n1
 have a2 := h.l0
 have a3 := h.l1
 obtain ⟨p0, p1, p2, p3, p4⟩ := h.paid
 have hkm := h.km
 have hpt := h.pt
 have hp : pay kd rates parts per d at_ left lvl = if d = 0 then left + nr (sched_Build.rt rates at_) left else if kd = 1 then mn (nlv rates per at_ left lvl) (left + nr (sched_Build.rt rates at_) left) else if kd = 2 then nr (sched_Build.rt rates at_) left + rd parts at_ else if kd = 3 then nr (sched_Build.rt rates at_) left else 0 := rfl
 generalize pay kd rates parts per d at_ left lvl = P at *
 generalize nr (sched_Build.rt rates at_) left = I at *
 have b1 : -9223372036854775808 ≤ P - I ∧ P - I ≤ 9223372036854775807 := by omega
 have b2 : -9223372036854775808 ≤ left - (P - I) ∧ left - (P - I) ≤ 9223372036854775807 := by omega
 have b3 : -9223372036854775808 ≤ left + I ∧ left + I ≤ 9223372036854775807 := by omega
 have b4 : -9223372036854775808 ≤ (at_ : Int) + 1 ∧ (at_ : Int) + 1 ≤ 9223372036854775807 := by omega
 have b5 : -9223372036854775808 ≤ (per : Int) - 1 ∧ (per : Int) - 1 ≤ 9223372036854775807 := by omega
 have b6 : kd = 2 → -9223372036854775808 ≤ I + rd parts at_ ∧ I + rd parts at_ ≤ 9223372036854775807 := fun hk => by
  obtain ⟨_, e1, e2⟩ := p4 hk
  omega
 have cz : d = 0 → (at_ : Int) = (per : Int) - 1 := fun e => by omega
 have cn : d ≠ 0 → ¬(at_ : Int) = (per : Int) - 1 := fun e => by omega
 have c0 : 0 ≤ (at_ : Int) := by omega
 have cl : kd = 2 → (at_ : Int) < (parts.length : Int) := fun hk => by have := (hpt hk).2.1; omega
 have eA : wrap64 ((at_ : Int) + 1) = ((at_ + 1 : Nat) : Int) := w64 b4.1 b4.2
 have ec : conv ⟨I, P, P - I, left - (P - I)⟩ = ⟨I, P, P - I, left - (P - I)⟩ := rfl
 rw [lombardref08_Build.j3, w64 b5.1 b5.2, w64 b3.1 b3.2, ec]
 by_cases c : d = 0
 ·rw [if_pos c] at hp
  rw [if_pos (cz c), ← hp, w64 b1.1 b1.2, w64 b2.1 b2.2, eA]
 ·rw [if_neg c] at hp
  rw [if_neg (cn c)]
  by_cases c1 : kd = 1
  ·rw [if_pos c1] at hp
   rw [if_pos c1, if_pos c1, ← hp, w64 b1.1 b1.2, w64 b2.1 b2.2, eA]
  ·rw [if_neg c1] at hp
   rw [if_neg c1, if_neg c1]
   by_cases c2 : kd = 2
   ·rw [if_pos c2] at hp
    rw [if_pos c2, if_pos c0, if_pos (cl c2), w64 (b6 c2).1 (b6 c2).2, ← hp, w64 b1.1 b1.2, w64 b2.1 b2.2, eA]
   ·rw [if_neg c2] at hp
    rw [if_neg c2]
    by_cases c3 : kd = 3
    ·rw [if_pos c3] at hp
     subst hp
     rw [if_pos c3, w64 b1.1 b1.2, w64 b2.1 b2.2, eA]
    ·rw [if_neg c3] at hp
     subst hp
     rw [if_neg c3, w64 b1.1 b1.2, w64 b2.1 b2.2, eA]
end
theorem ref_run {kd pr : Int} {rates parts : List Int} {per : Nat} (hrl : rates.length ≤ 600) : ∀ (d at_ : Nat) (left lvl : Int) (out : List S59) (k : Nat), Inv kd rates parts per d at_ left lvl → out.length ≤ at_ → 3 * d + 1600 ≤ k →
  lombardref08_Build.l1 k parts out left lvl at_ kd pr rates per = some (rfin out (bld kd rates parts per d at_ left lvl))
 | 0, at_, left, lvl, out, k + 1, h, _, hk => by
  have hs := h.sum
  rw [lombardref08_Build.l1, if_neg (by omega)]
  unfold bld rfin
  rw [if_pos rfl]
  simp
 | d + 1, at_, left, lvl, out, k + 3, h, ho, hk => by
  have hs := h.sum
  have hpm := h.pm
  have hnx := h.next
  rw [head_run hrl h (by omega), tail_run h]
  conv => rhs; unfold bld
  generalize pay kd rates parts per d at_ left lvl = P at *
  generalize nr (sched_Build.rt rates at_) left = I at *
  by_cases c : left - (P - I) > 10000000000000 ∨ P > 10000000000000
  ·rw [if_pos c]
   by_cases c1 : left - (P - I) > 10000000000000
   ·rw [if_pos c1]
    rfl
   ·rw [if_neg c1, if_pos (by omega)]
    rfl
  ·rw [if_neg c, if_neg (by omega), if_neg (by omega), if_pos (by omega), ref_run hrl d (at_ + 1) _ _ _ k (hnx c) (by rw [List.length_append]; simp; omega) (by omega), rfin_cons]
theorem rfin_nil (q : List S43 × Int) (h : q.2 = 0 ∨ q.1 = []) : rfin [] q = (q.1.map conv, q.2) := by
 unfold rfin
 obtain ⟨a, b⟩ := q
 by_cases c : b = 0
 ·subst c
  simp
 ·rw [if_neg c]
  rcases h with h | h
  ·exact absurd h c
  ·simp at h
   subst h
   rfl
theorem rbuild_f {kd pr per : Int} {rates : List Int} {k : Nat} (hk : 8000 ≤ k) : lombardref08_Build.f k kd pr rates per = some ((build kd pr rates per).1.map conv, (build kd pr rates per).2) := by
 unfold lombardref08_Build.f build
 rw [rcheck_f (by omega), Option.bind_some]
 by_cases c : okt kd pr rates per
 ·obtain ⟨h1, h2, h3, h4, h5⟩ := id c
  have hp : ((per.toNat : Nat) : Int) = per := by omega
  have ho := ones_l0 (kd := kd) (pr := pr) (rates := rates) (per := per) (n := per.toNat) (by omega) per.toNat 0 k (by omega) (by omega)
  rw [List.replicate_zero, List.nil_append, show ((0 : Nat) : Int) = 0 from rfl] at ho
  have hs := XRefSplit.split (n := pr) (ws := ones per.toNat) (k := k - per.toNat - 1) (by omega)
  rw [split_ones h2.1 h2.2 (by omega) (by omega)] at hs
  unfold ones at hs
  have hr := ref_run (pr := pr) (per := per.toNat) (rates := rates) (kd := kd) (parts := eqs pr per.toNat) (by omega) per.toNat 0 pr 0 [] (k - per.toNat - 1) (inv0 c) (by simp) (by omega)
  rw [hp, show ((0 : Nat) : Int) = 0 from rfl] at hr
  rw [if_pos c, if_pos rfl, if_pos (by omega), if_pos (by omega), Option.bind_some, List.length_replicate, ho, hs, Option.bind_some, hr, if_pos c, rfin_nil _ ((bld_err kd rates (eqs pr per.toNat) per.toNat per.toNat 0 pr 0).imp_right And.left)]
 ·rw [if_neg c, if_neg (by omega), if_neg c]
  rfl
end Go.Proofs.Ytchpeobenlnemaa.XRefSched
end

section
namespace Go.Proofs.Ytchpeobenlnemaa.S
open Go.RowKit Go.Proofs.YtchpeobenlnemaaW.PrintWords Go.Proofs.YtchpeobenlnemaaW.PrintLast Go.Proofs.YtchpeobenlnemaaW.PrintMore
attribute [local go_sem] max2_int min2_int max_two min_two max_three min_three max_four min_four   -- for this text's walks alone
attribute [local go_sem] Go.Proofs.Ytchpeobenlnemaa.XWalk.cell2
set_option linter.unusedVariables false
set_option linter.unusedSimpArgs false

/-! ### lombardlaw08_from: function 14 -/
def lombardlaw08_from.l0 : Nat → List (S59) → List (S43) → Int → Int → Option ((List (S59)))
 | 0, _, _, _, _ => none
 | k + 1, x3, x6, x7, x8 => if x8 < x7 then (if 0 ≤ x8 then (if x8 < (x6.length : Int) then (if x3.length < 4398046511104 then (lombardlaw08_from.l0 k (x3 ++ [(⟨(rd_T43 x6 x8).f0, (rd_T43 x6 x8).f1, (rd_T43 x6 x8).f2, (rd_T43 x6 x8).f3⟩ : S59)]) x6 x7 (wrap64 (x8 + 1))) else (none)) else (none)) else (none)) else (some x3)
def lombardlaw08_from.f (k : Nat) (l0 : List (S43)) : Option ((List (S59))) := lombardlaw08_from.l0 k ([] : List (S59)) l0 (l0.length : Int) 0
set_option maxHeartbeats 8000000 in
set_option maxRecDepth 100000 in
theorem lombardlaw08_from.calls (k : Nat) (A0 : Option Addr) (c0 : Nat) (l0 : List (S43)) (r : List (S59)) (w : World) (hr0 : Kd.C k43 w A0 l0.length l0) (hc0 : l0.length ≤ c0) (h : lombardlaw08_from.f k l0 = some r) :
  Calls Try.prog 14 #[.slice A0 l0.length c0] w fun e w' => ∃ v0_ : Value, e = .returned (v0_) ∧ Kd.R k59 59 w' w.heap.size (fun _ => True) v0_ r ∧ Below w.heap.size w w' := by
 have hu43 := Try.underlying43
 have HR0 := Aside0.mk hr0
 have HC0 := Aside0.mk hc0
 clear hr0 hc0
 have HB := Aside0.mk (Below.refl w.heap.size w)
 have H : (lombardlaw08_from.l0 k ([] : List (S59)) l0 (l0.length : Int) 0) = some r := h
 clear h
 have H' := Aside0.mk H
 clear H
 go_enter Try.func14, Try.ntmps14
 go_wp2
 go_loopg [3, 8] k (fun kq v3 v8 w' => ∃ (x3_1 : List (S59)) (x8_1 : Int), v8 = .int .i64 x8_1 ∧ Aside0 (lombardlaw08_from.l0 kq x3_1 l0 (l0.length : Int) x8_1 = some r) ∧ Aside0 (kq ≤ k) ∧ Aside0 (Kd.R k59 59 w' w.heap.size (fun _ => True) v3 x3_1) ∧ Aside0 (Below w.heap.size w w'))
 case atStart => exact ⟨(([] : List (S59))), (0), (by first | rfl | (simp; done) | (simp [*]; done)), H', ⟨Nat.le_refl _⟩, ⟨by first | exact Kd.R_nil _ _ _ _ _ | exact Kd.N_nil _ _ _ _ _ | exact Kd.V_nil _ _ _ _ _ | exact Kd.Q_nil _ _ _ _ _ | exact Kd.S_nil _ _ _ _ _⟩, ⟨by repeat (first | (with_reducible first | exact HB.out | apply below_alloc | apply pw_below_drewN | apply below_drew1) | exact HB.out)⟩⟩
 case round =>
  clear H'
  try clear c1
  obtain ⟨x3_1, x8_1, rfl, HA, HK1, HO_3, HB⟩ := hrel
  cases gk with
  | zero => exact absurd HA.out (by simp [lombardlaw08_from.l0])
  | succ k1 =>
   have H := HA.out
   clear HA
   simp only [lombardlaw08_from.l0] at H
   by_cases c2 : x8_1 < (l0.length : Int)
   ·rw [if_pos c2] at H
    have c2b0 : decide (x8_1 < (l0.length : Int)) = true := decide_eq_true c2
    clear c2
    by_cases c3 : 0 ≤ x8_1
    ·rw [if_pos c3] at H
     have c3b0 : decide (0 ≤ x8_1) = true := decide_eq_true c3
     clear c3
     by_cases c4 : x8_1 < (l0.length : Int)
     ·rw [if_pos c4] at H
      have c4b0 : decide (x8_1 < (l0.length : Int)) = true := decide_eq_true c4
      clear c4
      by_cases c5 : x3_1.length < 4398046511104
      ·rw [if_pos c5] at H
       have LMc5 := Aside0.mk c5
       clear c5
       obtain ⟨y272, hy272⟩ : ∃ y_ : List (S59), y_ = (x3_1 ++ [(⟨(rd_T43 l0 x8_1).f0, (rd_T43 l0 x8_1).f1, (rd_T43 l0 x8_1).f2, (rd_T43 l0 x8_1).f3⟩ : S59)]) := ⟨_, rfl⟩
       replace H : (lombardlaw08_from.l0 k1 y272 l0 (l0.length : Int) (wrap64 (x8_1 + 1))) = some r := by first | (rw [hy272]; with_reducible exact H) | (have H2_ := (Option.bind_some _ _).symm.trans H; rw [hy272]; with_reducible exact H2_) | (have H2_ := (Option.bind_some _ _).symm.trans H; with_reducible exact H2_) | with_reducible exact H | (rw [hy272]; exact H) | exact H
       have Ny272 := Aside0.mk hy272
       clear hy272
       have H' := Aside0.mk H
       clear H
       have p270 : 0 ≤ (x8_1 : Int) := of_decide_eq_true (by first | (with_reducible assumption) | assumption)
       have q270 : x8_1 < (l0.length : Int) := of_decide_eq_true (by first | (with_reducible assumption) | assumption)
       obtain ⟨ad270, e270, hx270_0, hx270_1, hx270_2, hx270_3⟩ := at_T43 HR0.out x8_1 p270 q270
       cases e270
       try replace hx270_0 := (HB.out.cell (World.block_lt_of_cell? w _ hx270_0)).trans hx270_0
       try replace hx270_1 := (HB.out.cell (World.block_lt_of_cell? w _ hx270_1)).trans hx270_1
       try replace hx270_2 := (HB.out.cell (World.block_lt_of_cell? w _ hx270_2)).trans hx270_2
       try replace hx270_3 := (HB.out.cell (World.block_lt_of_cell? w _ hx270_3)).trans hx270_3
       replace p270 := eq_true p270
       replace q270 := eq_true q270
       go_wp2_with (first | ((with_reducible refine gate_dst (N := 5) rfl ?_); refine box_event ?hg (N := 5) ?hd (cs := #[.int .i64 0, .int .i64 0, .int .i64 0, .int .i64 0]) (t := 43) ?hr ?_; (case hd => rfl); (case hg => rfl); (case hr => first | (go_simp; done) | (go_simp; rfl)); intro gb271 hg w6 hbox hb; have n0_ := Aside0.mk (Kd.R_below (by (with_reducible repeat (first | apply Kd.R_alloc | apply Kd.R_drewN | apply Kd.R_drew)); exact HO_3.out) hb); have n1_ := Aside0.mk (below_step (by repeat (first | (with_reducible first | exact HB.out | apply below_alloc | apply pw_below_drewN | apply below_drew1) | exact HB.out)) hb); have n2_ := Aside0.mk (hbox); have n3_ := Aside0.mk ((by rw [hg]; exact (below_size (by repeat (first | (with_reducible first | exact HB.out | apply below_alloc | apply pw_below_drewN | apply below_drew1) | exact HB.out))) : w.heap.size ≤ gb271)); have n4_ := Aside0.mk ((by rw [hg]; exact (below_size (by repeat (first | (with_reducible first | exact HB.out | apply below_alloc | apply pw_below_drewN | apply below_drew1) | exact HB.out))) : w.heap.size ≤ gb271)); clear HO_3; clear HB; have HO_3 := n0_; have HB := n1_; have BK271 := n2_; have GW271 := n3_; have GE271 := n4_; clear n0_ n1_ n2_ n3_ n4_; clear hb hbox hg; have hcz7_0 := (blk_cell BK271.out 0).trans rfl; have hcz7_1 := (blk_cell BK271.out 1).trans rfl; have hcz7_2 := (blk_cell BK271.out 2).trans rfl; have hcz7_3 := (blk_cell BK271.out 3).trans rfl; have hfz7_0 := blk_frozen BK271.out 0; have hfz7_1 := blk_frozen BK271.out 1; have hfz7_2 := blk_frozen BK271.out 2; have hfz7_3 := blk_frozen BK271.out 3) | ((with_reducible refine gate_builtin (b := .append) (xs := #[.tmp 12, .tmp 14]) rfl ?_); at_builtin; refine Kd.R_append k59 (w0 := w) w.heap.size rfl (.tmp 12) (.tmp 14) 32 59 (.agg #[(.int .i64 0), (.int .i64 0), (.int .i64 0), (.int .i64 0)]) 32 rfl Try.underlying32 info59 rfl (by decide) (by omega) u3 x3_1 (⟨(rd_T43 l0 x8_1).f0, (rd_T43 l0 x8_1).f1, (rd_T43 l0 x8_1).f2, (rd_T43 l0 x8_1).f3⟩ : S59) [.int .i64 ((rd_T43 l0 x8_1).f0), .int .i64 ((rd_T43 l0 x8_1).f1), .int .i64 ((rd_T43 l0 x8_1).f2), .int .i64 ((rd_T43 l0 x8_1).f3)] (fun _ => True) (fun _ => False) rfl (by first | (go_simp; done) | (go_simp; rfl)) ?aP (fun _ hk => hk.elim) ?aF ?aO ?aB ?aS ?aL ?_; (case aP => exact k59_mkM _ _ _ (⟨(rd_T43 l0 x8_1).f0, (rd_T43 l0 x8_1).f1, (rd_T43 l0 x8_1).f2, (rd_T43 l0 x8_1).f3⟩ : S59)); (case aB => exact (by repeat (first | (with_reducible first | exact HB.out | apply below_alloc | apply pw_below_drewN | apply below_drew1 | refine below_set ?_ GE271.out) | exact HB.out))); (case aF => exact (fun _ _ => trivial)); (case aO => exact (by (with_reducible repeat (first | apply Kd.R_alloc | apply Kd.R_drewN | apply Kd.R_drew)); exact Kd.R_mono (Kd.R_far (p := ⟨gb271, 3, none⟩) (Kd.R_far (p := ⟨gb271, 2, none⟩) (Kd.R_far (p := ⟨gb271, 1, none⟩) (Kd.R_far (p := ⟨gb271, 0, none⟩) (Kd.R_types HO_3.out BK271.out (by decide)) (fun _ hk => hk.2) (.int .i64 ((rd_T43 l0 x8_1).f0))) (fun _ hk => hk.2) (.int .i64 ((rd_T43 l0 x8_1).f1))) (fun _ hk => hk.2) (.int .i64 ((rd_T43 l0 x8_1).f2))) (fun _ hk => hk.2) (.int .i64 ((rd_T43 l0 x8_1).f3))) (fun _ hk => trivial))); (case aS => exact (below_size (by repeat (first | (with_reducible first | exact HB.out | apply below_alloc | apply pw_below_drewN | apply below_drew1 | refine below_set ?_ GE271.out) | exact HB.out)))); (case aL => have := LMc5.out; omega); intro v273 w8 ho hb hg hat; rw [← Ny272.out] at ho; have n0_ := Aside0.mk (blk_grown (g := gb271) (o := .cells #[.int .i64 ((rd_T43 l0 x8_1).f0), .int .i64 ((rd_T43 l0 x8_1).f1), .int .i64 ((rd_T43 l0 x8_1).f2), .int .i64 ((rd_T43 l0 x8_1).f3)] 43 (0, 0)) (by (with_reducible repeat (first | refine blk_drewN ?_ _ | refine blk_drew ?_ | refine blk_alloc ?_ _)); refine blk_put (cs := #[.int .i64 ((rd_T43 l0 x8_1).f0), .int .i64 ((rd_T43 l0 x8_1).f1), .int .i64 ((rd_T43 l0 x8_1).f2), .int .i64 0]) ?_ 3 _ rfl; (with_reducible repeat (first | refine blk_drewN ?_ _ | refine blk_drew ?_ | refine blk_alloc ?_ _)); refine blk_put (cs := #[.int .i64 ((rd_T43 l0 x8_1).f0), .int .i64 ((rd_T43 l0 x8_1).f1), .int .i64 0, .int .i64 0]) ?_ 2 _ rfl; (with_reducible repeat (first | refine blk_drewN ?_ _ | refine blk_drew ?_ | refine blk_alloc ?_ _)); refine blk_put (cs := #[.int .i64 ((rd_T43 l0 x8_1).f0), .int .i64 0, .int .i64 0, .int .i64 0]) ?_ 1 _ rfl; (with_reducible repeat (first | refine blk_drewN ?_ _ | refine blk_drew ?_ | refine blk_alloc ?_ _)); refine blk_put (cs := #[.int .i64 0, .int .i64 0, .int .i64 0, .int .i64 0]) ?_ 0 _ rfl; (with_reducible repeat (first | refine blk_drewN ?_ _ | refine blk_drew ?_ | refine blk_alloc ?_ _)); exact BK271.out) hg (Kd.R_ne HO_3.out BK271.out (by decide))); have n1_ := Aside0.mk (hb); have n2_ := Aside0.mk (ho); clear BK271; clear HB; clear HO_3; have BK271 := n0_; have HB := n1_; have HO274 := n2_; clear n0_ n1_ n2_; clear ho hb hg hat))
       go_roundg k1
       case measure => have := HK1.out; omega
       case rel => exact ⟨(y272), (wrap64 (x8_1 + 1)), (by first | rfl | (simp; done) | (simp [*]; done)), H', ⟨by have := HK1.out; omega⟩, ⟨by (with_reducible repeat (first | apply Kd.R_alloc | apply Kd.R_drewN | apply Kd.R_drew)); exact HO274.out⟩, ⟨by repeat (first | (with_reducible first | exact HB.out | apply below_alloc | apply pw_below_drewN | apply below_drew1 | refine below_set ?_ GE271.out) | exact HB.out)⟩⟩
      ·rw [if_neg c5] at H
       exact absurd H (by simp)
     ·rw [if_neg c4] at H
      exact absurd H (by simp)
    ·rw [if_neg c3] at H
     exact absurd H (by simp)
   ·rw [if_neg c2] at H
    have c2b0 : decide (x8_1 < (l0.length : Int)) = false := decide_eq_false c2
    clear c2
    obtain rfl := Option.some.inj H
    go_wp2
    go_ret
    exact ⟨_, by first | rfl | (simp [errW_none, errW_some] <;> rfl) | (simp [*, errW_none, errW_some] <;> rfl), by (with_reducible repeat (first | apply Kd.R_alloc | apply Kd.R_drewN | apply Kd.R_drew)); exact HO_3.out, by repeat (first | (with_reducible first | exact HB.out | apply below_alloc | apply pw_below_drewN | apply below_drew1) | exact HB.out)⟩

end Go.Proofs.Ytchpeobenlnemaa.S
end

section
namespace Go.Proofs.Ytchpeobenlnemaa.S
open Go.RowKit Go.Proofs.YtchpeobenlnemaaW.PrintWords Go.Proofs.YtchpeobenlnemaaW.PrintLast Go.Proofs.YtchpeobenlnemaaW.PrintMore
attribute [local go_sem] max2_int min2_int max_two min_two max_three min_three max_four min_four   -- for this text's walks alone
attribute [local go_sem] Go.Proofs.Ytchpeobenlnemaa.XWalk.cell2
set_option linter.unusedVariables false
set_option linter.unusedSimpArgs false

theorem eqA59 (d : Nat) (w : World) (x0 y0 : Int) (x1 y1 : Int) (x2 y2 : Int) (x3 y3 : Int) :
  (Op.equalIn (d + 2) 59 (.agg #[.int .i64 x0, .int .i64 x1, .int .i64 x2, .int .i64 x3]) (.agg #[.int .i64 y0, .int .i64 y1, .int .i64 y2, .int .i64 y3])).run Try.prog w = .ok (x0 == y0 && (x1 == y1 && (x2 == y2 && (x3 == y3)))) w := by
 refine eqA_of Try.underlying59 (by kernel_rfl) ?_
 refine eqf_cons (by rfl) (by go_simp; rfl) (by go_simp; rfl) (by go_simp) ?_
 refine eqf_cons (by rfl) (by go_simp; rfl) (by go_simp; rfl) (by go_simp) ?_
 refine eqf_cons (by rfl) (by go_simp; rfl) (by go_simp; rfl) (by go_simp) ?_
 exact eqf_last (by rfl) (by go_simp; rfl) (by go_simp; rfl) (by go_simp)
end Go.Proofs.Ytchpeobenlnemaa.S
end

section
namespace Go.Proofs.Ytchpeobenlnemaa.S
open Go.RowKit Go.Proofs.YtchpeobenlnemaaW.PrintWords Go.Proofs.YtchpeobenlnemaaW.PrintLast Go.Proofs.YtchpeobenlnemaaW.PrintMore
attribute [local go_sem] max2_int min2_int max_two min_two max_three min_three max_four min_four   -- for this text's walks alone
attribute [local go_sem] Go.Proofs.Ytchpeobenlnemaa.XWalk.cell2
set_option linter.unusedVariables false
set_option linter.unusedSimpArgs false

attribute [local go_sem high] eqA59
/-! ### lombardref08_Same: function 13 -/
def lombardref08_Same.l0 : Nat → List (S59) → List (S59) → Int → Int → Option (Bool)
 | 0, _, _, _, _ => none
 | k + 1, x0, x1, x12, x13 => if x13 < x12 then (if 0 ≤ x13 then (if x13 < (x0.length : Int) then (if x13 < (x1.length : Int) then (if (!(((rd_T59 x0 x13).f0) == ((rd_T59 x1 x13).f0)) || (!(((rd_T59 x0 x13).f1) == ((rd_T59 x1 x13).f1)) || (!(((rd_T59 x0 x13).f2) == ((rd_T59 x1 x13).f2)) || (!(((rd_T59 x0 x13).f3) == ((rd_T59 x1 x13).f3)))))) = true then (some false) else (lombardref08_Same.l0 k x0 x1 x12 (wrap64 (x13 + 1)))) else (none)) else (none)) else (none)) else (some true)
def lombardref08_Same.f (k : Nat) (l0 : List (S59)) (l1 : List (S59)) : Option (Bool) := if (l0.length : Int) = (l1.length : Int) then (lombardref08_Same.l0 k l0 l1 (l0.length : Int) 0) else (some false)
set_option maxHeartbeats 8000000 in
set_option maxRecDepth 100000 in
theorem lombardref08_Same.calls (k : Nat) (A0 : Option Addr) (c0 : Nat) (l0 : List (S59)) (A1 : Option Addr) (c1 : Nat) (l1 : List (S59)) (r : Bool) (w : World) (hr0 : Kd.C k59 w A0 l0.length l0) (hc0 : l0.length ≤ c0) (hr1 : Kd.C k59 w A1 l1.length l1) (hc1 : l1.length ≤ c1) (h : lombardref08_Same.f k l0 l1 = some r) :
  Calls Try.prog 13 #[.slice A0 l0.length c0, .slice A1 l1.length c1] w fun e w' => e = .returned (.bool r) ∧ Drawn0 w w' := by
 have hu59 := Try.underlying59
 have HR0 := Aside0.mk hr0
 have HC0 := Aside0.mk hc0
 clear hr0 hc0
 have HR1 := Aside0.mk hr1
 have HC1 := Aside0.mk hc1
 clear hr1 hc1
 have H : (if (l0.length : Int) = (l1.length : Int) then (lombardref08_Same.l0 k l0 l1 (l0.length : Int) 0) else (some false)) = some r := h
 clear h
 by_cases c3 : (l0.length : Int) = (l1.length : Int)
 ·rw [if_pos c3] at H
  have c3b0 : ((l0.length : Int) == (l1.length : Int)) = true := beq_iff_eq.mpr c3
  have c3b1 : ((l0.length : Int) != (l1.length : Int)) = false := bne_eq_false_iff_eq.mpr c3
  have c3b2 : (l0.length == l1.length) = true := by first | simpa using c3 | (simp at c3 ⊢; omega)
  clear c3
  have H' := Aside0.mk H
  clear H
  go_enter Try.func13, Try.ntmps13
  go_wp2
  repeat (go_quiet (fail); try go_wp2)
  go_loopg [13] k (fun kq v13 w' => ∃ (x13_1 : Int), v13 = .int .i64 x13_1 ∧ Aside0 (lombardref08_Same.l0 kq l0 l1 (l0.length : Int) x13_1 = some r) ∧ Aside0 (kq ≤ k) ∧ Drawn0 w w')
  case atStart => exact ⟨(0), (by first | rfl | (simp; done) | (simp [*]; done)), H', ⟨Nat.le_refl _⟩, by repeat (first | exact Drawn0.refl _ | apply Drawn0.step)⟩
  case round =>
   clear H'
   repeat first | clear c1 | clear p2 | clear c3 | clear c3b0 | clear c3b1 | clear c3b2
   obtain ⟨x13_1, rfl, HA, HK1, ⟨m1, rfl⟩⟩ := hrel
   cases gk with
   | zero => exact absurd HA.out (by simp [lombardref08_Same.l0])
   | succ k1 =>
    have H := HA.out
    clear HA
    simp only [lombardref08_Same.l0] at H
    by_cases c4 : x13_1 < (l0.length : Int)
    ·rw [if_pos c4] at H
     have c4b0 : decide (x13_1 < (l0.length : Int)) = true := decide_eq_true c4
     clear c4
     by_cases c5 : 0 ≤ x13_1
     ·rw [if_pos c5] at H
      have c5b0 : decide (0 ≤ x13_1) = true := decide_eq_true c5
      clear c5
      by_cases c6 : x13_1 < (l0.length : Int)
      ·rw [if_pos c6] at H
       have c6b0 : decide (x13_1 < (l0.length : Int)) = true := decide_eq_true c6
       clear c6
       by_cases c7 : x13_1 < (l1.length : Int)
       ·rw [if_pos c7] at H
        have c7b0 : decide (x13_1 < (l1.length : Int)) = true := decide_eq_true c7
        clear c7
        by_cases c8 : (!(((rd_T59 l0 x13_1).f0) == ((rd_T59 l1 x13_1).f0)) || (!(((rd_T59 l0 x13_1).f1) == ((rd_T59 l1 x13_1).f1)) || (!(((rd_T59 l0 x13_1).f2) == ((rd_T59 l1 x13_1).f2)) || (!(((rd_T59 l0 x13_1).f3) == ((rd_T59 l1 x13_1).f3)))))) = true
        ·rw [if_pos c8] at H
         have c8b0 : (!(((rd_T59 l0 x13_1).f0) == ((rd_T59 l1 x13_1).f0)) || (!(((rd_T59 l0 x13_1).f1) == ((rd_T59 l1 x13_1).f1)) || (!(((rd_T59 l0 x13_1).f2) == ((rd_T59 l1 x13_1).f2)) || (!(((rd_T59 l0 x13_1).f3) == ((rd_T59 l1 x13_1).f3)))))) = true := c8
         clear c8
         obtain rfl := Option.some.inj H
         have p268 : 0 ≤ (x13_1 : Int) := of_decide_eq_true (by first | (with_reducible assumption) | assumption)
         have q268 : x13_1 < (l0.length : Int) := of_decide_eq_true (by first | (with_reducible assumption) | assumption)
         obtain ⟨ad268, e268, hx268_0, hx268_1, hx268_2, hx268_3⟩ := at_T59 HR0.out x13_1 p268 q268
         cases e268
         replace p268 := eq_true p268
         replace q268 := eq_true q268
         have p269 : 0 ≤ (x13_1 : Int) := of_decide_eq_true (by first | (with_reducible assumption) | assumption)
         have q269 : x13_1 < (l1.length : Int) := of_decide_eq_true (by first | (with_reducible assumption) | assumption)
         obtain ⟨ad269, e269, hx269_0, hx269_1, hx269_2, hx269_3⟩ := at_T59 HR1.out x13_1 p269 q269
         cases e269
         replace p269 := eq_true p269
         replace q269 := eq_true q269
         go_wp2
         repeat (go_quiet (fail); try go_wp2)
         go_ret
         exact ⟨by first | rfl | (simp; done) | (simp [*]; done), by repeat (first | exact Drawn0.refl _ | apply Drawn0.step)⟩
        ·rw [if_neg c8] at H
         have c8b0 : (!(((rd_T59 l0 x13_1).f0) == ((rd_T59 l1 x13_1).f0)) || (!(((rd_T59 l0 x13_1).f1) == ((rd_T59 l1 x13_1).f1)) || (!(((rd_T59 l0 x13_1).f2) == ((rd_T59 l1 x13_1).f2)) || (!(((rd_T59 l0 x13_1).f3) == ((rd_T59 l1 x13_1).f3)))))) = false := by simpa using c8
         clear c8
         have H' := Aside0.mk H
         clear H
         have p268 : 0 ≤ (x13_1 : Int) := of_decide_eq_true (by first | (with_reducible assumption) | assumption)
         have q268 : x13_1 < (l0.length : Int) := of_decide_eq_true (by first | (with_reducible assumption) | assumption)
         obtain ⟨ad268, e268, hx268_0, hx268_1, hx268_2, hx268_3⟩ := at_T59 HR0.out x13_1 p268 q268
         cases e268
         replace p268 := eq_true p268
         replace q268 := eq_true q268
         have p269 : 0 ≤ (x13_1 : Int) := of_decide_eq_true (by first | (with_reducible assumption) | assumption)
         have q269 : x13_1 < (l1.length : Int) := of_decide_eq_true (by first | (with_reducible assumption) | assumption)
         obtain ⟨ad269, e269, hx269_0, hx269_1, hx269_2, hx269_3⟩ := at_T59 HR1.out x13_1 p269 q269
         cases e269
         replace p269 := eq_true p269
         replace q269 := eq_true q269
         go_wp2
         repeat (go_quiet (fail); try go_wp2)
         go_roundg k1
         case measure => have := HK1.out; omega
         case rel => exact ⟨(wrap64 (x13_1 + 1)), (by first | rfl | (simp; done) | (simp [*]; done)), H', ⟨by have := HK1.out; omega⟩, by repeat (first | exact Drawn0.refl _ | apply Drawn0.step)⟩
       ·rw [if_neg c7] at H
        exact absurd H (by simp)
      ·rw [if_neg c6] at H
       exact absurd H (by simp)
     ·rw [if_neg c5] at H
      exact absurd H (by simp)
    ·rw [if_neg c4] at H
     have c4b0 : decide (x13_1 < (l0.length : Int)) = false := decide_eq_false c4
     clear c4
     obtain rfl := Option.some.inj H
     go_wp2
     repeat (go_quiet (fail); try go_wp2)
     go_ret
     exact ⟨by first | rfl | (simp; done) | (simp [*]; done), by repeat (first | exact Drawn0.refl _ | apply Drawn0.step)⟩
 ·rw [if_neg c3] at H
  have c3b0 : ((l0.length : Int) == (l1.length : Int)) = false := beq_eq_false_iff_ne.mpr c3
  have c3b1 : ((l0.length : Int) != (l1.length : Int)) = true := bne_iff_ne.mpr c3
  have c3b2 : (l0.length == l1.length) = false := by first | simpa using c3 | (simp at c3 ⊢; omega)
  obtain rfl := Option.some.inj H
  go_enter Try.func13, Try.ntmps13
  go_wp2
  repeat (go_quiet (fail); try go_wp2)
  go_ret
  exact ⟨by first | rfl | (simp; done) | (simp [*]; done), by repeat (first | exact Drawn0.refl _ | apply Drawn0.step)⟩

end Go.Proofs.Ytchpeobenlnemaa.S
end

section
namespace Go.Proofs.Ytchpeobenlnemaa.XFrom
set_option linter.unusedVariables false
set_option linter.unusedSimpArgs false
open Go.RowKit Go.Proofs.Ytchpeobenlnemaa.S Go.Proofs.Ytchpeobenlnemaa.XNum Go.Proofs.Ytchpeobenlnemaa.XRate Go.Proofs.Ytchpeobenlnemaa.XSum Go.Proofs.Ytchpeobenlnemaa.XPay Go.Proofs.Ytchpeobenlnemaa.XSched Go.Proofs.Ytchpeobenlnemaa.XRefSched Go.Proofs.Ytchpeobenlnemaa.SchedRows Go.Proofs.YtchpeobenlnemaaW.PrintWords Go.Proofs.YtchpeobenlnemaaW.PrintLast

theorem rd43 {l : List S43} {i : Nat} (h : i < l.length) : rd_T43 l (i : Int) = l[i] := by
 unfold rd_T43
 simp [h]
theorem from_l0 {l : List S43} (hn : l.length ≤ 1000) : ∀ (d i : Nat) (acc : List S59) (k : Nat), i + d = l.length → acc.length ≤ i → d + 1 ≤ k → lombardlaw08_from.l0 k acc l l.length i = some (acc ++ (l.drop i).map conv) := by
 intro d
 induction d with
 | zero =>
  intro i acc k hi _ hk
  obtain ⟨k, rfl⟩ : ∃ m, k = m + 1 := ⟨k - 1, by omega⟩
  rw [lombardlaw08_from.l0, if_neg (by omega), List.drop_eq_nil_of_le (by omega)]
  simp
 | succ d ih =>
  intro i acc k hi ha hk
  obtain ⟨k, rfl⟩ : ∃ m, k = m + 1 := ⟨k - 1, by omega⟩
  have hlt : i < l.length := by omega
  rw [lombardlaw08_from.l0, if_pos (by omega), if_pos (by omega), if_pos (by omega), if_pos (by omega), rd43 hlt, w64 (n := (i : Int) + 1) (by omega) (by omega), show (i : Int) + 1 = ((i + 1 : Nat) : Int) by omega, ih (i + 1) _ k (by omega) (by simp; omega) (by omega), List.drop_eq_getElem_cons hlt]
  simp only [List.map_cons, List.append_assoc, List.singleton_append]
  rfl
theorem from_f {l : List S43} (hn : l.length ≤ 1000) {k : Nat} (hk : 1001 ≤ k) : lombardlaw08_from.f k l = some (l.map conv) := by
 unfold lombardlaw08_from.f
 rw [show (0 : Int) = ((0 : Nat) : Int) from rfl, from_l0 hn l.length 0 [] k (by omega) (by simp) (by omega)]
 simp
theorem same_l0 {l : List S59} (hn : l.length ≤ 1000) : ∀ (d i k : Nat), i + d = l.length → d + 1 ≤ k → lombardref08_Same.l0 k l l l.length i = some true := by
 intro d
 induction d with
 | zero =>
  intro i k hi hk
  obtain ⟨k, rfl⟩ : ∃ m, k = m + 1 := ⟨k - 1, by omega⟩
  rw [lombardref08_Same.l0, if_neg (by omega)]
 | succ d ih =>
  intro i k hi hk
  obtain ⟨k, rfl⟩ : ∃ m, k = m + 1 := ⟨k - 1, by omega⟩
  rw [lombardref08_Same.l0, if_pos (by omega), if_pos (by omega), if_pos (by omega), if_pos (by omega), w64 (n := (i : Int) + 1) (by omega) (by omega), show (i : Int) + 1 = ((i + 1 : Nat) : Int) by omega]
  simp only [beq_self_eq_true, Bool.not_true, Bool.or_self, Bool.false_eq_true, if_false]
  exact ih (i + 1) k (by omega) (by omega)
theorem same_self {l : List S59} (hn : l.length ≤ 1000) {k : Nat} (hk : 1001 ≤ k) : lombardref08_Same.f k l l = some true := by
 unfold lombardref08_Same.f
 rw [if_pos rfl, show (0 : Int) = ((0 : Nat) : Int) from rfl, same_l0 hn l.length 0 k (by omega) (by omega)]
theorem build_len (kd pr : Int) (rates : List Int) (per : Int) : (build kd pr rates per).1.length ≤ 600 := by
 unfold build
 by_cases c : okt kd pr rates per
 ·rw [if_pos c]
  have := c.2.2.1
  rcases bld_err kd rates (eqs pr per.toNat) per.toNat per.toNat 0 pr 0 with e | e
  ·rw [bld_len per.toNat 0 pr 0 _ (Prod.ext rfl e)]
   omega
  ·rw [e.1]
   simp
 ·rw [if_neg c]
  simp
end Go.Proofs.Ytchpeobenlnemaa.XFrom
end

section
namespace Go.Proofs.Ytchpeobenlnemaa.S
set_option linter.unusedVariables false
set_option linter.unusedSimpArgs false
open Go.RowKit Go.Proofs.YtchpeobenlnemaaW.PrintWords Go.Proofs.YtchpeobenlnemaaW.PrintLast Go.Proofs.YtchpeobenlnemaaW.PrintMore Go.Proofs.Ytchpeobenlnemaa.XPay Go.Proofs.Ytchpeobenlnemaa.XSched Go.Proofs.Ytchpeobenlnemaa.SchedRows Go.Proofs.Ytchpeobenlnemaa.SchedAlive
attribute [local go_sem] max2_int min2_int max_two min_two max_three min_three max_four min_four
attribute [local go_sem] Go.Proofs.Ytchpeobenlnemaa.XWalk.cell2
set_option linter.unusedVariables false
set_option linter.unusedSimpArgs false

theorem SchedBuilds.step {P : Program} {ops : Array Oper} {Q : Exit → Act → World → Prop} {i : Nat} {o : Oper} {K : Act → World → Prop} {a : Act} {w w' : World} {v : Value} (hi : ops[i]? = some o) (hg : o.guard = none) (hr : (execOp a.eval o).run P w = .ok (.value v) w') (h : K (a.put o.dst v) w') : wpOp P ops Q i K a w := by
 have hw : Region.wanted o (yielded ops a.tmps) = true := by simp [Region.wanted, hg]
 unfold wpOp
 simp only [hi]
 rw [if_pos hw]
 refine Or.inl ?_
 unfold Oper.wp
 rw [hr]
 exact h
theorem SchedBuilds.skip {P : Program} {ops : Array Oper} {Q : Exit → Act → World → Prop} {i : Nat} {o : Oper} {K : Act → World → Prop} {a : Act} {w w' : World} (hi : ops[i]? = some o) (hg : o.guard = none) (hd : o.dst = none) (hr : (execOp a.eval o).run P w = .ok .skip w') (h : K a w') : wpOp P ops Q i K a w := by
 have hw : Region.wanted o (yielded ops a.tmps) = true := by simp [Region.wanted, hg]
 have hp : a.put o.dst undef = a := by rw [hd]; rfl
 unfold wpOp
 simp only [hi]
 rw [if_pos hw]
 refine Or.inl ?_
 unfold Oper.wp
 rw [hr]
 show K (a.put o.dst undef) w'
 rw [hp]
 exact h
theorem SchedBuilds.norm {P : Program} {md : Region.Mode} {ops : Array Oper} {Q : Exit → Act → World → Prop} {S : World → Prop} {fuel : Nat} {l : Array Bool} {a a' : Act} {w : World} (ha : a = a') (h : wpAnyH P md ops Q S fuel l a' w) : wpAnyH P md ops Q S fuel l a w := ha ▸ h
theorem SchedBuilds.opOf {P : Program} {ops : Array Oper} {Q : Exit → Act → World → Prop} {i : Nat} {o : Oper} {K : Act → World → Prop} {a : Act} {w : World} (hi : ops[i]? = some o) (hw : Region.wanted o (yielded ops a.tmps) = true) (t : if Region.wanted o (yielded ops a.tmps) = true then Oper.wp P o a w K Q else K (a.put o.dst undef) w) : wpOp P ops Q i K a w := by
 rw [if_pos hw] at t
 unfold wpOp
 simp only [hi]
 rw [if_pos hw]
 exact Or.inl t
set_option maxHeartbeats 4000000 in
set_option maxRecDepth 100000 in
theorem lombardlaw08_SchedBuilds.walk (a0_0 : Int) (a0_1 : Int) (A0_2 : Option Addr) (c0_2 : Nat) (l0_2 : List Int) (a0_3 : Int) (w : World) (hr0_2 : Kd.C (Kd.int .i64) w A0_2 l0_2.length l0_2) (hc0_2 : l0_2.length ≤ c0_2) :
  Calls Try.prog 3 #[.agg #[.int .i64 a0_0, .int .i64 a0_1, .slice A0_2 l0_2.length c0_2, .int .i64 a0_3]] w fun e w' => e = .returned (.bool true) ∧ Below w.heap.size w w' := by
 obtain ⟨k, hk⟩ : ∃ k : Nat, k = 9000 := ⟨_, rfl⟩
 have HAl := Aside0.mk (alive (k := k) (by omega))
 obtain ⟨g0, hg0⟩ : ∃ g0, g0 = decide ((l0_2.length : Int) > 60 ∨ a0_3 > 60 ∧ a0_3 ≤ 600) := ⟨_, rfl⟩
 have HGr := Aside0.mk (show lombardlaw08_great.f a0_0 a0_1 l0_2 a0_3 = some g0 by rw [hg0]; exact great_f a0_0 a0_1 l0_2 a0_3)
 have HSM := Aside0.mk (show g0 = false → l0_2.length ≤ 60 by intro h; rw [h] at hg0; have := of_decide_eq_false hg0.symm; omega)
 obtain ⟨⟨xs, er⟩, hb⟩ : ∃ q, build a0_0 a0_1 l0_2 a0_3 = q := ⟨_, rfl⟩
 have HBu := Aside0.mk (show sched_Build.f k a0_0 a0_1 l0_2 a0_3 = some (xs, er) by rw [build_f (by omega), hb])
 have HRB := Aside0.mk (show lombardref08_Build.f k a0_0 a0_1 l0_2 a0_3 = some (xs.map XRefSched.conv, er) by rw [XRefSched.rbuild_f (by omega), hb])
 have hxl := XFrom.build_len a0_0 a0_1 l0_2 a0_3
 rw [hb] at hxl
 have HFr := Aside0.mk (XFrom.from_f (l := xs) (by exact Nat.le_trans hxl (by decide)) (k := k) (by omega))
 have HSa := Aside0.mk (XFrom.same_self (l := xs.map XRefSched.conv) (by rw [List.length_map]; exact Nat.le_trans hxl (by decide)) (k := k) (by omega))
 obtain ⟨ck, hck⟩ : ∃ ck : Int, ck = if okt a0_0 a0_1 l0_2 a0_3 then 0 else 2 := ⟨_, rfl⟩
 have HC1 := Aside0.mk (show sched_Check.f k a0_0 a0_1 l0_2 a0_3 = some ck by rw [hck]; exact check_f (by omega))
 have HC2 := Aside0.mk (show lombardref08_Check.f k a0_0 a0_1 l0_2 a0_3 = some ck by rw [hck]; exact XRefSched.rcheck_f (by omega))
 have HR := Aside0.mk hr0_2
 have HC := Aside0.mk hc0_2
 obtain ⟨N, hN⟩ : ∃ N : Nat, N = w.heap.size := ⟨_, rfl⟩
 have HN := Aside0.mk hN
 clear hk hg0 hb hr0_2 hc0_2 hxl hck
 go_enter Try.func3, Try.ntmps3
 go_upto_region 1 with (fail)
 have b1 := blk_new w (.cells #[.int .i64 a0_0, .int .i64 a0_1, .slice A0_2 l0_2.length c0_2, .int .i64 a0_3] 24 (0, 0))
 have y1 := below_alloc (Below.refl w.heap.size w) (.cells #[.int .i64 a0_0, .int .i64 a0_1, .slice A0_2 l0_2.length c0_2, .int .i64 a0_3] 24 (0, 0))
 have C1 := Aside0.mk (Kd.C_below HR.out y1)
 generalize w.alloc (.cells #[.int .i64 a0_0, .int .i64 a0_1, .slice A0_2 l0_2.length c0_2, .int .i64 a0_3] 24 (0, 0)) = W1 at *
 rw [← hN] at b1 y1 ⊢
 have B1 := Aside0.mk b1
 have Y1 := Aside0.mk y1
 clear b1 y1 hN
 go_upto_region 3 with (first | (go_at_call 9; go_must ((with_reducible refine (lombardlaw08_alive.calls k true _ HAl.out).mono ?_)); rintro e W2 ⟨rfl, hb2⟩))
 have lt1 : N < W1.heap.size := (Array.getElem?_eq_some_iff.1 B1.out).1
 have B2 := Aside0.mk ((hb2.block N lt1).trans B1.out)
 have Y2 := Aside0.mk (Y1.out.trans (hb2.mono (Nat.le_of_lt lt1)))
 have C2 := Aside0.mk (Kd.C_below C1.out hb2)
 clear hb2 lt1 B1 Y1 C1
 have z0 := (blk_cell B2.out 0).trans rfl
 have z1 := (blk_cell B2.out 1).trans rfl
 have z2 := (blk_cell B2.out 2).trans rfl
 have z3 := (blk_cell B2.out 3).trans rfl
 cases g0 with
 | true =>
  go_wp2_with (first | (go_at_call 10; go_must ((with_reducible refine (lombardlaw08_great.calls a0_0 a0_1 A0_2 c0_2 l0_2 a0_3 true _ C2.out HC.out HGr.out).mono ?_)); rintro e W3 ⟨rfl, hb3⟩))
  go_ret
  refine ⟨rfl, ?_⟩
  rw [← HN.out]
  exact Y2.out.trans (hb3.mono (Nat.le_of_lt (Array.getElem?_eq_some_iff.1 B2.out).1))
 | false =>
  go_upto_region 5 with (first | (go_at_call 10; go_must ((with_reducible refine (lombardlaw08_great.calls a0_0 a0_1 A0_2 c0_2 l0_2 a0_3 false _ C2.out HC.out HGr.out).mono ?_)); rintro e W3 ⟨rfl, hb3⟩))
  rename_i K5 hK5
  have lt2 : N < W2.heap.size := (Array.getElem?_eq_some_iff.1 B2.out).1
  have B3 := Aside0.mk ((hb3.block N lt2).trans B2.out)
  have Y3 := Aside0.mk (Y2.out.trans (hb3.mono (Nat.le_of_lt lt2)))
  clear hb3 lt2 B2 Y2 C2 z0 z1 z2 z3
  have TAIL : ∀ (W : World) (A : Option Addr) (c g : Nat) (s16 : Value), W.heap[N]? = some (.cells #[.int .i64 a0_0, .int .i64 a0_1, .slice A0_2 l0_2.length c0_2, .int .i64 a0_3] 24 (0, 0)) → W.heap[g]? = some (.cells #[.int .i64 a0_0, .int .i64 a0_1, .slice A l0_2.length c, .int .i64 a0_3] 27 (0, 0)) → Kd.C (Kd.int .i64) W A l0_2.length l0_2 → l0_2.length ≤ c → Below N w W → K5 { tmps := #[.agg #[.int .i64 a0_0, .int .i64 a0_1, .slice A0_2 l0_2.length c0_2, .int .i64 a0_3], .pointer (some ⟨N, 0, none⟩), .bool false, .pointer (some ⟨g, 0, none⟩), undef, undef, undef, undef, .bool true, .bool false, .agg #[.int .i64 a0_0, .int .i64 a0_1, .slice A0_2 l0_2.length c0_2, .int .i64 a0_3], .bool false, .pointer (some ⟨N, 0, none⟩), .int .i64 a0_0, .pointer (some ⟨N, 1, none⟩), .int .i64 a0_1, s16, .pointer (some ⟨N, 2, none⟩), .slice A0_2 l0_2.length c0_2, .slice A l0_2.length c, .pointer (some ⟨N, 3, none⟩), .int .i64 a0_3, .agg #[.int .i64 a0_0, .int .i64 a0_1, .slice A l0_2.length c, .int .i64 a0_3], undef, undef, undef, undef, undef, undef, undef, undef, undef, undef, undef, undef, undef, undef, undef, undef, undef, undef, undef, undef, undef, undef, undef, undef, undef, undef], defers := [] } W := by
   intro W A c g s16 hn hg hC hc hy
   have BN := Aside0.mk hn
   have BG := Aside0.mk hg
   have CA := Aside0.mk hC
   have CC := Aside0.mk hc
   have YB := Aside0.mk hy
   clear hn hg hC hc hy B3 Y3
   have z0 := (blk_cell BN.out 0).trans rfl
   have z1 := (blk_cell BN.out 1).trans rfl
   have z2 := (blk_cell BN.out 2).trans rfl
   have z3 := (blk_cell BN.out 3).trans rfl
   have y0 := (blk_cell BG.out 0).trans rfl
   have y1 := (blk_cell BG.out 1).trans rfl
   have y2 := (blk_cell BG.out 2).trans rfl
   have y3 := (blk_cell BG.out 3).trans rfl
   refine hK5 _ _ ?_
   go_upto_region 7 with (first | (go_at_call 11; go_must ((with_reducible refine (sched_Build.calls k a0_0 a0_1 A c l0_2 a0_3 xs er _ CA.out CC.out HBu.out).mono ?_)); rintro e W4 ⟨v4, rfl, hR4, hb4⟩))
   obtain ⟨A4, c4, rfl, hle4, hC4⟩ := Kd.R_reads hR4
   have BN4 := Aside0.mk ((hb4.block N (Array.getElem?_eq_some_iff.1 BN.out).1).trans BN.out)
   have BG4 := Aside0.mk ((hb4.block g (Array.getElem?_eq_some_iff.1 BG.out).1).trans BG.out)
   have YB4 := Aside0.mk (YB.out.trans (hb4.mono (Nat.le_of_lt (Array.getElem?_eq_some_iff.1 BN.out).1)))
   have X4 := Aside0.mk hC4
   have CA4 := Aside0.mk (Kd.C_below CA.out hb4)
   clear hR4 hC4 hb4 z0 z1 z2 z3 y0 y1 y2 y3 BN BG CA YB
   have z0 := (blk_cell BN4.out 0).trans rfl
   have z1 := (blk_cell BN4.out 1).trans rfl
   have z2 := (blk_cell BN4.out 2).trans rfl
   have z3 := (blk_cell BN4.out 3).trans rfl
   have CW4 := Aside0.mk (Kd.C_below HR.out (by rw [← HN.out]; exact YB4.out))
   go_upto_region 8 with (first | (go_at_call 12; go_must ((with_reducible refine (lombardref08_Build.calls k a0_0 a0_1 A0_2 c0_2 l0_2 a0_3 (xs.map XRefSched.conv) er _ CW4.out HC.out HRB.out).mono ?_)); rintro e W5 ⟨v5, rfl, hR5, hb5⟩))
   obtain ⟨A5, c5, rfl, hle5, hC5⟩ := Kd.R_reads hR5
   have BN5 := Aside0.mk ((hb5.block N (Array.getElem?_eq_some_iff.1 BN4.out).1).trans BN4.out)
   have BG5 := Aside0.mk ((hb5.block g (Array.getElem?_eq_some_iff.1 BG4.out).1).trans BG4.out)
   have YB5 := Aside0.mk (YB4.out.trans (hb5.mono (Nat.le_of_lt (Array.getElem?_eq_some_iff.1 BN4.out).1)))
   have X5 := Aside0.mk (Kd.C_below X4.out hb5)
   have X6 := Aside0.mk hC5
   have CA5 := Aside0.mk (Kd.C_below CA4.out hb5)
   have CW5 := Aside0.mk (Kd.C_below CW4.out hb5)
   have L4 := Aside0.mk hle4
   have L5 := Aside0.mk hle5
   clear hR5 hC5 hb5 z0 z1 z2 z3 BN4 BG4 CA4 YB4 X4 CW4 hle4 hle5
   rename_i K8 hK8
   have GL := Aside0.mk (Array.getElem?_eq_some_iff.1 BG5.out).1
   have NL := Aside0.mk (Array.getElem?_eq_some_iff.1 BN5.out).1
   have hS0 : Below W5.heap.size W5 { W5 with drawn := W5.drawn + 1 } := ⟨rfl, rfl, rfl, Nat.le_refl _, fun _ _ => rfl⟩
   refine wp_region_held (S := fun W1 => Below W5.heap.size W5 W1) (by kernel_rfl) ?_
   refine wpAnyH_take (i := 0) (v := .slice A4 xs.length c4) rfl (by kernel_rfl) (by kernel_rfl) (by kernel_rfl) (fun _ _ _ h => h) (Or.inl ⟨by kernel_rfl, fun W1 hS => by go_simp⟩) hS0 ?_
   refine wpAnyH_take (i := 2) (v := .slice A5 (List.map XRefSched.conv xs).length c5) rfl (by kernel_rfl) (by kernel_rfl) (by kernel_rfl) (fun _ _ _ h => h) (Or.inl ⟨by kernel_rfl, fun W1 hS => by go_simp⟩) hS0 ?_
   refine SchedBuilds.norm (a' := { tmps := #[.agg #[.int .i64 a0_0, .int .i64 a0_1, .slice A0_2 l0_2.length c0_2, .int .i64 a0_3], .pointer (some ⟨N, 0, none⟩), .bool false, .pointer (some ⟨g, 0, none⟩), .slice A4 xs.length c4, .int .i64 er, .slice A5 (List.map XRefSched.conv xs).length c5, .int .i64 er, .bool true, .bool false, .agg #[.int .i64 a0_0, .int .i64 a0_1, .slice A0_2 l0_2.length c0_2, .int .i64 a0_3], .bool false, .pointer (some ⟨N, 0, none⟩), .int .i64 a0_0, .pointer (some ⟨N, 1, none⟩), .int .i64 a0_1, s16, .pointer (some ⟨N, 2, none⟩), .slice A0_2 l0_2.length c0_2, .slice A l0_2.length c, .pointer (some ⟨N, 3, none⟩), .int .i64 a0_3, .agg #[.int .i64 a0_0, .int .i64 a0_1, .slice A l0_2.length c, .int .i64 a0_3], .tuple #[.slice A4 xs.length c4, .int .i64 er], .agg #[.int .i64 a0_0, .int .i64 a0_1, .slice A l0_2.length c, .int .i64 a0_3], .tuple #[.slice A4 xs.length c4, .int .i64 er], .slice A4 xs.length c4, .int .i64 er, .tuple #[.slice A5 (List.map XRefSched.conv xs).length c5, .int .i64 er], .agg #[.int .i64 a0_0, .int .i64 a0_1, .slice A0_2 l0_2.length c0_2, .int .i64 a0_3], .tuple #[.slice A5 (List.map XRefSched.conv xs).length c5, .int .i64 er], .slice A5 (List.map XRefSched.conv xs).length c5, .int .i64 er, .slice A4 xs.length c4, undef, .slice A5 (List.map XRefSched.conv xs).length c5, undef, undef, undef, undef, undef, undef, undef, undef, undef, undef, undef, undef, undef], defers := [] }) (by kernel_rfl) ?_
   refine wpAnyH_all (rs := [1]) (by kernel_rfl) (by simp) ?_
   intro ix hix
   obtain rfl : ix = 1 := by simpa using hix
   clear hix
   refine sched_Build.callR #[] rfl (by kernel_rfl) Try.func14 (by kernel_rfl) rfl #[.slice A4 xs.length c4] rfl (by kernel_rfl) (by kernel_rfl) ?_
   refine (lombardlaw08_from.calls k A4 c4 xs (xs.map XRefSched.conv) _ (Kd.C_below X5.out hS0) L4.out HFr.out).mono ?_
   rintro e Wa ⟨v6, rfl, hRa, hbb⟩
   obtain ⟨A6, c6, rfl, hle6, hC6⟩ := Kd.R_reads hRa
   have hS1 := hS0.trans (hbb.mono hS0.size)
   refine ⟨_, rfl, hS1, ?_⟩
   clear hS0 hbb
   have hS0 := hS1
   clear hS1
   refine SchedBuilds.norm (a' := { tmps := #[.agg #[.int .i64 a0_0, .int .i64 a0_1, .slice A0_2 l0_2.length c0_2, .int .i64 a0_3], .pointer (some ⟨N, 0, none⟩), .bool false, .pointer (some ⟨g, 0, none⟩), .slice A4 xs.length c4, .int .i64 er, .slice A5 (List.map XRefSched.conv xs).length c5, .int .i64 er, .bool true, .bool false, .agg #[.int .i64 a0_0, .int .i64 a0_1, .slice A0_2 l0_2.length c0_2, .int .i64 a0_3], .bool false, .pointer (some ⟨N, 0, none⟩), .int .i64 a0_0, .pointer (some ⟨N, 1, none⟩), .int .i64 a0_1, s16, .pointer (some ⟨N, 2, none⟩), .slice A0_2 l0_2.length c0_2, .slice A l0_2.length c, .pointer (some ⟨N, 3, none⟩), .int .i64 a0_3, .agg #[.int .i64 a0_0, .int .i64 a0_1, .slice A l0_2.length c, .int .i64 a0_3], .tuple #[.slice A4 xs.length c4, .int .i64 er], .agg #[.int .i64 a0_0, .int .i64 a0_1, .slice A l0_2.length c, .int .i64 a0_3], .tuple #[.slice A4 xs.length c4, .int .i64 er], .slice A4 xs.length c4, .int .i64 er, .tuple #[.slice A5 (List.map XRefSched.conv xs).length c5, .int .i64 er], .agg #[.int .i64 a0_0, .int .i64 a0_1, .slice A0_2 l0_2.length c0_2, .int .i64 a0_3], .tuple #[.slice A5 (List.map XRefSched.conv xs).length c5, .int .i64 er], .slice A5 (List.map XRefSched.conv xs).length c5, .int .i64 er, .slice A4 xs.length c4, .slice A6 (List.map XRefSched.conv xs).length c6, .slice A5 (List.map XRefSched.conv xs).length c5, undef, undef, undef, undef, undef, undef, undef, undef, undef, undef, undef, undef, undef], defers := [] }) (by kernel_rfl) ?_
   refine wpAnyH_all (rs := [3]) (by kernel_rfl) (by simp) ?_
   intro ix hix
   obtain rfl : ix = 3 := by simpa using hix
   clear hix
   refine sched_Build.callR #[] rfl (by kernel_rfl) Try.func13 (by kernel_rfl) rfl #[.slice A6 (List.map XRefSched.conv xs).length c6, .slice A5 (List.map XRefSched.conv xs).length c5] rfl (by kernel_rfl) (by kernel_rfl) ?_
   refine (lombardref08_Same.calls k A6 c6 _ A5 c5 _ true _ hC6 hle6 (Kd.C_below X6.out hS0) L5.out HSa.out).mono ?_
   rintro e Wb ⟨rfl, ⟨nd, rfl⟩⟩
   have hbb := pw_below_drewN (Below.refl Wa.heap.size Wa) nd
   have hS1 := hS0.trans (hbb.mono hS0.size)
   refine ⟨_, rfl, hS1, ?_⟩
   clear hS0 hbb
   have hS0 := hS1
   clear hS1
   have qe : (er == er) = true := beq_self_eq_true er
   have qc : (ck == ck) = true := beq_self_eq_true ck
   refine SchedBuilds.norm (a' := { tmps := #[.agg #[.int .i64 a0_0, .int .i64 a0_1, .slice A0_2 l0_2.length c0_2, .int .i64 a0_3], .pointer (some ⟨N, 0, none⟩), .bool false, .pointer (some ⟨g, 0, none⟩), .slice A4 xs.length c4, .int .i64 er, .slice A5 (List.map XRefSched.conv xs).length c5, .int .i64 er, .bool true, .bool false, .agg #[.int .i64 a0_0, .int .i64 a0_1, .slice A0_2 l0_2.length c0_2, .int .i64 a0_3], .bool false, .pointer (some ⟨N, 0, none⟩), .int .i64 a0_0, .pointer (some ⟨N, 1, none⟩), .int .i64 a0_1, s16, .pointer (some ⟨N, 2, none⟩), .slice A0_2 l0_2.length c0_2, .slice A l0_2.length c, .pointer (some ⟨N, 3, none⟩), .int .i64 a0_3, .agg #[.int .i64 a0_0, .int .i64 a0_1, .slice A l0_2.length c, .int .i64 a0_3], .tuple #[.slice A4 xs.length c4, .int .i64 er], .agg #[.int .i64 a0_0, .int .i64 a0_1, .slice A l0_2.length c, .int .i64 a0_3], .tuple #[.slice A4 xs.length c4, .int .i64 er], .slice A4 xs.length c4, .int .i64 er, .tuple #[.slice A5 (List.map XRefSched.conv xs).length c5, .int .i64 er], .agg #[.int .i64 a0_0, .int .i64 a0_1, .slice A0_2 l0_2.length c0_2, .int .i64 a0_3], .tuple #[.slice A5 (List.map XRefSched.conv xs).length c5, .int .i64 er], .slice A5 (List.map XRefSched.conv xs).length c5, .int .i64 er, .slice A4 xs.length c4, .slice A6 (List.map XRefSched.conv xs).length c6, .slice A5 (List.map XRefSched.conv xs).length c5, .bool true, undef, undef, undef, undef, undef, undef, undef, undef, undef, undef, undef, undef], defers := [] }) (by kernel_rfl) ?_
   refine wpAnyH_take (i := 4) (v := .bool true) rfl (by kernel_rfl) (by kernel_rfl) (by kernel_rfl) (fun _ _ _ h => h) (Or.inl ⟨by kernel_rfl, fun W1 hS => by go_simp⟩) hS0 ?_
   refine wpAnyH_take (i := 5) (v := .int .i64 er) rfl (by kernel_rfl) (by kernel_rfl) (by kernel_rfl) (fun _ _ _ h => h) (Or.inl ⟨by kernel_rfl, fun W1 hS => by go_simp⟩) hS0 ?_
   refine wpAnyH_take (i := 6) (v := .int .i64 er) rfl (by kernel_rfl) (by kernel_rfl) (by kernel_rfl) (fun _ _ _ h => h) (Or.inl ⟨by kernel_rfl, fun W1 hS => by go_simp⟩) hS0 ?_
   refine wpAnyH_take (i := 7) (v := .bool true) rfl (by kernel_rfl) (by kernel_rfl) (by kernel_rfl) (fun _ _ _ h => h) (Or.inl ⟨by kernel_rfl, fun W1 hS => by go_simp⟩) hS0 ?_
   refine wpAnyH_take (i := 8) (v := .bool true) rfl (by kernel_rfl) (by kernel_rfl) (by kernel_rfl) (fun _ _ _ h => h) (Or.inl ⟨by kernel_rfl, fun W1 hS => by go_simp⟩) hS0 ?_
   refine wpAnyH_take (i := 9) (v := .bool true) rfl (by kernel_rfl) (by kernel_rfl) (by kernel_rfl) (fun _ _ _ h => h) (Or.inl ⟨by kernel_rfl, fun W1 hS => by go_simp⟩) hS0 ?_
   refine wpAnyH_take (i := 10) (v := .agg #[.int .i64 a0_0, .int .i64 a0_1, .slice A l0_2.length c, .int .i64 a0_3]) rfl (by kernel_rfl) (by kernel_rfl) (by kernel_rfl) (fun _ _ _ h => h) (Or.inl ⟨by kernel_rfl, fun W1 hS => by have hq := (hS.block g GL.out).trans BG5.out; have y0 := (blk_cell hq 0).trans rfl; have y1 := (blk_cell hq 1).trans rfl; have y2 := (blk_cell hq 2).trans rfl; have y3 := (blk_cell hq 3).trans rfl; go_simp⟩) hS0 ?_
   refine wpAnyH_take (i := 12) (v := .agg #[.int .i64 a0_0, .int .i64 a0_1, .slice A0_2 l0_2.length c0_2, .int .i64 a0_3]) rfl (by kernel_rfl) (by kernel_rfl) (by kernel_rfl) (fun _ _ _ h => h) (Or.inl ⟨by kernel_rfl, fun W1 hS => by have hq := (hS.block N NL.out).trans BN5.out; have y0 := (blk_cell hq 0).trans rfl; have y1 := (blk_cell hq 1).trans rfl; have y2 := (blk_cell hq 2).trans rfl; have y3 := (blk_cell hq 3).trans rfl; go_simp⟩) hS0 ?_
   refine SchedBuilds.norm (a' := { tmps := #[.agg #[.int .i64 a0_0, .int .i64 a0_1, .slice A0_2 l0_2.length c0_2, .int .i64 a0_3], .pointer (some ⟨N, 0, none⟩), .bool false, .pointer (some ⟨g, 0, none⟩), .slice A4 xs.length c4, .int .i64 er, .slice A5 (List.map XRefSched.conv xs).length c5, .int .i64 er, .bool true, .bool false, .agg #[.int .i64 a0_0, .int .i64 a0_1, .slice A0_2 l0_2.length c0_2, .int .i64 a0_3], .bool false, .pointer (some ⟨N, 0, none⟩), .int .i64 a0_0, .pointer (some ⟨N, 1, none⟩), .int .i64 a0_1, s16, .pointer (some ⟨N, 2, none⟩), .slice A0_2 l0_2.length c0_2, .slice A l0_2.length c, .pointer (some ⟨N, 3, none⟩), .int .i64 a0_3, .agg #[.int .i64 a0_0, .int .i64 a0_1, .slice A l0_2.length c, .int .i64 a0_3], .tuple #[.slice A4 xs.length c4, .int .i64 er], .agg #[.int .i64 a0_0, .int .i64 a0_1, .slice A l0_2.length c, .int .i64 a0_3], .tuple #[.slice A4 xs.length c4, .int .i64 er], .slice A4 xs.length c4, .int .i64 er, .tuple #[.slice A5 (List.map XRefSched.conv xs).length c5, .int .i64 er], .agg #[.int .i64 a0_0, .int .i64 a0_1, .slice A0_2 l0_2.length c0_2, .int .i64 a0_3], .tuple #[.slice A5 (List.map XRefSched.conv xs).length c5, .int .i64 er], .slice A5 (List.map XRefSched.conv xs).length c5, .int .i64 er, .slice A4 xs.length c4, .slice A6 (List.map XRefSched.conv xs).length c6, .slice A5 (List.map XRefSched.conv xs).length c5, .bool true, .bool true, .int .i64 er, .int .i64 er, .bool true, .bool true, .bool true, .agg #[.int .i64 a0_0, .int .i64 a0_1, .slice A l0_2.length c, .int .i64 a0_3], undef, .agg #[.int .i64 a0_0, .int .i64 a0_1, .slice A0_2 l0_2.length c0_2, .int .i64 a0_3], undef, undef, undef], defers := [] }) (by kernel_rfl) ?_
   refine wpAnyH_all (rs := [11]) (by kernel_rfl) (by simp) ?_
   intro ix hix
   obtain rfl : ix = 11 := by simpa using hix
   clear hix
   refine sched_Build.callR #[] rfl (by kernel_rfl) Try.func15 (by kernel_rfl) rfl #[.agg #[.int .i64 a0_0, .int .i64 a0_1, .slice A l0_2.length c, .int .i64 a0_3]] rfl (by kernel_rfl) (by kernel_rfl) ?_
   refine (sched_Check.calls k a0_0 a0_1 A c l0_2 a0_3 ck _ (Kd.C_below CA5.out hS0) CC.out HC1.out).mono ?_
   rintro e Wc ⟨rfl, hbb⟩
   have hS1 := hS0.trans (hbb.mono hS0.size)
   refine ⟨_, rfl, hS1, ?_⟩
   clear hS0 hbb
   have hS0 := hS1
   clear hS1
   refine SchedBuilds.norm (a' := { tmps := #[.agg #[.int .i64 a0_0, .int .i64 a0_1, .slice A0_2 l0_2.length c0_2, .int .i64 a0_3], .pointer (some ⟨N, 0, none⟩), .bool false, .pointer (some ⟨g, 0, none⟩), .slice A4 xs.length c4, .int .i64 er, .slice A5 (List.map XRefSched.conv xs).length c5, .int .i64 er, .bool true, .bool false, .agg #[.int .i64 a0_0, .int .i64 a0_1, .slice A0_2 l0_2.length c0_2, .int .i64 a0_3], .bool false, .pointer (some ⟨N, 0, none⟩), .int .i64 a0_0, .pointer (some ⟨N, 1, none⟩), .int .i64 a0_1, s16, .pointer (some ⟨N, 2, none⟩), .slice A0_2 l0_2.length c0_2, .slice A l0_2.length c, .pointer (some ⟨N, 3, none⟩), .int .i64 a0_3, .agg #[.int .i64 a0_0, .int .i64 a0_1, .slice A l0_2.length c, .int .i64 a0_3], .tuple #[.slice A4 xs.length c4, .int .i64 er], .agg #[.int .i64 a0_0, .int .i64 a0_1, .slice A l0_2.length c, .int .i64 a0_3], .tuple #[.slice A4 xs.length c4, .int .i64 er], .slice A4 xs.length c4, .int .i64 er, .tuple #[.slice A5 (List.map XRefSched.conv xs).length c5, .int .i64 er], .agg #[.int .i64 a0_0, .int .i64 a0_1, .slice A0_2 l0_2.length c0_2, .int .i64 a0_3], .tuple #[.slice A5 (List.map XRefSched.conv xs).length c5, .int .i64 er], .slice A5 (List.map XRefSched.conv xs).length c5, .int .i64 er, .slice A4 xs.length c4, .slice A6 (List.map XRefSched.conv xs).length c6, .slice A5 (List.map XRefSched.conv xs).length c5, .bool true, .bool true, .int .i64 er, .int .i64 er, .bool true, .bool true, .bool true, .agg #[.int .i64 a0_0, .int .i64 a0_1, .slice A l0_2.length c, .int .i64 a0_3], .int .i64 ck, .agg #[.int .i64 a0_0, .int .i64 a0_1, .slice A0_2 l0_2.length c0_2, .int .i64 a0_3], undef, undef, undef], defers := [] }) (by kernel_rfl) ?_
   refine wpAnyH_all (rs := [13]) (by kernel_rfl) (by simp) ?_
   intro ix hix
   obtain rfl : ix = 13 := by simpa using hix
   clear hix
   refine sched_Build.callR #[] rfl (by kernel_rfl) Try.func16 (by kernel_rfl) rfl #[.agg #[.int .i64 a0_0, .int .i64 a0_1, .slice A0_2 l0_2.length c0_2, .int .i64 a0_3]] rfl (by kernel_rfl) (by kernel_rfl) ?_
   refine (lombardref08_Check.calls k a0_0 a0_1 A0_2 c0_2 l0_2 a0_3 ck _ (Kd.C_below CW5.out hS0) HC.out HC2.out).mono ?_
   rintro e Wd ⟨rfl, hbb⟩
   have hS1 := hS0.trans (hbb.mono hS0.size)
   refine ⟨_, rfl, hS1, ?_⟩
   clear hS0 hbb
   have hS0 := hS1
   clear hS1
   refine SchedBuilds.norm (a' := { tmps := #[.agg #[.int .i64 a0_0, .int .i64 a0_1, .slice A0_2 l0_2.length c0_2, .int .i64 a0_3], .pointer (some ⟨N, 0, none⟩), .bool false, .pointer (some ⟨g, 0, none⟩), .slice A4 xs.length c4, .int .i64 er, .slice A5 (List.map XRefSched.conv xs).length c5, .int .i64 er, .bool true, .bool false, .agg #[.int .i64 a0_0, .int .i64 a0_1, .slice A0_2 l0_2.length c0_2, .int .i64 a0_3], .bool false, .pointer (some ⟨N, 0, none⟩), .int .i64 a0_0, .pointer (some ⟨N, 1, none⟩), .int .i64 a0_1, s16, .pointer (some ⟨N, 2, none⟩), .slice A0_2 l0_2.length c0_2, .slice A l0_2.length c, .pointer (some ⟨N, 3, none⟩), .int .i64 a0_3, .agg #[.int .i64 a0_0, .int .i64 a0_1, .slice A l0_2.length c, .int .i64 a0_3], .tuple #[.slice A4 xs.length c4, .int .i64 er], .agg #[.int .i64 a0_0, .int .i64 a0_1, .slice A l0_2.length c, .int .i64 a0_3], .tuple #[.slice A4 xs.length c4, .int .i64 er], .slice A4 xs.length c4, .int .i64 er, .tuple #[.slice A5 (List.map XRefSched.conv xs).length c5, .int .i64 er], .agg #[.int .i64 a0_0, .int .i64 a0_1, .slice A0_2 l0_2.length c0_2, .int .i64 a0_3], .tuple #[.slice A5 (List.map XRefSched.conv xs).length c5, .int .i64 er], .slice A5 (List.map XRefSched.conv xs).length c5, .int .i64 er, .slice A4 xs.length c4, .slice A6 (List.map XRefSched.conv xs).length c6, .slice A5 (List.map XRefSched.conv xs).length c5, .bool true, .bool true, .int .i64 er, .int .i64 er, .bool true, .bool true, .bool true, .agg #[.int .i64 a0_0, .int .i64 a0_1, .slice A l0_2.length c, .int .i64 a0_3], .int .i64 ck, .agg #[.int .i64 a0_0, .int .i64 a0_1, .slice A0_2 l0_2.length c0_2, .int .i64 a0_3], .int .i64 ck, undef, undef], defers := [] }) (by kernel_rfl) ?_
   refine wpAnyH_take (i := 14) (v := .bool true) rfl (by kernel_rfl) (by kernel_rfl) (by kernel_rfl) (fun _ _ _ h => h) (Or.inl ⟨by kernel_rfl, fun W1 hS => by go_simp⟩) hS0 ?_
   refine wpAnyH_take (i := 15) (v := .bool true) rfl (by kernel_rfl) (by kernel_rfl) (by kernel_rfl) (fun _ _ _ h => h) (Or.inl ⟨by kernel_rfl, fun W1 hS => by go_simp⟩) hS0 ?_
   refine wpAnyH_take (i := 16) (v := .bool true) rfl (by kernel_rfl) (by kernel_rfl) (by kernel_rfl) (fun _ _ _ h => h) (Or.inl ⟨by kernel_rfl, fun W1 hS => by go_simp⟩) hS0 ?_
   refine SchedBuilds.norm (a' := { tmps := #[.agg #[.int .i64 a0_0, .int .i64 a0_1, .slice A0_2 l0_2.length c0_2, .int .i64 a0_3], .pointer (some ⟨N, 0, none⟩), .bool true, .pointer (some ⟨g, 0, none⟩), .slice A4 xs.length c4, .int .i64 er, .slice A5 (List.map XRefSched.conv xs).length c5, .int .i64 er, .bool true, .bool false, .agg #[.int .i64 a0_0, .int .i64 a0_1, .slice A0_2 l0_2.length c0_2, .int .i64 a0_3], .bool false, .pointer (some ⟨N, 0, none⟩), .int .i64 a0_0, .pointer (some ⟨N, 1, none⟩), .int .i64 a0_1, s16, .pointer (some ⟨N, 2, none⟩), .slice A0_2 l0_2.length c0_2, .slice A l0_2.length c, .pointer (some ⟨N, 3, none⟩), .int .i64 a0_3, .agg #[.int .i64 a0_0, .int .i64 a0_1, .slice A l0_2.length c, .int .i64 a0_3], .tuple #[.slice A4 xs.length c4, .int .i64 er], .agg #[.int .i64 a0_0, .int .i64 a0_1, .slice A l0_2.length c, .int .i64 a0_3], .tuple #[.slice A4 xs.length c4, .int .i64 er], .slice A4 xs.length c4, .int .i64 er, .tuple #[.slice A5 (List.map XRefSched.conv xs).length c5, .int .i64 er], .agg #[.int .i64 a0_0, .int .i64 a0_1, .slice A0_2 l0_2.length c0_2, .int .i64 a0_3], .tuple #[.slice A5 (List.map XRefSched.conv xs).length c5, .int .i64 er], .slice A5 (List.map XRefSched.conv xs).length c5, .int .i64 er, .slice A4 xs.length c4, .slice A6 (List.map XRefSched.conv xs).length c6, .slice A5 (List.map XRefSched.conv xs).length c5, .bool true, .bool true, .int .i64 er, .int .i64 er, .bool true, .bool true, .bool true, .agg #[.int .i64 a0_0, .int .i64 a0_1, .slice A l0_2.length c, .int .i64 a0_3], .int .i64 ck, .agg #[.int .i64 a0_0, .int .i64 a0_1, .slice A0_2 l0_2.length c0_2, .int .i64 a0_3], .int .i64 ck, .bool true, .bool true], defers := [] }) (by kernel_rfl) ?_
   refine wpAnyH_done (by kernel_rfl) ?_ _
   refine hK8 _ _ ?_
   go_wp2
   go_ret
   refine ⟨rfl, ?_⟩
   rw [← HN.out]
   exact YB5.out.trans (hS0.mono (Nat.le_of_lt NL.out))
  have TL := Aside0.mk TAIL
  clear TAIL hK5
  refine wp_region_held (S := fun W1 => W1.heap[N]? = some (.cells #[.int .i64 a0_0, .int .i64 a0_1, .slice A0_2 l0_2.length c0_2, .int .i64 a0_3] 24 (0, 0)) ∧ Below N w W1) (by kernel_rfl) ?_
  have hS0 : ({ W3 with drawn := W3.drawn + 1 } : World).heap[N]? = some (.cells #[.int .i64 a0_0, .int .i64 a0_1, .slice A0_2 l0_2.length c0_2, .int .i64 a0_3] 24 (0, 0)) ∧ Below N w { W3 with drawn := W3.drawn + 1 } := ⟨B3.out, Y3.out.drew⟩
  refine wpAnyH_take (i := 0) (v := .pointer (some ⟨N, 0, none⟩)) rfl (by kernel_rfl) (by kernel_rfl) (by kernel_rfl) (fun _ _ _ h => h) (Or.inl ⟨by kernel_rfl, fun W1 hS => by go_simp⟩) hS0 ?_
  refine wpAnyH_take (i := 1) (v := .int .i64 a0_0) rfl (by kernel_rfl) (by kernel_rfl) (by kernel_rfl) (fun _ _ _ h => h) (Or.inl ⟨by kernel_rfl, fun W1 hS => by have y0 := (blk_cell hS.1 0).trans rfl; have y1 := (blk_cell hS.1 1).trans rfl; have y2 := (blk_cell hS.1 2).trans rfl; have y3 := (blk_cell hS.1 3).trans rfl; go_simp⟩) hS0 ?_
  refine wpAnyH_take (i := 2) (v := .pointer (some ⟨N, 1, none⟩)) rfl (by kernel_rfl) (by kernel_rfl) (by kernel_rfl) (fun _ _ _ h => h) (Or.inl ⟨by kernel_rfl, fun W1 hS => by go_simp⟩) hS0 ?_
  refine wpAnyH_take (i := 3) (v := .int .i64 a0_1) rfl (by kernel_rfl) (by kernel_rfl) (by kernel_rfl) (fun _ _ _ h => h) (Or.inl ⟨by kernel_rfl, fun W1 hS => by have y0 := (blk_cell hS.1 0).trans rfl; have y1 := (blk_cell hS.1 1).trans rfl; have y2 := (blk_cell hS.1 2).trans rfl; have y3 := (blk_cell hS.1 3).trans rfl; go_simp⟩) hS0 ?_
  refine wpAnyH_take (i := 5) (v := .pointer (some ⟨N, 2, none⟩)) rfl (by kernel_rfl) (by kernel_rfl) (by kernel_rfl) (fun _ _ _ h => h) (Or.inl ⟨by kernel_rfl, fun W1 hS => by go_simp⟩) hS0 ?_
  refine wpAnyH_take (i := 6) (v := .slice A0_2 l0_2.length c0_2) rfl (by kernel_rfl) (by kernel_rfl) (by kernel_rfl) (fun _ _ _ h => h) (Or.inl ⟨by kernel_rfl, fun W1 hS => by have y0 := (blk_cell hS.1 0).trans rfl; have y1 := (blk_cell hS.1 1).trans rfl; have y2 := (blk_cell hS.1 2).trans rfl; have y3 := (blk_cell hS.1 3).trans rfl; go_simp⟩) hS0 ?_
  refine wpAnyH_take (i := 8) (v := .pointer (some ⟨N, 3, none⟩)) rfl (by kernel_rfl) (by kernel_rfl) (by kernel_rfl) (fun _ _ _ h => h) (Or.inl ⟨by kernel_rfl, fun W1 hS => by go_simp⟩) hS0 ?_
  refine wpAnyH_take (i := 9) (v := .int .i64 a0_3) rfl (by kernel_rfl) (by kernel_rfl) (by kernel_rfl) (fun _ _ _ h => h) (Or.inl ⟨by kernel_rfl, fun W1 hS => by have y0 := (blk_cell hS.1 0).trans rfl; have y1 := (blk_cell hS.1 1).trans rfl; have y2 := (blk_cell hS.1 2).trans rfl; have y3 := (blk_cell hS.1 3).trans rfl; go_simp⟩) hS0 ?_
  clear B3 Y3
  generalize ({ W3 with drawn := W3.drawn + 1 } : World) = W4 at *
  have BN := Aside0.mk hS0.1
  have YB := Aside0.mk hS0.2
  clear hS0
  refine wpAnyH_all (rs := [4, 11]) (by kernel_rfl) (by simp) ?_
  intro ix hix
  rcases (by simpa using hix : ix = 4 ∨ ix = 11) with rfl | rfl
  ·clear hix
   have ltN : N < W4.heap.size := (Array.getElem?_eq_some_iff.1 BN.out).1
   refine SchedBuilds.step (v := .slice (some ⟨W4.heap.size, 0, none⟩) 0 0) (w' := W4.alloc (.cells #[] 2)) rfl rfl (by go_simp) ?_
   have y4 := below_alloc (Below.refl W4.heap.size W4) (.cells #[] 2)
   have RO : Aside0 (Kd.R (Kd.int .i64) 2 (W4.alloc (.cells #[] 2)) N (fun _ => True) (.slice (some ⟨W4.heap.size, 0, none⟩) 0 0) []) := by
    have o := World.ownsRow_lit (base := N) (e := 2) (size := 1) W4 #[] 0 (Nat.le_of_lt ltN) (by decide) rfl
    exact ⟨Kd.R_of_own (xs := []) (ok := fun _ => True) (h1 := fun _ => rfl) o (fun _ _ => trivial)⟩
   obtain ⟨s16, hs16⟩ : ∃ s : Value, s = .slice (some ⟨W4.heap.size, 0, none⟩) 0 0 := ⟨_, rfl⟩
   rw [← hs16] at RO ⊢
   clear hs16
   generalize W4.alloc (.cells #[] 2) = W4a at *
   replace BN := Aside0.mk ((y4.block N ltN).trans BN.out)
   replace YB := Aside0.mk (YB.out.trans (y4.mono (Nat.le_of_lt ltN)))
   clear y4 ltN
   refine ⟨⟨BN.out, YB.out⟩, ?_⟩
   refine SchedBuilds.norm (a' := { tmps := #[.agg #[.int .i64 a0_0, .int .i64 a0_1, .slice A0_2 l0_2.length c0_2, .int .i64 a0_3], .pointer (some ⟨N, 0, none⟩), .bool false, undef, undef, undef, undef, undef, .bool true, .bool false, .agg #[.int .i64 a0_0, .int .i64 a0_1, .slice A0_2 l0_2.length c0_2, .int .i64 a0_3], .bool false, .pointer (some ⟨N, 0, none⟩), .int .i64 a0_0, .pointer (some ⟨N, 1, none⟩), .int .i64 a0_1, s16, .pointer (some ⟨N, 2, none⟩), .slice A0_2 l0_2.length c0_2, undef, .pointer (some ⟨N, 3, none⟩), .int .i64 a0_3, undef, undef, undef, undef, undef, undef, undef, undef, undef, undef, undef, undef, undef, undef, undef, undef, undef, undef, undef, undef, undef, undef, undef, undef, undef, undef, undef], defers := [] }) (by kernel_rfl) ?_
   refine wpAnyH_all (rs := [7, 11]) (by kernel_rfl) (by simp) ?_
   intro ix hix
   rcases (by simpa using hix : ix = 7 ∨ ix = 11) with rfl | rfl
   ·clear hix
    have ltN : N < W4a.heap.size := (Array.getElem?_eq_some_iff.1 BN.out).1
    refine SchedBuilds.opOf rfl (by kernel_rfl) (Kd.R_append_rows_step (Kd.int .i64) (w0 := w) N (by kernel_rfl) (.tmp 16) (.tmp 18) 22 2 (.int .i64 0) 8 rfl Try.underlying22 info2 rfl (by decide) (by omega) s16 [] l0_2 A0_2 l0_2.length c0_2 (fun _ => True) (fun _ => False) rfl rfl RO.out (Kd.C_below HR.out (by rw [← HN.out]; exact YB.out)) (fun _ _ h => h) (fun _ h => h.elim) (fun _ _ => trivial) YB.out (Nat.le_of_lt ltN) (by have := HSM.out (by simp); simp; omega) ?_)
    intro v19 W4aa ho hyb hgr hat
    rw [List.nil_append] at ho
    replace BN := Aside0.mk (blk_grown BN.out hgr (Kd.R_ne RO.out BN.out (by decide)))
    replace YB := Aside0.mk hyb
    replace RO := Aside0.mk ho
    clear ho hyb hgr hat ltN
    refine ⟨⟨BN.out, YB.out⟩, ?_⟩
    obtain ⟨A, c, rfl, hle, hCA⟩ := Kd.R_reads RO.out
    refine wpAnyH_take (i := 10) (v := .agg #[.int .i64 a0_0, .int .i64 a0_1, .slice A l0_2.length c, .int .i64 a0_3]) rfl (by kernel_rfl) (by kernel_rfl) (by kernel_rfl) (fun _ _ _ h => h) (Or.inl ⟨by kernel_rfl, fun W1 hS => by go_simp⟩) ⟨BN.out, YB.out⟩ ?_
    refine SchedBuilds.norm (a' := { tmps := #[.agg #[.int .i64 a0_0, .int .i64 a0_1, .slice A0_2 l0_2.length c0_2, .int .i64 a0_3], .pointer (some ⟨N, 0, none⟩), .bool false, undef, undef, undef, undef, undef, .bool true, .bool false, .agg #[.int .i64 a0_0, .int .i64 a0_1, .slice A0_2 l0_2.length c0_2, .int .i64 a0_3], .bool false, .pointer (some ⟨N, 0, none⟩), .int .i64 a0_0, .pointer (some ⟨N, 1, none⟩), .int .i64 a0_1, s16, .pointer (some ⟨N, 2, none⟩), .slice A0_2 l0_2.length c0_2, .slice A l0_2.length c, .pointer (some ⟨N, 3, none⟩), .int .i64 a0_3, .agg #[.int .i64 a0_0, .int .i64 a0_1, .slice A l0_2.length c, .int .i64 a0_3], undef, undef, undef, undef, undef, undef, undef, undef, undef, undef, undef, undef, undef, undef, undef, undef, undef, undef, undef, undef, undef, undef, undef, undef, undef, undef], defers := [] }) (by kernel_rfl) ?_
    refine wpAnyH_all (rs := [11]) (by kernel_rfl) (by simp) ?_
    intro ix hix
    obtain rfl : ix = 11 := by simpa using hix
    clear hix
    have ltN : N < W4aa.heap.size := (Array.getElem?_eq_some_iff.1 BN.out).1
    refine SchedBuilds.step (v := .pointer (some ⟨W4aa.heap.size, 0, none⟩)) (w' := W4aa.alloc (.cells #[.int .i64 0, .int .i64 0, .slice none 0 0, .int .i64 0] 27 (0, 0))) rfl rfl (by go_simp) ?_
    have y4 := below_alloc (Below.refl W4aa.heap.size W4aa) (.cells #[.int .i64 0, .int .i64 0, .slice none 0 0, .int .i64 0] 27 (0, 0))
    have b4 := blk_new W4aa (.cells #[.int .i64 0, .int .i64 0, .slice none 0 0, .int .i64 0] 27 (0, 0))
    obtain ⟨g, hg⟩ : ∃ g, g = W4aa.heap.size := ⟨_, rfl⟩
    have NG := Aside0.mk (show N < g by rw [hg]; exact ltN)
    rw [← hg] at b4 ⊢
    generalize W4aa.alloc (.cells #[.int .i64 0, .int .i64 0, .slice none 0 0, .int .i64 0] 27 (0, 0)) = W4aaa at *
    have BG := Aside0.mk b4
    replace RO := Aside0.mk (Kd.R_below RO.out y4)
    replace BN := Aside0.mk ((y4.block N ltN).trans BN.out)
    replace YB := Aside0.mk (YB.out.trans (y4.mono (Nat.le_of_lt ltN)))
    clear y4 b4 ltN hg
    refine ⟨⟨BN.out, YB.out⟩, ?_⟩
    refine SchedBuilds.norm (a' := { tmps := #[.agg #[.int .i64 a0_0, .int .i64 a0_1, .slice A0_2 l0_2.length c0_2, .int .i64 a0_3], .pointer (some ⟨N, 0, none⟩), .bool false, .pointer (some ⟨g, 0, none⟩), undef, undef, undef, undef, .bool true, .bool false, .agg #[.int .i64 a0_0, .int .i64 a0_1, .slice A0_2 l0_2.length c0_2, .int .i64 a0_3], .bool false, .pointer (some ⟨N, 0, none⟩), .int .i64 a0_0, .pointer (some ⟨N, 1, none⟩), .int .i64 a0_1, s16, .pointer (some ⟨N, 2, none⟩), .slice A0_2 l0_2.length c0_2, .slice A l0_2.length c, .pointer (some ⟨N, 3, none⟩), .int .i64 a0_3, .agg #[.int .i64 a0_0, .int .i64 a0_1, .slice A l0_2.length c, .int .i64 a0_3], undef, undef, undef, undef, undef, undef, undef, undef, undef, undef, undef, undef, undef, undef, undef, undef, undef, undef, undef, undef, undef, undef, undef, undef, undef, undef], defers := [] }) (by kernel_rfl) ?_
    refine wpAnyH_all (rs := [12]) (by kernel_rfl) (by simp) ?_
    intro ix hix
    obtain rfl : ix = 12 := by simpa using hix
    clear hix
    have y0 := (blk_cell BG.out 0).trans rfl
    have f0 := blk_frozen BG.out 0
    have y1 := (blk_cell BG.out 1).trans rfl
    have f1 := blk_frozen BG.out 1
    have y2 := (blk_cell BG.out 2).trans rfl
    have f2 := blk_frozen BG.out 2
    have y3 := (blk_cell BG.out 3).trans rfl
    have f3 := blk_frozen BG.out 3
    refine SchedBuilds.skip (w' := ((((W4aaa.setCell ⟨g, 0, none⟩ (.int .i64 a0_0)).setCell ⟨g, 1, none⟩ (.int .i64 a0_1)).setCell ⟨g, 2, none⟩ (.slice A l0_2.length c)).setCell ⟨g, 3, none⟩ (.int .i64 a0_3))) rfl rfl rfl (by go_simp) ?_
    clear y0 y1 y2 y3 f0 f1 f2 f3
    have hgb := (blk_put (blk_put (blk_put (blk_put BG.out 0 (.int .i64 a0_0) rfl) 1 (.int .i64 a0_1) rfl) 2 (.slice A l0_2.length c) rfl) 3 (.int .i64 a0_3) rfl)
    have hnb := ((Below.heap_setCell (((W4aaa.setCell ⟨g, 0, none⟩ (.int .i64 a0_0)).setCell ⟨g, 1, none⟩ (.int .i64 a0_1)).setCell ⟨g, 2, none⟩ (.slice A l0_2.length c)) ⟨g, 3, none⟩ (.int .i64 a0_3) N (Nat.ne_of_lt NG.out)).trans ((Below.heap_setCell ((W4aaa.setCell ⟨g, 0, none⟩ (.int .i64 a0_0)).setCell ⟨g, 1, none⟩ (.int .i64 a0_1)) ⟨g, 2, none⟩ (.slice A l0_2.length c) N (Nat.ne_of_lt NG.out)).trans ((Below.heap_setCell (W4aaa.setCell ⟨g, 0, none⟩ (.int .i64 a0_0)) ⟨g, 1, none⟩ (.int .i64 a0_1) N (Nat.ne_of_lt NG.out)).trans ((Below.heap_setCell W4aaa ⟨g, 0, none⟩ (.int .i64 a0_0) N (Nat.ne_of_lt NG.out)).trans BN.out))))
    have hyb := (Below.setCell (Below.setCell (Below.setCell (Below.setCell YB.out (p := ⟨g, 0, none⟩) (Nat.le_of_lt NG.out) (.int .i64 a0_0)) (p := ⟨g, 1, none⟩) (Nat.le_of_lt NG.out) (.int .i64 a0_1)) (p := ⟨g, 2, none⟩) (Nat.le_of_lt NG.out) (.slice A l0_2.length c)) (p := ⟨g, 3, none⟩) (Nat.le_of_lt NG.out) (.int .i64 a0_3))
    have hrc := (Kd.R_reads' (Kd.R_far (p := ⟨g, 3, none⟩) (Kd.R_far (p := ⟨g, 2, none⟩) (Kd.R_far (p := ⟨g, 1, none⟩) (Kd.R_far (p := ⟨g, 0, none⟩) (Kd.R_types RO.out BG.out (by decide)) (fun _ hk => hk.2) (.int .i64 a0_0)) (fun _ hk => hk.2) (.int .i64 a0_1)) (fun _ hk => hk.2) (.slice A l0_2.length c)) (fun _ hk => hk.2) (.int .i64 a0_3))).2.2
    refine ⟨⟨hnb, hyb⟩, ?_⟩
    refine SchedBuilds.norm (a' := { tmps := #[.agg #[.int .i64 a0_0, .int .i64 a0_1, .slice A0_2 l0_2.length c0_2, .int .i64 a0_3], .pointer (some ⟨N, 0, none⟩), .bool false, .pointer (some ⟨g, 0, none⟩), undef, undef, undef, undef, .bool true, .bool false, .agg #[.int .i64 a0_0, .int .i64 a0_1, .slice A0_2 l0_2.length c0_2, .int .i64 a0_3], .bool false, .pointer (some ⟨N, 0, none⟩), .int .i64 a0_0, .pointer (some ⟨N, 1, none⟩), .int .i64 a0_1, s16, .pointer (some ⟨N, 2, none⟩), .slice A0_2 l0_2.length c0_2, .slice A l0_2.length c, .pointer (some ⟨N, 3, none⟩), .int .i64 a0_3, .agg #[.int .i64 a0_0, .int .i64 a0_1, .slice A l0_2.length c, .int .i64 a0_3], undef, undef, undef, undef, undef, undef, undef, undef, undef, undef, undef, undef, undef, undef, undef, undef, undef, undef, undef, undef, undef, undef, undef, undef, undef, undef], defers := [] }) (by kernel_rfl) ?_
    refine wpAnyH_done (by kernel_rfl) ?_ _
    exact TL.out _ A c g s16 hnb hgb hrc hle hyb
   ·clear hix
    have ltN : N < W4a.heap.size := (Array.getElem?_eq_some_iff.1 BN.out).1
    refine SchedBuilds.step (v := .pointer (some ⟨W4a.heap.size, 0, none⟩)) (w' := W4a.alloc (.cells #[.int .i64 0, .int .i64 0, .slice none 0 0, .int .i64 0] 27 (0, 0))) rfl rfl (by go_simp) ?_
    have y4 := below_alloc (Below.refl W4a.heap.size W4a) (.cells #[.int .i64 0, .int .i64 0, .slice none 0 0, .int .i64 0] 27 (0, 0))
    have b4 := blk_new W4a (.cells #[.int .i64 0, .int .i64 0, .slice none 0 0, .int .i64 0] 27 (0, 0))
    obtain ⟨g, hg⟩ : ∃ g, g = W4a.heap.size := ⟨_, rfl⟩
    have NG := Aside0.mk (show N < g by rw [hg]; exact ltN)
    rw [← hg] at b4 ⊢
    generalize W4a.alloc (.cells #[.int .i64 0, .int .i64 0, .slice none 0 0, .int .i64 0] 27 (0, 0)) = W4aa at *
    have BG := Aside0.mk b4
    replace RO := Aside0.mk (Kd.R_below RO.out y4)
    replace BN := Aside0.mk ((y4.block N ltN).trans BN.out)
    replace YB := Aside0.mk (YB.out.trans (y4.mono (Nat.le_of_lt ltN)))
    clear y4 b4 ltN hg
    refine ⟨⟨BN.out, YB.out⟩, ?_⟩
    refine SchedBuilds.norm (a' := { tmps := #[.agg #[.int .i64 a0_0, .int .i64 a0_1, .slice A0_2 l0_2.length c0_2, .int .i64 a0_3], .pointer (some ⟨N, 0, none⟩), .bool false, .pointer (some ⟨g, 0, none⟩), undef, undef, undef, undef, .bool true, .bool false, .agg #[.int .i64 a0_0, .int .i64 a0_1, .slice A0_2 l0_2.length c0_2, .int .i64 a0_3], .bool false, .pointer (some ⟨N, 0, none⟩), .int .i64 a0_0, .pointer (some ⟨N, 1, none⟩), .int .i64 a0_1, s16, .pointer (some ⟨N, 2, none⟩), .slice A0_2 l0_2.length c0_2, undef, .pointer (some ⟨N, 3, none⟩), .int .i64 a0_3, undef, undef, undef, undef, undef, undef, undef, undef, undef, undef, undef, undef, undef, undef, undef, undef, undef, undef, undef, undef, undef, undef, undef, undef, undef, undef, undef], defers := [] }) (by kernel_rfl) ?_
    refine wpAnyH_all (rs := [7]) (by kernel_rfl) (by simp) ?_
    intro ix hix
    obtain rfl : ix = 7 := by simpa using hix
    clear hix
    have ltN : N < W4aa.heap.size := (Array.getElem?_eq_some_iff.1 BN.out).1
    refine SchedBuilds.opOf rfl (by kernel_rfl) (Kd.R_append_rows_step (Kd.int .i64) (w0 := w) N (by kernel_rfl) (.tmp 16) (.tmp 18) 22 2 (.int .i64 0) 8 rfl Try.underlying22 info2 rfl (by decide) (by omega) s16 [] l0_2 A0_2 l0_2.length c0_2 (fun _ => True) (fun _ => False) rfl rfl RO.out (Kd.C_below HR.out (by rw [← HN.out]; exact YB.out)) (fun _ _ h => h) (fun _ h => h.elim) (fun _ _ => trivial) YB.out (Nat.le_of_lt ltN) (by have := HSM.out (by simp); simp; omega) ?_)
    intro v19 W4aaa ho hyb hgr hat
    rw [List.nil_append] at ho
    replace BG := Aside0.mk (blk_grown BG.out hgr (Kd.R_ne RO.out BG.out (by decide)))
    replace BN := Aside0.mk (blk_grown BN.out hgr (Kd.R_ne RO.out BN.out (by decide)))
    replace YB := Aside0.mk hyb
    replace RO := Aside0.mk ho
    clear ho hyb hgr hat ltN
    refine ⟨⟨BN.out, YB.out⟩, ?_⟩
    obtain ⟨A, c, rfl, hle, hCA⟩ := Kd.R_reads RO.out
    refine wpAnyH_take (i := 10) (v := .agg #[.int .i64 a0_0, .int .i64 a0_1, .slice A l0_2.length c, .int .i64 a0_3]) rfl (by kernel_rfl) (by kernel_rfl) (by kernel_rfl) (fun _ _ _ h => h) (Or.inl ⟨by kernel_rfl, fun W1 hS => by go_simp⟩) ⟨BN.out, YB.out⟩ ?_
    refine SchedBuilds.norm (a' := { tmps := #[.agg #[.int .i64 a0_0, .int .i64 a0_1, .slice A0_2 l0_2.length c0_2, .int .i64 a0_3], .pointer (some ⟨N, 0, none⟩), .bool false, .pointer (some ⟨g, 0, none⟩), undef, undef, undef, undef, .bool true, .bool false, .agg #[.int .i64 a0_0, .int .i64 a0_1, .slice A0_2 l0_2.length c0_2, .int .i64 a0_3], .bool false, .pointer (some ⟨N, 0, none⟩), .int .i64 a0_0, .pointer (some ⟨N, 1, none⟩), .int .i64 a0_1, s16, .pointer (some ⟨N, 2, none⟩), .slice A0_2 l0_2.length c0_2, .slice A l0_2.length c, .pointer (some ⟨N, 3, none⟩), .int .i64 a0_3, .agg #[.int .i64 a0_0, .int .i64 a0_1, .slice A l0_2.length c, .int .i64 a0_3], undef, undef, undef, undef, undef, undef, undef, undef, undef, undef, undef, undef, undef, undef, undef, undef, undef, undef, undef, undef, undef, undef, undef, undef, undef, undef], defers := [] }) (by kernel_rfl) ?_
    refine wpAnyH_all (rs := [12]) (by kernel_rfl) (by simp) ?_
    intro ix hix
    obtain rfl : ix = 12 := by simpa using hix
    clear hix
    have y0 := (blk_cell BG.out 0).trans rfl
    have f0 := blk_frozen BG.out 0
    have y1 := (blk_cell BG.out 1).trans rfl
    have f1 := blk_frozen BG.out 1
    have y2 := (blk_cell BG.out 2).trans rfl
    have f2 := blk_frozen BG.out 2
    have y3 := (blk_cell BG.out 3).trans rfl
    have f3 := blk_frozen BG.out 3
    refine SchedBuilds.skip (w' := ((((W4aaa.setCell ⟨g, 0, none⟩ (.int .i64 a0_0)).setCell ⟨g, 1, none⟩ (.int .i64 a0_1)).setCell ⟨g, 2, none⟩ (.slice A l0_2.length c)).setCell ⟨g, 3, none⟩ (.int .i64 a0_3))) rfl rfl rfl (by go_simp) ?_
    clear y0 y1 y2 y3 f0 f1 f2 f3
    have hgb := (blk_put (blk_put (blk_put (blk_put BG.out 0 (.int .i64 a0_0) rfl) 1 (.int .i64 a0_1) rfl) 2 (.slice A l0_2.length c) rfl) 3 (.int .i64 a0_3) rfl)
    have hnb := ((Below.heap_setCell (((W4aaa.setCell ⟨g, 0, none⟩ (.int .i64 a0_0)).setCell ⟨g, 1, none⟩ (.int .i64 a0_1)).setCell ⟨g, 2, none⟩ (.slice A l0_2.length c)) ⟨g, 3, none⟩ (.int .i64 a0_3) N (Nat.ne_of_lt NG.out)).trans ((Below.heap_setCell ((W4aaa.setCell ⟨g, 0, none⟩ (.int .i64 a0_0)).setCell ⟨g, 1, none⟩ (.int .i64 a0_1)) ⟨g, 2, none⟩ (.slice A l0_2.length c) N (Nat.ne_of_lt NG.out)).trans ((Below.heap_setCell (W4aaa.setCell ⟨g, 0, none⟩ (.int .i64 a0_0)) ⟨g, 1, none⟩ (.int .i64 a0_1) N (Nat.ne_of_lt NG.out)).trans ((Below.heap_setCell W4aaa ⟨g, 0, none⟩ (.int .i64 a0_0) N (Nat.ne_of_lt NG.out)).trans BN.out))))
    have hyb := (Below.setCell (Below.setCell (Below.setCell (Below.setCell YB.out (p := ⟨g, 0, none⟩) (Nat.le_of_lt NG.out) (.int .i64 a0_0)) (p := ⟨g, 1, none⟩) (Nat.le_of_lt NG.out) (.int .i64 a0_1)) (p := ⟨g, 2, none⟩) (Nat.le_of_lt NG.out) (.slice A l0_2.length c)) (p := ⟨g, 3, none⟩) (Nat.le_of_lt NG.out) (.int .i64 a0_3))
    have hrc := (Kd.R_reads' (Kd.R_far (p := ⟨g, 3, none⟩) (Kd.R_far (p := ⟨g, 2, none⟩) (Kd.R_far (p := ⟨g, 1, none⟩) (Kd.R_far (p := ⟨g, 0, none⟩) (Kd.R_types RO.out BG.out (by decide)) (fun _ hk => hk.2) (.int .i64 a0_0)) (fun _ hk => hk.2) (.int .i64 a0_1)) (fun _ hk => hk.2) (.slice A l0_2.length c)) (fun _ hk => hk.2) (.int .i64 a0_3))).2.2
    refine ⟨⟨hnb, hyb⟩, ?_⟩
    refine SchedBuilds.norm (a' := { tmps := #[.agg #[.int .i64 a0_0, .int .i64 a0_1, .slice A0_2 l0_2.length c0_2, .int .i64 a0_3], .pointer (some ⟨N, 0, none⟩), .bool false, .pointer (some ⟨g, 0, none⟩), undef, undef, undef, undef, .bool true, .bool false, .agg #[.int .i64 a0_0, .int .i64 a0_1, .slice A0_2 l0_2.length c0_2, .int .i64 a0_3], .bool false, .pointer (some ⟨N, 0, none⟩), .int .i64 a0_0, .pointer (some ⟨N, 1, none⟩), .int .i64 a0_1, s16, .pointer (some ⟨N, 2, none⟩), .slice A0_2 l0_2.length c0_2, .slice A l0_2.length c, .pointer (some ⟨N, 3, none⟩), .int .i64 a0_3, .agg #[.int .i64 a0_0, .int .i64 a0_1, .slice A l0_2.length c, .int .i64 a0_3], undef, undef, undef, undef, undef, undef, undef, undef, undef, undef, undef, undef, undef, undef, undef, undef, undef, undef, undef, undef, undef, undef, undef, undef, undef, undef], defers := [] }) (by kernel_rfl) ?_
    refine wpAnyH_done (by kernel_rfl) ?_ _
    exact TL.out _ A c g s16 hnb hgb hrc hle hyb
  ·clear hix
   have ltN : N < W4.heap.size := (Array.getElem?_eq_some_iff.1 BN.out).1
   refine SchedBuilds.step (v := .pointer (some ⟨W4.heap.size, 0, none⟩)) (w' := W4.alloc (.cells #[.int .i64 0, .int .i64 0, .slice none 0 0, .int .i64 0] 27 (0, 0))) rfl rfl (by go_simp) ?_
   have y4 := below_alloc (Below.refl W4.heap.size W4) (.cells #[.int .i64 0, .int .i64 0, .slice none 0 0, .int .i64 0] 27 (0, 0))
   have b4 := blk_new W4 (.cells #[.int .i64 0, .int .i64 0, .slice none 0 0, .int .i64 0] 27 (0, 0))
   obtain ⟨g, hg⟩ : ∃ g, g = W4.heap.size := ⟨_, rfl⟩
   have NG := Aside0.mk (show N < g by rw [hg]; exact ltN)
   rw [← hg] at b4 ⊢
   generalize W4.alloc (.cells #[.int .i64 0, .int .i64 0, .slice none 0 0, .int .i64 0] 27 (0, 0)) = W4a at *
   have BG := Aside0.mk b4
   replace BN := Aside0.mk ((y4.block N ltN).trans BN.out)
   replace YB := Aside0.mk (YB.out.trans (y4.mono (Nat.le_of_lt ltN)))
   clear y4 b4 ltN hg
   refine ⟨⟨BN.out, YB.out⟩, ?_⟩
   refine SchedBuilds.norm (a' := { tmps := #[.agg #[.int .i64 a0_0, .int .i64 a0_1, .slice A0_2 l0_2.length c0_2, .int .i64 a0_3], .pointer (some ⟨N, 0, none⟩), .bool false, .pointer (some ⟨g, 0, none⟩), undef, undef, undef, undef, .bool true, .bool false, .agg #[.int .i64 a0_0, .int .i64 a0_1, .slice A0_2 l0_2.length c0_2, .int .i64 a0_3], .bool false, .pointer (some ⟨N, 0, none⟩), .int .i64 a0_0, .pointer (some ⟨N, 1, none⟩), .int .i64 a0_1, undef, .pointer (some ⟨N, 2, none⟩), .slice A0_2 l0_2.length c0_2, undef, .pointer (some ⟨N, 3, none⟩), .int .i64 a0_3, undef, undef, undef, undef, undef, undef, undef, undef, undef, undef, undef, undef, undef, undef, undef, undef, undef, undef, undef, undef, undef, undef, undef, undef, undef, undef, undef], defers := [] }) (by kernel_rfl) ?_
   refine wpAnyH_all (rs := [4]) (by kernel_rfl) (by simp) ?_
   intro ix hix
   obtain rfl : ix = 4 := by simpa using hix
   clear hix
   have ltN : N < W4a.heap.size := (Array.getElem?_eq_some_iff.1 BN.out).1
   refine SchedBuilds.step (v := .slice (some ⟨W4a.heap.size, 0, none⟩) 0 0) (w' := W4a.alloc (.cells #[] 2)) rfl rfl (by go_simp) ?_
   have y4 := below_alloc (Below.refl W4a.heap.size W4a) (.cells #[] 2)
   have RO : Aside0 (Kd.R (Kd.int .i64) 2 (W4a.alloc (.cells #[] 2)) N (fun _ => True) (.slice (some ⟨W4a.heap.size, 0, none⟩) 0 0) []) := by
    have o := World.ownsRow_lit (base := N) (e := 2) (size := 1) W4a #[] 0 (Nat.le_of_lt ltN) (by decide) rfl
    exact ⟨Kd.R_of_own (xs := []) (ok := fun _ => True) (h1 := fun _ => rfl) o (fun _ _ => trivial)⟩
   obtain ⟨s16, hs16⟩ : ∃ s : Value, s = .slice (some ⟨W4a.heap.size, 0, none⟩) 0 0 := ⟨_, rfl⟩
   rw [← hs16] at RO ⊢
   clear hs16
   generalize W4a.alloc (.cells #[] 2) = W4aa at *
   replace BG := Aside0.mk ((y4.block g (Array.getElem?_eq_some_iff.1 BG.out).1).trans BG.out)
   replace BN := Aside0.mk ((y4.block N ltN).trans BN.out)
   replace YB := Aside0.mk (YB.out.trans (y4.mono (Nat.le_of_lt ltN)))
   clear y4 ltN
   refine ⟨⟨BN.out, YB.out⟩, ?_⟩
   refine SchedBuilds.norm (a' := { tmps := #[.agg #[.int .i64 a0_0, .int .i64 a0_1, .slice A0_2 l0_2.length c0_2, .int .i64 a0_3], .pointer (some ⟨N, 0, none⟩), .bool false, .pointer (some ⟨g, 0, none⟩), undef, undef, undef, undef, .bool true, .bool false, .agg #[.int .i64 a0_0, .int .i64 a0_1, .slice A0_2 l0_2.length c0_2, .int .i64 a0_3], .bool false, .pointer (some ⟨N, 0, none⟩), .int .i64 a0_0, .pointer (some ⟨N, 1, none⟩), .int .i64 a0_1, s16, .pointer (some ⟨N, 2, none⟩), .slice A0_2 l0_2.length c0_2, undef, .pointer (some ⟨N, 3, none⟩), .int .i64 a0_3, undef, undef, undef, undef, undef, undef, undef, undef, undef, undef, undef, undef, undef, undef, undef, undef, undef, undef, undef, undef, undef, undef, undef, undef, undef, undef, undef], defers := [] }) (by kernel_rfl) ?_
   refine wpAnyH_all (rs := [7]) (by kernel_rfl) (by simp) ?_
   intro ix hix
   obtain rfl : ix = 7 := by simpa using hix
   clear hix
   have ltN : N < W4aa.heap.size := (Array.getElem?_eq_some_iff.1 BN.out).1
   refine SchedBuilds.opOf rfl (by kernel_rfl) (Kd.R_append_rows_step (Kd.int .i64) (w0 := w) N (by kernel_rfl) (.tmp 16) (.tmp 18) 22 2 (.int .i64 0) 8 rfl Try.underlying22 info2 rfl (by decide) (by omega) s16 [] l0_2 A0_2 l0_2.length c0_2 (fun _ => True) (fun _ => False) rfl rfl RO.out (Kd.C_below HR.out (by rw [← HN.out]; exact YB.out)) (fun _ _ h => h) (fun _ h => h.elim) (fun _ _ => trivial) YB.out (Nat.le_of_lt ltN) (by have := HSM.out (by simp); simp; omega) ?_)
   intro v19 W4aaa ho hyb hgr hat
   rw [List.nil_append] at ho
   replace BG := Aside0.mk (blk_grown BG.out hgr (Kd.R_ne RO.out BG.out (by decide)))
   replace BN := Aside0.mk (blk_grown BN.out hgr (Kd.R_ne RO.out BN.out (by decide)))
   replace YB := Aside0.mk hyb
   replace RO := Aside0.mk ho
   clear ho hyb hgr hat ltN
   refine ⟨⟨BN.out, YB.out⟩, ?_⟩
   obtain ⟨A, c, rfl, hle, hCA⟩ := Kd.R_reads RO.out
   refine wpAnyH_take (i := 10) (v := .agg #[.int .i64 a0_0, .int .i64 a0_1, .slice A l0_2.length c, .int .i64 a0_3]) rfl (by kernel_rfl) (by kernel_rfl) (by kernel_rfl) (fun _ _ _ h => h) (Or.inl ⟨by kernel_rfl, fun W1 hS => by go_simp⟩) ⟨BN.out, YB.out⟩ ?_
   refine SchedBuilds.norm (a' := { tmps := #[.agg #[.int .i64 a0_0, .int .i64 a0_1, .slice A0_2 l0_2.length c0_2, .int .i64 a0_3], .pointer (some ⟨N, 0, none⟩), .bool false, .pointer (some ⟨g, 0, none⟩), undef, undef, undef, undef, .bool true, .bool false, .agg #[.int .i64 a0_0, .int .i64 a0_1, .slice A0_2 l0_2.length c0_2, .int .i64 a0_3], .bool false, .pointer (some ⟨N, 0, none⟩), .int .i64 a0_0, .pointer (some ⟨N, 1, none⟩), .int .i64 a0_1, s16, .pointer (some ⟨N, 2, none⟩), .slice A0_2 l0_2.length c0_2, .slice A l0_2.length c, .pointer (some ⟨N, 3, none⟩), .int .i64 a0_3, .agg #[.int .i64 a0_0, .int .i64 a0_1, .slice A l0_2.length c, .int .i64 a0_3], undef, undef, undef, undef, undef, undef, undef, undef, undef, undef, undef, undef, undef, undef, undef, undef, undef, undef, undef, undef, undef, undef, undef, undef, undef, undef], defers := [] }) (by kernel_rfl) ?_
   refine wpAnyH_all (rs := [12]) (by kernel_rfl) (by simp) ?_
   intro ix hix
   obtain rfl : ix = 12 := by simpa using hix
   clear hix
   have y0 := (blk_cell BG.out 0).trans rfl
   have f0 := blk_frozen BG.out 0
   have y1 := (blk_cell BG.out 1).trans rfl
   have f1 := blk_frozen BG.out 1
   have y2 := (blk_cell BG.out 2).trans rfl
   have f2 := blk_frozen BG.out 2
   have y3 := (blk_cell BG.out 3).trans rfl
   have f3 := blk_frozen BG.out 3
   refine SchedBuilds.skip (w' := ((((W4aaa.setCell ⟨g, 0, none⟩ (.int .i64 a0_0)).setCell ⟨g, 1, none⟩ (.int .i64 a0_1)).setCell ⟨g, 2, none⟩ (.slice A l0_2.length c)).setCell ⟨g, 3, none⟩ (.int .i64 a0_3))) rfl rfl rfl (by go_simp) ?_
   clear y0 y1 y2 y3 f0 f1 f2 f3
   have hgb := (blk_put (blk_put (blk_put (blk_put BG.out 0 (.int .i64 a0_0) rfl) 1 (.int .i64 a0_1) rfl) 2 (.slice A l0_2.length c) rfl) 3 (.int .i64 a0_3) rfl)
   have hnb := ((Below.heap_setCell (((W4aaa.setCell ⟨g, 0, none⟩ (.int .i64 a0_0)).setCell ⟨g, 1, none⟩ (.int .i64 a0_1)).setCell ⟨g, 2, none⟩ (.slice A l0_2.length c)) ⟨g, 3, none⟩ (.int .i64 a0_3) N (Nat.ne_of_lt NG.out)).trans ((Below.heap_setCell ((W4aaa.setCell ⟨g, 0, none⟩ (.int .i64 a0_0)).setCell ⟨g, 1, none⟩ (.int .i64 a0_1)) ⟨g, 2, none⟩ (.slice A l0_2.length c) N (Nat.ne_of_lt NG.out)).trans ((Below.heap_setCell (W4aaa.setCell ⟨g, 0, none⟩ (.int .i64 a0_0)) ⟨g, 1, none⟩ (.int .i64 a0_1) N (Nat.ne_of_lt NG.out)).trans ((Below.heap_setCell W4aaa ⟨g, 0, none⟩ (.int .i64 a0_0) N (Nat.ne_of_lt NG.out)).trans BN.out))))
   have hyb := (Below.setCell (Below.setCell (Below.setCell (Below.setCell YB.out (p := ⟨g, 0, none⟩) (Nat.le_of_lt NG.out) (.int .i64 a0_0)) (p := ⟨g, 1, none⟩) (Nat.le_of_lt NG.out) (.int .i64 a0_1)) (p := ⟨g, 2, none⟩) (Nat.le_of_lt NG.out) (.slice A l0_2.length c)) (p := ⟨g, 3, none⟩) (Nat.le_of_lt NG.out) (.int .i64 a0_3))
   have hrc := (Kd.R_reads' (Kd.R_far (p := ⟨g, 3, none⟩) (Kd.R_far (p := ⟨g, 2, none⟩) (Kd.R_far (p := ⟨g, 1, none⟩) (Kd.R_far (p := ⟨g, 0, none⟩) (Kd.R_types RO.out BG.out (by decide)) (fun _ hk => hk.2) (.int .i64 a0_0)) (fun _ hk => hk.2) (.int .i64 a0_1)) (fun _ hk => hk.2) (.slice A l0_2.length c)) (fun _ hk => hk.2) (.int .i64 a0_3))).2.2
   refine ⟨⟨hnb, hyb⟩, ?_⟩
   refine SchedBuilds.norm (a' := { tmps := #[.agg #[.int .i64 a0_0, .int .i64 a0_1, .slice A0_2 l0_2.length c0_2, .int .i64 a0_3], .pointer (some ⟨N, 0, none⟩), .bool false, .pointer (some ⟨g, 0, none⟩), undef, undef, undef, undef, .bool true, .bool false, .agg #[.int .i64 a0_0, .int .i64 a0_1, .slice A0_2 l0_2.length c0_2, .int .i64 a0_3], .bool false, .pointer (some ⟨N, 0, none⟩), .int .i64 a0_0, .pointer (some ⟨N, 1, none⟩), .int .i64 a0_1, s16, .pointer (some ⟨N, 2, none⟩), .slice A0_2 l0_2.length c0_2, .slice A l0_2.length c, .pointer (some ⟨N, 3, none⟩), .int .i64 a0_3, .agg #[.int .i64 a0_0, .int .i64 a0_1, .slice A l0_2.length c, .int .i64 a0_3], undef, undef, undef, undef, undef, undef, undef, undef, undef, undef, undef, undef, undef, undef, undef, undef, undef, undef, undef, undef, undef, undef, undef, undef, undef, undef], defers := [] }) (by kernel_rfl) ?_
   refine wpAnyH_done (by kernel_rfl) ?_ _
   exact TL.out _ A c g s16 hnb hgb hrc hle hyb
end Go.Proofs.Ytchpeobenlnemaa.S
end

section
namespace Go.Proofs.Ytchpeobenlnemaa.XOpen
set_option linter.unusedVariables false
set_option linter.unusedSimpArgs false
open Go.ChangeShapes Go.WideShapes Go.RowKit Go.Proofs.YtchpeobenlnemaaW.PrintWords
section
variable {H : Type} {enc : TypeId × Value → H} {P : Program} {w : World} {base : Nat} {spare : Nat → Bool} {held : Bool}

/-- Whatever reads as data of type t holds a value of the kind d, and it is good. -/
def Opens {α : Type} (enc : TypeId × Value → H) (P : Program) (w : World) (base : Nat) (spare : Nat → Bool) (held : Bool) (t : TypeId) (d : Kd α) (g : α → Prop) : Prop :=
 ∀ fuel cs x, DataW.trod enc P w base spare held fuel t cs = some x → ∃ a, d.K w a cs ∧ g a

theorem opens_int {t : TypeId} {k : IntKind} (ht : P.underlying t = some (.int k)) : Opens enc P w base spare held t (Kd.int k) (fun a => (Lit.int k a).wf = true) := by
 intro fuel cs x h
 obtain ⟨n, rfl, _, hw⟩ := DataW.trod_int ht h
 exact ⟨n, rfl, hw⟩

theorem choose_list {α : Type} (n : Nat) (p : Nat → α → Prop) (h : ∀ i, i < n → ∃ a, p i a) : ∃ l : List α, l.length = n ∧ ∀ i a, l[i]? = some a → p i a := by
 induction n with
 | zero => exact ⟨[], rfl, fun i a hi => by simp at hi⟩
 | succ n ih =>
  obtain ⟨l, hl, hp⟩ := ih (fun i hi => h i (by omega))
  obtain ⟨a, ha⟩ := h n (by omega)
  refine ⟨l ++ [a], by simp [hl], fun i b hi => ?_⟩
  by_cases hin : i < n
  ·rw [List.getElem?_append_left (by omega)] at hi
   exact hp i b hi
  ·by_cases e : i = n
   ·subst e
    rw [List.getElem?_append_right (by omega), hl] at hi
    simp at hi
    subst hi
    exact ha
   ·rw [List.getElem?_append_right (by omega), hl, List.getElem?_eq_none (by simp; omega)] at hi
    cases hi

theorem opens_slice {α : Type} {t e : TypeId} {d : Kd α} {g : α → Prop} (ht : P.underlying t = some (.slice e)) (hc : P.cellsOf e = d.sz) (he : Opens enc P w base spare held e d g) :
  Opens enc P w base spare held t (Kd.slice e d) (fun l => l.length ≤ maxLen ∧ ∀ a ∈ l, g a) := by
 intro fuel cs x h
 rcases DataW.trod_slice ht h with ⟨rfl, _⟩ | ⟨a, len, cap, elems, rest, n, _, rfl, _, _, hl, hm, hlen, hel, _⟩
 ·exact ⟨[], ⟨none, 0, rfl, Nat.le_refl _, rfl, Nat.zero_le _, fun h0 => absurd h0 (Nat.lt_irrefl 0)⟩, Nat.zero_le _, fun a ha => absurd ha List.not_mem_nil⟩
 ·have hp : ∀ i, i < len → ∃ q : α, (∃ c : List Value, c.length = d.sz ∧ d.K w q c ∧ ∀ j u, c[j]? = some u → w.cell? (a.add (i * d.sz + j)) = some u) ∧ g q := by
   intro i hi
   have h1 := hel i hi
   have hi' : i < elems.length := by omega
   rw [List.getElem?_eq_getElem hi', Option.bind_eq_some_iff] at h1
   obtain ⟨c, hcs, hy⟩ := h1
   obtain ⟨q, hk, hg⟩ := he _ _ _ hy
   obtain ⟨_, hcl, hat⟩ := World.cells?_some hcs
   refine ⟨q, ⟨c, hcl.trans hc, hk, fun j u hu => ?_⟩, hg⟩
   have hj : j < P.cellsOf e := by
    have := (List.getElem?_eq_some_iff.1 hu).1
    omega
   have h2 := hat j hj
   rw [hu, hc] at h2
   have h3 : (a.add (i * d.sz)).add j = a.add (i * d.sz + j) := by
    exact Go.Deep.add_add a (i * d.sz) j
   rw [h3] at h2
   exact h2
  obtain ⟨l, hll, hall⟩ := choose_list len _ hp
  subst hll
  refine ⟨l, ⟨some a, cap, rfl, hl, ?_⟩, Nat.le_trans hl hm, fun q hq => ?_⟩
  ·refine ⟨rfl, ?_, fun _ => ⟨a, rfl, fun j p hj => (hall j p hj).1⟩⟩
   have := Nat.le_trans hl hm
   unfold maxLen at this
   exact this
  ·obtain ⟨i, hi⟩ := List.getElem?_of_mem hq
   exact (hall i q hi).2

/-- A field: its cells are those that stand at its place. -/
theorem field_of {α : Type} {t : TypeId} {fs : Array Field} {d : Kd α} {g : α → Prop} {fuel : Nat} {cs : List Value} {x : DataW H × List MemPlace} (ht : P.underlying t = some (.struct fs)) (h : DataW.trod enc P w base spare held fuel t cs = some x)
  (i : Nat) (f : Field) (hf : fs[i]? = some f) (ho : Opens enc P w base spare held f.type d g) (off sz : Nat) (h0 : f.offset = off) (h1 : P.cellsOf f.type = sz) : ∃ a, d.K w a ((cs.drop off).take sz) ∧ g a := by
 subst h0 h1
 obtain ⟨xs, n, _, _, _, hl, hat⟩ := DataW.trod_struct ht h
 have hi : i < xs.length := by
  rw [hl]
  exact (Array.getElem?_eq_some_iff.1 hf).1
 have h2 := hat i f hf
 rw [List.getElem?_eq_getElem hi] at h2
 exact ho _ _ _ h2

theorem cells_len {t : TypeId} {fs : Array Field} {fuel : Nat} {cs : List Value} {x : DataW H × List MemPlace} (ht : P.underlying t = some (.struct fs)) (h : DataW.trod enc P w base spare held fuel t cs = some x) : cs.length = P.cellsOf t := by
 obtain ⟨xs, n, _, _, hl, _⟩ := DataW.trod_struct ht h
 exact hl

theorem K_pair {α β : Type} {a : Kd α} {b : Kd β} {x : α} {y : β} {cs : List Value} (n : Nat) (h0 : a.K w x (cs.take n)) (h1 : b.K w y (cs.drop n)) : (Kd.pair a b).K w (x, y) cs :=
 ⟨cs.take n, cs.drop n, (List.take_append_drop n cs).symm, h0, h1⟩

theorem drop_drop' (cs : List Value) (m n : Nat) : (cs.drop m).drop n = cs.drop (m + n) := List.drop_drop

theorem K_pair' {α β : Type} {a : Kd α} {b : Kd β} {x : α} {y : β} {cs : List Value} (off n : Nat) (h0 : a.K w x ((cs.drop off).take n)) (h1 : b.K w y (cs.drop (off + n))) : (Kd.pair a b).K w (x, y) (cs.drop off) :=
 K_pair n h0 (by rw [drop_drop']; exact h1)

theorem K_last {α : Type} {a : Kd α} {x : α} {cs : List Value} (off n : Nat) (h0 : a.K w x ((cs.drop off).take n)) (hl : cs.length ≤ off + n) : a.K w x (cs.drop off) := by
 rw [List.take_of_length_le (by rw [List.length_drop]; omega)] at h0
 exact h0

theorem K_all {α : Type} {a : Kd α} {x : α} {cs : List Value} (h0 : a.K w x (cs.drop 0)) : a.K w x cs := h0

theorem okWide_agg {r : Reach} {t : TypeId} {fs : Array Field} {v : Value} (ht : P.underlying t = some (.struct fs)) (h : Value.okWide P w r base t v) : ∃ cs, v = .agg cs := by
 obtain ⟨cs, h, _⟩ := okWide_struct ht h
 exact ⟨cs, h⟩

theorem agg_of {cs : Array Value} {l : List Value} (h : (Value.agg cs).cells.toList = l) : cs = l.toArray := by
 subst h
 simp [Value.cells]

end
end Go.Proofs.Ytchpeobenlnemaa.XOpen
end

section
namespace Go.Proofs.Ytchpeobenlnemaa.schedBuilds
open Go.ChangeShapes Go.WideShapes Go.ChangeAt Go.RowKit Go.Proofs.Ytchpeobenlnemaa.S Go.Proofs.YtchpeobenlnemaaW.PrintWords Go.Proofs.Ytchpeobenlnemaa.XOpen
open Go.ChangeMaps (open_string shut_string)
set_option linter.unusedVariables false
theorem own : ownKnob Try.prog.godebug = none := by kernel_rfl
theorem laidOut : laidOutB Try.prog = true := by kernel_rfl
theorem opens_S24 {H : Type} {enc : TypeId × Value → H} {w : World} {base : Nat} {spare : Nat → Bool} {held : Bool} : Opens enc Try.prog w base spare held 24 k24 (fun a => ((Lit.int .i64 a.f0).wf = true ∧ (Lit.int .i64 a.f1).wf = true ∧ (a.f2.length ≤ maxLen ∧ ∀ y_ ∈ a.f2, (Lit.int .i64 y_).wf = true) ∧ (Lit.int .i64 a.f3).wf = true)) := by
  intro fuel cs x h
  have hl : cs.length = 4 := (cells_len Try.underlying24 h).trans (by kernel_rfl)
  obtain ⟨a0, h0, g0⟩ := field_of Try.underlying24 h 0 _ rfl (opens_int Try.underlying3) 0 1 rfl (by kernel_rfl)
  obtain ⟨a1, h1, g1⟩ := field_of Try.underlying24 h 1 _ rfl (opens_int Try.underlying2) 1 1 rfl (by kernel_rfl)
  obtain ⟨a2, h2, g2⟩ := field_of Try.underlying24 h 2 _ rfl (opens_slice Try.underlying22 (by kernel_rfl) (opens_int Try.underlying2)) 2 1 rfl (by kernel_rfl)
  obtain ⟨a3, h3, g3⟩ := field_of Try.underlying24 h 3 _ rfl (opens_int Try.underlying3) 3 1 rfl (by kernel_rfl)
  refine ⟨⟨a0, a1, a2, a3⟩, ?_, ⟨g0, g1, g2, g3⟩⟩
  exact K_all (K_pair' 0 1 h0 (K_pair' 1 1 h1 (K_pair' 2 1 h2 (K_last 3 1 h3 (by omega)))))
set_option maxRecDepth 100000 in
theorem lifted (os : Os) (started : os.Started) (H : Type) (enc : TypeId × Value → H) :
    ReturnsInHanded {} Try.checked os 3 .any (Rows.schedBuildsSpec.pre6 enc Try.prog Try.f3 Rows.schedBuildsRow.domain false) (Rows.schedBuildsSpec.post enc Try.prog Try.f3 false true false false) := by
  refine returnsInHanded_of_change_sized (C := Try.checked) own started (by kernel_rfl) Try.func3
    (ChangeSpec.witness6 (enc := enc) (C := Try.checked) false ⟨#[], #[.agg #[.int .i64 0, .int .i64 0, .slice none 0 0, .int .i64 0]], []⟩ 8 (by kernel_rfl) (by kernel_rfl) (by kernel_rfl) (by kernel_rfl)) ?_
  intro W base args ds gs before hval0 hW hcnd hsz0 _
  have hval : ∀ (j : Nat) t v, Try.f3.params[j]? = some t → args[j]? = some v → Value.okWide Try.prog W .any base t v := hval0
  have hW' := hW
  obtain ⟨p, q, hA0, hV, rfl, hfz, hnd⟩ := hW
  have hA : DataW.TrodAll enc Try.prog W 0 (fun _ => true) true Try.f3.params.toList args.toList ds p := hA0
  rw [Try.params3] at hA hval
  obtain ⟨v0, vs0, d0, ds0, p0, q0, hargs, rfl, rfl, h0, r0⟩ := trodAll_cons hA
  obtain ⟨rfl, rfl, rfl⟩ := trodAll_nil r0
  obtain rfl : args = #[v0] := by cases args; simp_all
  obtain ⟨rfl, rfl⟩ := trodVars_none hV
  clear hA0 hsz0
  have k0 := h0
  have lt0 : ∀ x ∈ p0, x.block < W.heap.size := by obtain ⟨m, hm⟩ := k0; exact DataW.trod_lt m _ _ _ hm
  obtain ⟨u0, hf0⟩ := h0
  obtain ⟨s0, hk0, hg0⟩ := opens_S24 _ _ _ hf0
  obtain ⟨A0_2, c0_2, he0, hc0_2, hr0_2⟩ := k24_open hk0
  obtain ⟨b0, rfl⟩ := okWide_agg Try.underlying24 (hval 0 24 v0 rfl rfl)
  obtain rfl := agg_of he0
  refine (S.lombardlaw08_SchedBuilds.walk s0.f0 s0.f1 _ _ s0.f2 s0.f3 W hr0_2 hc0_2).mono fun e W' ⟨he, bel⟩ => ?_
  subst he
  exact ⟨_, rfl, _, _, _, [], _, [], hW', trodAll_mk1 (shut_bool Try.underlying4 _), (trodAll_cons_mk (Below.trod laidOut (by kernel_rfl) (of_decide_eq_true (by kernel_rfl)) k0 bel lt0) trodAll_mk0), rfl, bel.frame _, fun h => by cases h⟩
theorem over : Rows.schedBuildsRow.holds Try.pinned (OpenSpec.ofChange Rows.schedBuildsSpec) :=
  OpenClaim.holds_of_wide 3 Try.f3 rfl rfl rfl rfl rfl rfl rfl ⟨rfl, rfl, rfl, rfl, rfl⟩ rfl rfl rfl rfl rfl (by kernel_rfl) Try.func3 (by kernel_rfl)
    (of_decide_eq_true (by kernel_rfl)) (by unfold Func.isWrapper; first | (rw [if_pos (by decide +kernel)]; kernel_rfl) | (rw [if_neg (by decide +kernel)]; exact ⟨rfl, rfl⟩))
    (fun os started H enc _ => lifted os started H enc)
theorem proved : Rows.SchedBuildsSaid := over
#print axioms proved
end Go.Proofs.Ytchpeobenlnemaa.schedBuilds
namespace Go.Proofs.Ytchpeobenlnemaa
/-- The row, under a short name, for the claim. -/
theorem schedBuilds_holds : Rows.SchedBuildsSaid := schedBuilds.proved
end Go.Proofs.Ytchpeobenlnemaa
end
