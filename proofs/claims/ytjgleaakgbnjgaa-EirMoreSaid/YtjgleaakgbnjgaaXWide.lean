/-
 What the functions of package wide come to: whole numbers of 128 bits, and their quotients.
 Conditions: none beyond those that each theorem names.
-/
import Derived.Test.YtjgleaakgbnjgaaRnd
import Derived.Test.YtjgleaakgbnjgaaXBits
import Derived.Test.YtjgleaakgbnjgaaSxWideMulDiv
set_option linter.unusedSimpArgs false
set_option linter.unusedVariables false
namespace Go.Proofs.Ytjgleaakgbnjgaa.XWide
open Go.RowKit S XNum XBits Rnd Go.Proofs.YtjgleaakgbnjgaaW.PrintWords
abbrev I64 (n : Int) : Prop := -9223372036854775808 ≤ n ∧ n ≤ 9223372036854775807
abbrev U64 (n : Int) : Prop := 0 ≤ n ∧ n < 18446744073709551616
theorem and_ones {b : Int} (hb : I64 b) : Go.bits .and .i64 (-1) b = b := by
 show IntKind.i64.wrap (((BitVec.ofInt 64 (-1) &&& BitVec.ofInt 64 b).toNat : Nat) : Int) = b
 have e : BitVec.ofInt 64 (-1) = BitVec.allOnes 64 := by decide
 rw [e, BitVec.allOnes_and, BitVec.toNat_ofInt]
 simp only [IntKind.wrap, IntKind.bits, IntKind.signed, if_true]
 have := hb.1
 have := hb.2
 simp
 omega
theorem and_none (b : Int) : Go.bits .and .i64 0 b = 0 := by
 show IntKind.i64.wrap (((BitVec.ofInt 64 0 &&& BitVec.ofInt 64 b).toNat : Nat) : Int) = 0
 have e : BitVec.ofInt 64 0 = 0#64 := by decide
 rw [e, BitVec.zero_and]
 decide
theorem and1 {x : Int} (h0 : 0 ≤ x) (h1 : x < 18446744073709551616) : Go.bits .and .u64 x 1 = x % 2 := bits_mask .u64 64 (by decide) wraps_u64 1 (by decide) x h0 h1
theorem mul_bd {a b C D : Int} (ha : -C ≤ a) (ha' : a ≤ C) (hb : -D ≤ b) (hb' : b ≤ D) : -(C * D) ≤ a * b ∧ a * b ≤ C * D := by
 have e : (a * b).natAbs ≤ C.natAbs * D.natAbs := by
  rw [Int.natAbs_mul]
  exact Nat.mul_le_mul (by omega) (by omega)
 have f : C * D = ((C.natAbs * D.natAbs : Nat) : Int) := by
  rw [Int.natCast_mul, Int.natAbs_of_nonneg (by omega), Int.natAbs_of_nonneg (by omega)]
 rw [f]
 omega
theorem mul_i64 {a b : Int} (ha : I64 a) (hb : I64 b) : -85070591730234615865843651857942052864 ≤ a * b ∧ a * b ≤ 85070591730234615865843651857942052864 := by
 have := mul_bd (C := 9223372036854775808) (D := 9223372036854775808) (a := a) (b := b) (by have := ha.1; omega) (by have := ha.2; omega) (by have := hb.1; omega) (by have := hb.2; omega)
 omega
theorem mul {a b : Int} (ha : I64 a) (hb : I64 b) : wide_Mul.f a b = some (a * b / 18446744073709551616, a * b % 18446744073709551616) := by
 have hm := mul_i64 ha hb
 obtain ⟨a0, a1⟩ := ha
 obtain ⟨b0, b1⟩ := hb
 unfold wide_Mul.f
 rw [wu a, wu b, mul64 (by omega) (by omega) (by omega) (by omega)]
 simp only [Option.bind_some]
 by_cases ca : a < 0
 ·rw [show a / 9223372036854775808 = -1 by omega, and_ones ⟨b0, b1⟩, show a % 18446744073709551616 = a + 18446744073709551616 by omega]
  by_cases cb : b < 0
  ·rw [show b / 9223372036854775808 = -1 by omega, and_ones ⟨a0, a1⟩, show b % 18446744073709551616 = b + 18446744073709551616 by omega]
   have e : (a + 18446744073709551616) * (b + 18446744073709551616) = a * b + a * 18446744073709551616 + b * 18446744073709551616 + 18446744073709551616 * 18446744073709551616 := by grind
   rw [e]
   unfold wrap64
   generalize a * b = m at *
   congr 2 <;> omega
  ·rw [show b / 9223372036854775808 = 0 by omega, and_none, show b % 18446744073709551616 = b by omega]
   have e : (a + 18446744073709551616) * b = a * b + b * 18446744073709551616 := by grind
   rw [e]
   unfold wrap64
   generalize a * b = m at *
   congr 2 <;> omega
 ·rw [show a / 9223372036854775808 = 0 by omega, and_none, show a % 18446744073709551616 = a by omega]
  by_cases cb : b < 0
  ·rw [show b / 9223372036854775808 = -1 by omega, and_ones ⟨a0, a1⟩, show b % 18446744073709551616 = b + 18446744073709551616 by omega]
   have e : a * (b + 18446744073709551616) = a * b + a * 18446744073709551616 := by grind
   rw [e]
   unfold wrap64
   generalize a * b = m at *
   congr 2 <;> omega
  ·rw [show b / 9223372036854775808 = 0 by omega, and_none, show b % 18446744073709551616 = b by omega]
   unfold wrap64
   generalize a * b = m at *
   congr 2 <;> omega
theorem turned {hi lo : Int} (h : I64 hi) (l : U64 lo) : ∃ h' l', wide_turned.f hi lo = some (h', l') ∧ I64 h' ∧ U64 l' ∧
  (h' % 18446744073709551616) * 18446744073709551616 + l' = (-(hi * 18446744073709551616 + lo)) % 340282366920938463463374607431768211456 := by
 obtain ⟨h0, h1⟩ := h
 obtain ⟨l0, l1⟩ := l
 unfold wide_turned.f
 rw [if_pos l0, if_pos l1]
 refine ⟨_, _, rfl, ?_, ?_, ?_⟩
 ·unfold wrap64
  omega
 ·unfold XWalk.d64
  omega
 ·unfold wrap64 XWalk.b64 XWalk.d64
  split <;> omega
def mdiv (A b way : Int) : Int × Int :=
 if way < 0 ∨ way ≥ 2 then (0, 2) else if b = 0 then (0, 4) else if -9223372036854775808 ≤ rnd A b way ∧ rnd A b way ≤ 9223372036854775807 then (rnd A b way, 0) else (0, 3)
def toldQ (Q : Int) (less : Bool) : Int × Int := if less = true then (if Q ≤ 9223372036854775808 then (-Q, 0) else (0, 3)) else (if Q < 9223372036854775808 then (Q, 0) else (0, 3))
theorem j5_told {h l rest by_ : Int} {less : Bool} (h0 : 0 ≤ h) (l0 : 0 ≤ l) (l1 : l < 18446744073709551616) (k : Nat) : wide_Div.j5 (k + 2) h l rest by_ less = some (toldQ (h * 18446744073709551616 + l) less) := by
 simp only [wide_Div.j5]
 unfold toldQ
 by_cases c : h > 0
 ·rw [if_pos c, if_neg (c := h * 18446744073709551616 + l ≤ _) (by omega), if_neg (c := h * 18446744073709551616 + l < _) (by omega)]
  simp
 ·rw [if_neg c, show h * 18446744073709551616 + l = l by omega]
  cases less
  ·simp only [wide_Div.j6, Bool.false_eq_true, if_false]
   split
   ·rw [w64 (by omega) (by omega)]
   ·rfl
  ·simp only [wide_Div.j6, if_true]
   by_cases d : l ≤ 9223372036854775808
   ·rw [decide_eq_true d, if_pos d]
    simp only [if_true]
    congr 2
    rw [wu]
    unfold wrap64
    omega
   ·rw [decide_eq_false d, if_neg d]
    simp
theorem near_told {q0 lo rest y : Int} {less : Bool} (r0 : 0 ≤ rest) (r1 : rest < y) (y1 : y < 18446744073709551616) (l0 : 0 ≤ lo) (l1 : lo < 18446744073709551616) :
  wide_quotient_near.f q0 lo rest y less = some (decide (2 * rest > y ∨ 2 * rest = y ∧ lo % 2 = 1)) := by
 unfold wide_quotient_near.f
 by_cases c : rest / 9223372036854775808 = 1
 ·rw [if_pos c, decide_eq_true (by omega)]
 ·rw [if_neg c, wu_id (n := rest * 2) (by omega) (by omega), and1 l0 l1]
  by_cases d : rest * 2 > y
  ·rw [if_pos d, decide_eq_true (by omega)]
  ·rw [if_neg d]
   by_cases e : rest * 2 = y
   ·rw [if_pos e]
    congr 1
    rw [Bool.eq_iff_iff, beq_iff_eq, decide_eq_true_iff]
    omega
   ·rw [if_neg e, decide_eq_false (by omega)]
theorem told_rnd {A b way X y : Int} (hw : way = 0 ∨ way = 1) (hb : b ≠ 0) (hX : X = if A < 0 then -A else A) (hy : y = if b < 0 then -b else b) :
  toldQ (X / y + if upf way X y (decide (A < 0) != decide (b < 0)) = true then 1 else 0) (decide (A < 0) != decide (b < 0)) = mdiv A b way := by
 have this := rnd_sizes hw hb hX hy
 have hy0 : 0 < y := by subst hy; split <;> omega
 have hX0 : 0 ≤ X := by subst hX; split <;> omega
 have q0 : 0 ≤ X / y := Int.ediv_nonneg hX0 (by omega)
 unfold mdiv
 rw [if_neg (c := way < 0 ∨ way ≥ 2) (by omega), if_neg hb, this]
 generalize upf way X y (decide (A < 0) != decide (b < 0)) = up
 generalize (decide (A < 0) != decide (b < 0)) = less
 have p0 : 0 ≤ X / y + if up = true then (1 : Int) else 0 := by
  split <;> omega
 generalize (X / y + if up = true then (1 : Int) else 0) = Q at *
 unfold toldQ
 cases less
 ·simp only [Bool.false_eq_true, if_false]
  by_cases c : Q < 9223372036854775808
  ·rw [if_pos c, if_pos (by omega)]
  ·rw [if_neg c, if_neg (by omega)]
 ·simp only [if_true]
  by_cases c : Q ≤ 9223372036854775808
  ·rw [if_pos c, if_pos (by omega)]
  ·rw [if_neg c, if_neg (by omega)]
theorem up_one {qh ql : Int} (h0 : 0 ≤ qh) (h1 : qh ≤ 9223372036854775808) (l0 : 0 ≤ ql) (l1 : ql < 18446744073709551616) :
  IntKind.u64.wrap (qh + XWalk.c64 ql 1 0) * 18446744073709551616 + XWalk.s64 ql 1 0 = qh * 18446744073709551616 + ql + 1 ∧ 0 ≤ IntKind.u64.wrap (qh + XWalk.c64 ql 1 0) ∧ 0 ≤ XWalk.s64 ql 1 0 ∧ XWalk.s64 ql 1 0 < 18446744073709551616 := by
 rw [wu]
 unfold XWalk.c64 XWalk.s64
 refine ⟨by omega, by omega, by omega, by omega⟩
theorem div {hi lo b way : Int} (hw0 : way ≠ 0) (h : I64 hi) (l : U64 lo) (hb : I64 b) {k : Nat} (hk : 30 ≤ k) : wide_Div.f k hi lo b way = some (mdiv (hi * 18446744073709551616 + lo) b way) := by
 obtain ⟨k, rfl⟩ : ∃ m, k = m + 30 := ⟨k - 30, by omega⟩
 unfold wide_Div.f
 by_cases c : way < 0 ∨ way ≥ 2
 ·have e : mdiv (hi * 18446744073709551616 + lo) b way = (0, 2) := by unfold mdiv; rw [if_pos c]
  rw [e]
  by_cases c1 : way < 0
  ·rw [if_pos c1]
   simp only [wide_Div.j0, if_true]
  ·rw [if_neg c1, decide_eq_true (by omega)]
   simp only [wide_Div.j0, if_true]
 rw [if_neg (by omega), decide_eq_false (by omega)]
 simp only [wide_Div.j0, Bool.false_eq_true, if_false]
 by_cases cb : b = 0
 ·rw [if_pos cb]
  unfold mdiv
  rw [if_neg c, if_pos cb]
 rw [if_neg cb]
 have hw : way = 0 ∨ way = 1 := by omega
 obtain ⟨h0, h1⟩ := h
 obtain ⟨l0, l1⟩ := l
 obtain ⟨b0, b1⟩ := hb
 have main : ∀ xh xl : Int, U64 xl → I64 xh → (xh % 18446744073709551616) * 18446744073709551616 + xl = (if hi * 18446744073709551616 + lo < 0 then -(hi * 18446744073709551616 + lo) else hi * 18446744073709551616 + lo) →
   wide_Div.j1 (k + 29) b way (IntKind.u64.wrap b) hi lo xh xl = some (mdiv (hi * 18446744073709551616 + lo) b way) := by
  intro xh xl ⟨xl0, xl1⟩ ⟨xh0, xh1⟩ hX
  have j2 : ∀ y : Int, y = (if b < 0 then -b else b) → wide_Div.j2 (k + 28) b way y hi lo xh xl = some (mdiv (hi * 18446744073709551616 + lo) b way) := by
   intro y hy
   have hy0 : 0 < y := by subst hy; split <;> omega
   have hy1 : y ≤ 9223372036854775808 := by subst hy; split <;> omega
   simp only [wide_Div.j2]
   rw [if_neg (by omega), wu xh, td_nn (by omega), tm_nn (by omega)]
   have x0 : 0 ≤ xh % 18446744073709551616 := by omega
   have x1 : xh % 18446744073709551616 ≤ 9223372036854775808 := by
    split at hX <;> omega
   generalize xh % 18446744073709551616 = X1 at *
   have a := Int.mul_ediv_add_emod X1 y
   have a0 := Int.emod_nonneg X1 (show y ≠ 0 by omega)
   have a1 := Int.emod_lt_of_pos X1 hy0
   have q0 : 0 ≤ X1 / y := Int.ediv_nonneg x0 (by omega)
   have q1 : X1 / y ≤ X1 := Int.ediv_le_self _ x0
   rw [div64 a0 a1 xl0 xl1 (by omega) (by omega)]
   simp only [Option.bind_some]
   generalize X1 / y = qh at *
   generalize X1 % y = rest at *
   have m := Int.mul_ediv_add_emod (rest * 18446744073709551616 + xl) y
   have m0 := Int.emod_nonneg (rest * 18446744073709551616 + xl) (show y ≠ 0 by omega)
   have m1 := Int.emod_lt_of_pos (rest * 18446744073709551616 + xl) hy0
   have p0 : 0 ≤ (rest * 18446744073709551616 + xl) / y := Int.ediv_nonneg (by omega) (by omega)
   have p1 : (rest * 18446744073709551616 + xl) / y < 18446744073709551616 := by
    rw [Int.ediv_lt_iff_lt_mul hy0, Int.mul_comm]
    omega
   generalize (rest * 18446744073709551616 + xl) / y = ql at *
   generalize (rest * 18446744073709551616 + xl) % y = rr at *
   have whole := Knuth.quot_uniq (A := X1 * 18446744073709551616 + xl) (b := y) (q := qh * 18446744073709551616 + ql) (r := rr) hy0 (by
    rw [Int.mul_add, ← Int.mul_assoc]
    generalize y * qh = u at *
    generalize y * ql = v at *
    omega) m0 m1
   have T := told_rnd (A := hi * 18446744073709551616 + lo) (b := b) (way := way) (X := X1 * 18446744073709551616 + xl) (y := y) hw cb hX hy
   unfold upf at T
   rw [whole.1, whole.2] at T
   have s : (!(decide (hi < 0) == decide (b < 0))) = (decide (hi * 18446744073709551616 + lo < 0) != decide (b < 0)) := by
    rw [show decide (hi < 0) = decide (hi * 18446744073709551616 + lo < 0) from decide_eq_decide.2 (by omega)]
    rfl
   rw [s, ← T]
   generalize (decide (hi * 18446744073709551616 + lo < 0) != decide (b < 0)) = less
   obtain ⟨u1, u2, u3, u4⟩ := up_one (qh := qh) (ql := ql) q0 (by omega) p0 p1
   rcases hw with rfl | rfl
   ·exact absurd rfl hw0
   ·simp only [show ((1 : Int) = 0) = False by simp, if_false, if_true]
    rw [near_told m0 m1 (by omega) p0 p1]
    simp only [Option.bind_some]
    rw [wu_id (n := qh) q0 (by omega)]
    have par : (qh * 18446744073709551616 + ql) % 2 = ql % 2 := by omega
    rw [par]
    by_cases d : (decide (2 * rr > y ∨ 2 * rr = y ∧ ql % 2 = 1)) = true
    ·rw [if_pos d, if_pos d, if_pos p0]
     rw [j5_told u2 u3 u4, u1]
     first | done | rfl
    ·rw [if_neg d, if_neg d]
     rw [j5_told q0 p0 p1]
     simp
  simp only [wide_Div.j1]
  by_cases d : b < 0
  ·rw [if_pos d]
   refine j2 _ ?_
   rw [wu, wu, if_pos d]
   omega
  ·rw [if_neg d]
   refine j2 _ ?_
   rw [wu, if_neg d]
   omega
 by_cases d : hi < 0
 ·rw [if_pos d]
  obtain ⟨h', l', e, i1, i2, i3⟩ := turned ⟨h0, h1⟩ ⟨l0, l1⟩
  rw [e]
  simp only [Option.bind_some]
  refine main h' l' i2 i1 ?_
  rw [i3, if_pos (by omega)]
  omega
 ·rw [if_neg d]
  refine main hi lo ⟨l0, l1⟩ ⟨h0, h1⟩ ?_
  rw [if_neg (by omega)]
  omega
theorem mulDiv {a b c : Int} (ha : I64 a) (hb : I64 b) (hc : I64 c) {k : Nat} (hk : 30 ≤ k) : wide_MulDiv.f k a b c 1 = some (mdiv (a * b) c 1) := by
 unfold wide_MulDiv.f
 rw [mul ha hb]
 have hm := mul_i64 ha hb
 simp only [Option.bind_some]
 rw [div (by decide) ⟨by omega, by omega⟩ ⟨by omega, by omega⟩ hc hk]
 simp only [Option.bind_some]
 rw [show a * b / 18446744073709551616 * 18446744073709551616 + a * b % 18446744073709551616 = a * b by omega]
end Go.Proofs.Ytjgleaakgbnjgaa.XWide
