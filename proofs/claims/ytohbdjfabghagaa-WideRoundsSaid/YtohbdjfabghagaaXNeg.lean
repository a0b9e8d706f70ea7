/-
  Negatives, sums and orders of wide numbers.
  Conditions: none beyond those that each theorem names.
-/
import Derived.Test.YtohbdjfabghagaaWideAlive
import Derived.Test.YtohbdjfabghagaaSxWideNeg
import Derived.Test.YtohbdjfabghagaaSxWideOf
import Derived.Test.YtohbdjfabghagaaSxWideAdd
import Derived.Test.YtohbdjfabghagaaSxWideCompare
namespace Go.Proofs.Ytohbdjfabghagaa.XNeg
set_option linter.unusedVariables false
set_option linter.unusedSimpArgs false
open Go.RowKit Go.Proofs.Ytohbdjfabghagaa.S Go.Proofs.Ytohbdjfabghagaa.XNum Go.Proofs.Ytohbdjfabghagaa.XBits Go.Proofs.Ytohbdjfabghagaa.XWide Go.Proofs.YtohbdjfabghagaaW.PrintWords

theorem of {n : Int} (h : I64 n) : wide_Of.f n = some (n / 18446744073709551616, n % 18446744073709551616) := by
  obtain ⟨h0, h1⟩ := h
  unfold wide_Of.f
  rw [wu]
  congr 2
  omega

/-- a wide number, or that it is too great -/
def toldW (n : Int) : Int × Int × Int := if -170141183460469231731687303715884105728 ≤ n ∧ n ≤ 170141183460469231731687303715884105727 then (n / 18446744073709551616, n % 18446744073709551616, 0) else (0, 0, 3)
theorem neg {hi lo : Int} (h : I64 hi) (l : U64 lo) : wide_Neg.f hi lo = some (toldW (-(hi * 18446744073709551616 + lo))) := by
  obtain ⟨h', l', e, i1, i2, i3⟩ := turned h l
  unfold wide_Neg.f
  rw [e]
  simp only [Option.bind_some]
  obtain ⟨h0, h1⟩ := h
  obtain ⟨l0, l1⟩ := l
  obtain ⟨p0, p1⟩ := i1
  obtain ⟨q0, q1⟩ := i2
  unfold toldW
  by_cases c : hi < 0
  · rw [if_pos c]
    by_cases d : h' < 0
    · rw [if_pos d, if_neg (by omega)]
    · rw [if_neg d, if_pos (by omega)]
      congr 2
      · omega
      · congr 1
        omega
  · rw [if_neg c, if_pos (by omega)]
    congr 2
    · omega
    · congr 1
      omega
theorem add {h1 l1 h2 l2 : Int} (a : I64 h1) (b : U64 l1) (c : I64 h2) (d : U64 l2) : wide_Add.f h1 l1 h2 l2 = some (toldW (h1 * 18446744073709551616 + l1 + (h2 * 18446744073709551616 + l2))) := by
  obtain ⟨a0, a1⟩ := a
  obtain ⟨b0, b1⟩ := b
  obtain ⟨c0, c1⟩ := c
  obtain ⟨d0, d1⟩ := d
  unfold wide_Add.f
  rw [if_pos b0, if_pos d0]
  have ec : XWalk.c64 l1 l2 0 * 18446744073709551616 + XWalk.s64 l1 l2 0 = l1 + l2 := by unfold XWalk.c64 XWalk.s64; omega
  have e0 : 0 ≤ XWalk.c64 l1 l2 0 ∧ XWalk.c64 l1 l2 0 ≤ 1 := by unfold XWalk.c64; omega
  have e1 : 0 ≤ XWalk.s64 l1 l2 0 ∧ XWalk.s64 l1 l2 0 < 18446744073709551616 := by unfold XWalk.s64; omega
  generalize XWalk.c64 l1 l2 0 = cc at *
  generalize XWalk.s64 l1 l2 0 = ss at *
  rw [w64 (n := cc) (by omega) (by omega)]
  have W : wrap64 (wrap64 (h1 + h2) + cc) = wrap64 (h1 + h2 + cc) := by unfold wrap64; omega
  rw [W]
  unfold toldW
  by_cases x : h1 < 0
  · rw [decide_eq_true x]
    by_cases y : h2 < 0
    · rw [decide_eq_true y]
      simp only [beq_self_eq_true, if_true]
      by_cases z : h1 + h2 + cc < -9223372036854775808
      · rw [decide_eq_false (by unfold wrap64; omega), if_neg (c := _ ∧ _) (by omega)]
        simp
      · rw [w64 (n := h1 + h2 + cc) (by omega) (by omega), decide_eq_true (by omega), if_pos (c := _ ∧ _) (by omega)]
        simp
        constructor <;> omega
    · rw [decide_eq_false y]
      simp only [beq_false, Bool.not_true, Bool.false_eq_true, if_false]
      rw [w64 (n := h1 + h2 + cc) (by omega) (by omega), if_pos (c := _ ∧ _) (by omega)]
      simp
      constructor <;> omega
  · rw [decide_eq_false x]
    by_cases y : h2 < 0
    · rw [decide_eq_true y]
      simp only [beq_true, Bool.false_eq_true, if_false]
      rw [w64 (n := h1 + h2 + cc) (by omega) (by omega), if_pos (c := _ ∧ _) (by omega)]
      simp
      constructor <;> omega
    · rw [decide_eq_false y]
      simp only [beq_self_eq_true, if_true]
      by_cases z : h1 + h2 + cc > 9223372036854775807
      · rw [decide_eq_true (by unfold wrap64; omega), if_neg (c := _ ∧ _) (by omega)]
        simp
      · rw [w64 (n := h1 + h2 + cc) (by omega) (by omega), decide_eq_false (by omega), if_pos (c := _ ∧ _) (by omega)]
        simp
        constructor <;> omega

/-- how two numbers stand -/
def ord (a b : Int) : Int := if a < b then -1 else if a > b then 1 else 0
theorem cmpi (a b : Int) : cmp_Compare_int64.f a b = some (ord a b) := by
  unfold cmp_Compare_int64.f cmp_isNaN_int64.f ord
  simp
  split
  · rfl
  · split <;> rfl
theorem cmpu (a b : Int) : cmp_Compare_uint64.f a b = some (ord a b) := by
  unfold cmp_Compare_uint64.f cmp_isNaN_uint64.f ord
  simp
  split
  · rfl
  · split <;> rfl
theorem or2 (x y : Int) {k : Nat} (hk : 3 ≤ k) : cmp_Or_int.f k [x, y] = some (if x = 0 then y else x) := by
  obtain ⟨k, rfl⟩ : ∃ m, k = m + 3 := ⟨k - 3, by omega⟩
  unfold cmp_Or_int.f
  simp only [cmp_Or_int.l0]
  rw [if_pos (by simp), if_pos (by simp), if_pos (by simp)]
  by_cases c : x = 0
  · rw [if_pos (by simp [rd, c]), if_pos c]
    rw [show wrap64 (0 + 1) = 1 by unfold wrap64; omega, if_pos (by simp), if_pos (by simp), if_pos (by simp)]
    by_cases d : y = 0
    · rw [if_pos (by simp [rd, d]), show wrap64 (1 + 1) = 2 by unfold wrap64; omega, if_neg (by simp), d]
    · rw [if_neg (by simp [rd, d])]
      simp [rd]
  · rw [if_neg (by simp [rd, c]), if_neg c]
    simp [rd]
theorem compare {h1 l1 h2 l2 : Int} (b : U64 l1) (d : U64 l2) {k : Nat} (hk : 3 ≤ k) : wide_Compare.f k h1 l1 h2 l2 = some (ord (h1 * 18446744073709551616 + l1) (h2 * 18446744073709551616 + l2)) := by
  obtain ⟨b0, b1⟩ := b
  obtain ⟨d0, d1⟩ := d
  unfold wide_Compare.f
  rw [cmpi, cmpu]
  simp only [Option.bind_some]
  rw [or2 _ _ hk]
  simp only [Option.bind_some]
  congr 1
  unfold ord
  by_cases x : h1 < h2
  · rw [if_pos x, if_neg (by omega), if_pos (by omega)]
  · rw [if_neg x]
    by_cases y : h1 > h2
    · rw [if_pos y, if_neg (by omega), if_neg (by omega), if_pos (by omega)]
    · rw [if_neg y, if_pos rfl]
      have : h1 = h2 := by omega
      subst this
      by_cases z : l1 < l2
      · rw [if_pos z, if_pos (by omega)]
      · rw [if_neg z, if_neg (c := h1 * _ + l1 < _) (by omega)]
        by_cases w : l1 > l2
        · rw [if_pos w, if_pos (by omega)]
        · rw [if_neg w, if_neg (by omega)]
end Go.Proofs.Ytohbdjfabghagaa.XNeg
