/-
  The examples of layer 2, as the statements ask them; negatives and orders of wide numbers.
  Conditions: none beyond those that each theorem names.
-/
import Derived.Test.YtohbdjfabghagaaXWide
import Derived.Test.YtohbdjfabghagaaSxLombardlaw02Alive
namespace Go.Proofs.Ytohbdjfabghagaa.WideAlive
set_option linter.unusedVariables false
set_option linter.unusedSimpArgs false
open Go.RowKit Go.Proofs.Ytohbdjfabghagaa.S Go.Proofs.Ytohbdjfabghagaa.XNum Go.Proofs.Ytohbdjfabghagaa.XBits Go.Proofs.Ytohbdjfabghagaa.XWide Go.Proofs.Ytohbdjfabghagaa.Rnd Go.Proofs.YtohbdjfabghagaaW.PrintWords

theorem alive {k : Nat} (hk : 30 ≤ k) : lombardlaw02_alive.f k = some true := by
  unfold lombardlaw02_alive.f
  rw [mulDiv (by constructor <;> omega) (by constructor <;> omega) (by constructor <;> omega) hk, mulDiv (by constructor <;> omega) (by constructor <;> omega) (by constructor <;> omega) hk, mulDiv (by constructor <;> omega) (by constructor <;> omega) (by constructor <;> omega) hk,
    mulDiv (by constructor <;> omega) (by constructor <;> omega) (by constructor <;> omega) hk, mulDiv (by constructor <;> omega) (by constructor <;> omega) (by constructor <;> omega) hk]
  decide

/-- the quotient is a word, or it is too great -/
theorem mdiv_ok {A b way : Int} (hw : way = 0 ∨ way = 1) (hb : b ≠ 0) : mdiv A b way = if -9223372036854775808 ≤ rnd A b way ∧ rnd A b way ≤ 9223372036854775807 then (rnd A b way, 0) else (0, 3) := by
  unfold mdiv
  rw [if_neg (by omega), if_neg hb]
theorem mdiv_two {A b way : Int} (hw : way = 0 ∨ way = 1) (hb : b ≠ 0) : (mdiv A b way = (rnd A b way, 0) ∧ I64 (rnd A b way)) ∨ mdiv A b way = (0, 3) := by
  rw [mdiv_ok hw hb]
  split
  · exact .inl ⟨rfl, by assumption⟩
  · exact .inr rfl

theorem rnd_f {A b : Int} (hb : 0 < b) : rnd A b 0 = A / b := by
  unfold rnd
  rw [if_pos rfl, if_neg (c := b < 0) (by omega)]
theorem rnd_n {A b : Int} (hb : 0 < b) : rnd A b 1 = near A b := by
  unfold rnd
  rw [if_neg (c := (1 : Int) = 0) (by omega), if_neg (c := b < 0) (by omega)]
theorem rnd_f' {A b : Int} (hb : b < 0) : rnd A b 0 = (-A) / (-b) := by
  unfold rnd
  rw [if_pos rfl, if_pos hb]
theorem rnd_n' {A b : Int} (hb : b < 0) : rnd A b 1 = near (-A) (-b) := by
  unfold rnd
  rw [if_neg (c := (1 : Int) = 0) (by omega), if_pos hb]
/-- the nearer one of the negative is the negative; downwards it is that, or one less -/
theorem rnd_neg1 (A : Int) {b : Int} (hb : b ≠ 0) : rnd (-A) b 1 = -rnd A b 1 := by
  rcases Int.lt_or_gt_of_ne hb with c | c
  · rw [rnd_n' c, rnd_n' c, near_neg (A := -A) (b := -b) (by omega)]
  · rw [rnd_n c, rnd_n c, near_neg c]
theorem rnd_neg0 (A : Int) {b : Int} (hb : b ≠ 0) : rnd (-A) b 0 = -rnd A b 0 ∨ rnd (-A) b 0 = -rnd A b 0 - 1 := by
  rcases Int.lt_or_gt_of_ne hb with c | c
  · rw [rnd_f' c, rnd_f' c]
    have := floor_neg (X := -A) (b := -b) (by omega)
    rw [this]
    split <;> omega
  · rw [rnd_f c, rnd_f c]
    have := floor_neg (X := A) (b := b) (by omega)
    rw [this]
    split <;> omega
/-- what is multiplied and divided by the same -/
theorem rnd_same (a : Int) {c way : Int} (hw : way = 0 ∨ way = 1) (hc : c ≠ 0) : rnd (a * c) c way = a := by
  unfold rnd
  by_cases d : c < 0
  · rw [if_pos d, if_pos d]
    have e : -(a * c) = (-c) * a := by rw [Int.neg_mul, Int.mul_comm]
    rw [e]
    split
    · exact Int.mul_ediv_cancel_left _ (by omega)
    · exact near_exact (by omega)
  · rw [if_neg d, if_neg d, Int.mul_comm]
    split
    · exact Int.mul_ediv_cancel_left _ (by omega)
    · exact near_exact (by omega)
theorem rnd_mono {A B b way : Int} (hb : 0 < b) (hw : way = 0 ∨ way = 1) (h : A ≤ B) : rnd A b way ≤ rnd B b way := by
  rcases hw with rfl | rfl
  · rw [rnd_f hb, rnd_f hb]
    exact Int.ediv_le_ediv hb h
  · rw [rnd_n hb, rnd_n hb]
    exact near_mono hb h
end Go.Proofs.Ytohbdjfabghagaa.WideAlive
