/-
  Small laws of numbers: words of 64 bits, Go's division, rounds.
  Conditions: none.
-/
import Derived.Test.YtohbdjfabghagaaWWords
namespace Go.Proofs.Ytohbdjfabghagaa.XNum
set_option linter.unusedVariables false
set_option linter.unusedSimpArgs false
open Go.RowKit Go.Proofs.YtohbdjfabghagaaW.PrintWords

theorem w64 {n : Int} (h0 : -9223372036854775808 ≤ n) (h1 : n ≤ 9223372036854775807) : wrap64 n = n := by
  unfold wrap64
  omega
theorem wf64 {a : Int} : (Lit.int .i64 a).wf = true ↔ -9223372036854775808 ≤ a ∧ a ≤ 9223372036854775807 := by
  simp only [Lit.wf, IntKind.min, IntKind.max, IntKind.signed, IntKind.bits, Bool.and_eq_true, decide_eq_true_eq, if_true]
  omega
theorem wfu64 {a : Int} : (Lit.int .u64 a).wf = true ↔ 0 ≤ a ∧ a ≤ 18446744073709551615 := by
  simp only [Lit.wf, IntKind.min, IntKind.max, IntKind.signed, IntKind.bits, Bool.and_eq_true, decide_eq_true_eq]
  simp
theorem wfu8 {a : Int} : (Lit.int .u8 a).wf = true ↔ 0 ≤ a ∧ a ≤ 255 := by
  simp only [Lit.wf, IntKind.min, IntKind.max, IntKind.signed, IntKind.bits, Bool.and_eq_true, decide_eq_true_eq]
  simp
theorem wfu16 {a : Int} : (Lit.int .u16 a).wf = true ↔ 0 ≤ a ∧ a ≤ 65535 := by
  simp only [Lit.wf, IntKind.min, IntKind.max, IntKind.signed, IntKind.bits, Bool.and_eq_true, decide_eq_true_eq]
  simp
theorem wfu32 {a : Int} : (Lit.int .u32 a).wf = true ↔ 0 ≤ a ∧ a ≤ 4294967295 := by
  simp only [Lit.wf, IntKind.min, IntKind.max, IntKind.signed, IntKind.bits, Bool.and_eq_true, decide_eq_true_eq]
  simp
theorem tm_nn {a k : Int} (h : 0 ≤ a) : Int.tmod a k = a % k := Int.tmod_eq_emod_of_nonneg h
theorem td_nn {a k : Int} (h : 0 ≤ a) : Int.tdiv a k = a / k := Int.tdiv_eq_ediv_of_nonneg h
theorem tm_neg {a k : Int} (h : a < 0) : Int.tmod a k = -((-a) % k) := by
  have h1 := Int.neg_tmod (-a) k
  rw [Int.neg_neg, tm_nn (a := -a) (by omega)] at h1
  exact h1
theorem td_neg {a k : Int} (h : a < 0) : Int.tdiv a k = -((-a) / k) := by
  have h1 := Int.neg_tdiv (-a) k
  rw [Int.neg_neg, td_nn (a := -a) (by omega)] at h1
  exact h1
theorem tm_zero {a k : Int} : Int.tmod a k = 0 ↔ a % k = 0 := by
  rw [← Int.dvd_iff_tmod_eq_zero, ← Int.dvd_iff_emod_eq_zero]
theorem tm_eq {a k : Int} : Int.tmod a k = if 0 ≤ a then a % k else -((-a) % k) := by
  split
  · exact tm_nn (by assumption)
  · exact tm_neg (by omega)
theorem td_eq {a k : Int} : Int.tdiv a k = if 0 ≤ a then a / k else -((-a) / k) := by
  split
  · exact td_nn (by assumption)
  · exact td_neg (by omega)

/-- From so many rounds on a call answers. -/
theorem ev_at {α : Type} {g : Nat → Option α} {r : α} (hg : ∀ k, LeO (g k) (g (k + 1))) {k : Nat} (h : g k = some r) : ∀ k', k ≤ k' → g k' = some r := fun _ hk => at_rounds hg hk h
theorem bind_some' {α β : Type} {o : Option α} {a : α} {f : α → Option β} (h : o = some a) : o.bind f = f a := by rw [h]; rfl
end Go.Proofs.Ytohbdjfabghagaa.XNum
