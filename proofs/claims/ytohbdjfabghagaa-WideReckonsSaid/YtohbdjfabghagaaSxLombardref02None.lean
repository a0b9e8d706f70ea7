/- Printed by a program of this session out of the translation: what each function called here computes, and that its call comes to just that. Conditions: none beyond those that each theorem names. -/
import Derived.Test.YtohbdjfabghagaaSx0
import Derived.Test.YtohbdjfabghagaaSxLombardref02Size
import Derived.Test.YtohbdjfabghagaaSxLombardref02Big
import Derived.Test.YtohbdjfabghagaaSxLombardref02Small
import Derived.Test.YtohbdjfabghagaaSxLombardref02Div
namespace Go.Proofs.Ytohbdjfabghagaa.S
open Go.RowKit Go.Proofs.YtohbdjfabghagaaW.PrintWords Go.Proofs.YtohbdjfabghagaaW.PrintLast Go.Proofs.YtohbdjfabghagaaW.PrintMore
attribute [local go_sem] max2_int min2_int max_two min_two max_three min_three max_four min_four   -- for this text's walks alone
attribute [local go_sem] Go.Proofs.Ytohbdjfabghagaa.XWalk.cell2
set_option linter.unusedVariables false
set_option linter.unusedSimpArgs false

/-! ### lombardref02_none: function 64 -/
-- IMPORT BigMath
set_option maxRecDepth 100000 in
set_option maxHeartbeats 4000000 in
theorem lombardref02_none.calls (less : Bool) (N : Nat) (hN : N < 2 ^ 260) (w : World) : Calls Try.prog 64 #[.agg (B.big less N)] w fun e w' => e = .returned (.bool (decide (N = 0))) ∧ Below w.heap.size w w' := by
  have SZ := fun W => lombardref02_size.calls N 0 hN (@Nat.pow_pos 2 260 (by decide)) W
  have o : (lombardref02_size.ord N 0 == 0) = decide (N = 0) := by
    clear hN SZ
    unfold lombardref02_size.ord
    rw [if_neg (by omega)]
    by_cases c : 0 < N
    · rw [if_pos c, decide_eq_false (by omega)]
      rfl
    · rw [if_neg c, decide_eq_true (by omega)]
      rfl
  obtain ⟨r, hr⟩ : ∃ r, r = lombardref02_size.ord N 0 := ⟨_, rfl⟩
  rw [← hr] at SZ o
  rw [← o]
  clear o hr hN
  go_enter Try.func64, Try.ntmps64
  have y := B.HasB.new w less N
  go_upto_region 1 with (fail)
  have W1 := below_alloc (Below.refl w.heap.size w) (.cells (B.big less N) 75)
  generalize w.alloc (.cells (B.big less N) 75) = w1 at *
  go_wp2_with (first | ((with_reducible refine B.gateOp (.load 73 (.tmp 3)) rfl ?_); refine B.wpLoadB rfl (.tmp 3) rfl w.heap.size N less rfl y ?_) | ((with_reducible refine B.gateOp (.build 73 #[]) rfl ?_); refine B.wpBuild0 (by first | rfl | (go_simp; done) | kernel_rfl) rfl ?_) | (go_at_call 68; (with_reducible refine (SZ _).mono ?_); rintro e w2 ⟨rfl, h2⟩))
  go_ret
  exact ⟨rfl, below_then W1 W1.size h2⟩


end Go.Proofs.Ytohbdjfabghagaa.S
