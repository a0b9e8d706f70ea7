/- Printed by a program of this session out of the translation: what each function called here computes, and that its call comes to just that. Conditions: none beyond those that each theorem names. -/
import Derived.Test.YtohbdjfabghagaaSx0
import Derived.Test.YtohbdjfabghagaaSxLombardref02Big
import Derived.Test.YtohbdjfabghagaaSxLombardref02Div
namespace Go.Proofs.Ytohbdjfabghagaa.S
open Go.RowKit Go.Proofs.YtohbdjfabghagaaW.PrintWords Go.Proofs.YtohbdjfabghagaaW.PrintLast Go.Proofs.YtohbdjfabghagaaW.PrintMore
attribute [local go_sem] max2_int min2_int max_two min_two max_three min_three max_four min_four   -- for this text's walks alone
attribute [local go_sem] Go.Proofs.Ytohbdjfabghagaa.XWalk.cell2
set_option linter.unusedVariables false
set_option linter.unusedSimpArgs false

/-! ### lombardref02_Div: function 17 -/
-- IMPORT BigMath
def lombardref02_Div.f (a0 a1 a2 a3 : Int) : Option (Int × Int) :=
  if -9223372036854775808 ≤ a0 ∧ a0 ≤ 9223372036854775807 ∧ 0 ≤ a1 ∧ a1 < 18446744073709551616 ∧ -9223372036854775808 ≤ a2 ∧ a2 ≤ 9223372036854775807 then some (lombardref02_div.v (B.less a0) (B.abs a0 a1) a2 a3) else none
theorem lombardref02_Div.lim {a b : Int} (a0 : -9223372036854775808 ≤ a) (a1 : a ≤ 9223372036854775807) (b0 : 0 ≤ b) (b1 : b < 18446744073709551616) : B.abs a b < 2 ^ 256 :=
  Nat.lt_of_lt_of_le (B.abs_lt a0 a1 b0 b1) (Nat.pow_le_pow_right (by omega) (by omega))
set_option maxHeartbeats 4000000 in
theorem lombardref02_Div.calls (a0 a1 a2 a3 r1 r2 : Int) (w : World) (h : lombardref02_Div.f a0 a1 a2 a3 = some (r1, r2)) : Calls Try.prog 17 #[.agg #[.int .i64 a0, .int .u64 a1], .int .i64 a2, .int .i64 a3] w fun e w' => e = .returned (.tuple #[.int .i64 r1, .int .i64 r2]) ∧ Below w.heap.size w w' := by
  unfold lombardref02_Div.f at h
  split at h
  · rename_i c
    have DV := fun W => lombardref02_div.calls (B.less a0) (B.abs a0 a1) (lombardref02_Div.lim c.1 c.2.1 c.2.2.1 c.2.2.2.1) a2 a3 c.2.2.2.2.1 c.2.2.2.2.2 W
    have BG := fun W => lombardref02_big.calls a0 a1 c.1 c.2.1 c.2.2.1 c.2.2.2.1 W
    rw [Option.some.inj h] at DV
    generalize B.less a0 = L at *
    generalize B.abs a0 a1 = N at *
    clear h c
    have h0 := below_alloc (Below.refl w.heap.size w) (.cells #[.int .i64 a0, .int .u64 a1] 32)
    have k0 := blk_new w (.cells #[.int .i64 a0, .int .u64 a1] 32)
    have fT0 := blk_cell k0 0
    have fT1 := blk_cell k0 1
    go_enter Try.func17, Try.ntmps17
    go_wp2_with (first | (go_at_call 52; (with_reducible refine (BG _).mono ?_); rintro e w1 ⟨rfl, h1⟩) | (go_at_call 51; (with_reducible refine (DV _).mono ?_); rintro e w2 ⟨rfl, h2⟩))
    go_ret2
    exact ⟨rfl, below_then (below_then h0 h0.size h1) (below_then h0 h0.size h1).size h2⟩
  · exact absurd h (by simp)


end Go.Proofs.Ytohbdjfabghagaa.S
