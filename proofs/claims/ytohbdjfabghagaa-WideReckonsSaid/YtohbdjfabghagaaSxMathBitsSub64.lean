/- Printed by a program of this session out of the translation: what each function called here computes, and that its call comes to just that. Conditions: none beyond those that each theorem names. -/
import Derived.Test.YtohbdjfabghagaaSx0
namespace Go.Proofs.Ytohbdjfabghagaa.S
open Go.RowKit Go.Proofs.YtohbdjfabghagaaW.PrintWords Go.Proofs.YtohbdjfabghagaaW.PrintLast Go.Proofs.YtohbdjfabghagaaW.PrintMore
attribute [local go_sem] max2_int min2_int max_two min_two max_three min_three max_four min_four   -- for this text's walks alone
attribute [local go_sem] Go.Proofs.Ytohbdjfabghagaa.XWalk.cell2
set_option linter.unusedVariables false
set_option linter.unusedSimpArgs false

/-! ### math_bits_Sub64: function 65 -/
theorem math_bits_Sub64.run (x y b : Int) (W : World) (hx : 0 ≤ x) (hy : 0 ≤ y) (hy2 : y < 18446744073709551616) (hb : 0 ≤ b) (hb1 : b ≤ 1) (hx2 : x < 18446744073709551616) :
    (callFunc 65 #[.int .u64 x, .int .u64 y, .int .u64 b]).run Try.prog W = .ok (.value (.tuple #[.int .u64 (Go.Proofs.Ytohbdjfabghagaa.XWalk.d64 x y b), .int .u64 (Go.Proofs.Ytohbdjfabghagaa.XWalk.b64 x y b)])) W :=
  Go.Proofs.Ytohbdjfabghagaa.XWalk.sub64_run Try.func65 (by kernel_rfl) (by kernel_rfl) (by kernel_rfl) (by kernel_rfl) x y b hx hx2 hy hy2 hb hb1 W


end Go.Proofs.Ytohbdjfabghagaa.S
