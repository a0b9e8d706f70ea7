/- What a function computes, and that its call comes to that. Conditions: as each theorem names. -/
import Derived.Test.YtjgleaakgbnjgaaSx0
set_option linter.unusedSimpArgs false
set_option linter.unusedVariables false
namespace Go.Proofs.Ytjgleaakgbnjgaa.S
open Go.RowKit Go.Proofs.YtjgleaakgbnjgaaW.PrintWords Go.Proofs.YtjgleaakgbnjgaaW.PrintLast Go.Proofs.YtjgleaakgbnjgaaW.PrintMore
attribute [local go_sem] max2_int min2_int max_two min_two max_three min_three max_four min_four
attribute [local go_sem] XWalk.cell2
theorem math_bits_Sub64.run (x y b : Int) (W : World) (hx : 0 ≤ x) (hy : 0 ≤ y) (hy2 : y < 18446744073709551616) (hb : 0 ≤ b) (hb1 : b ≤ 1) (hx2 : x < 18446744073709551616) :
  (callFunc 101 #[.int .u64 x, .int .u64 y, .int .u64 b]).run Star.prog W = .ok (.value (.tuple #[.int .u64 (XWalk.d64 x y b), .int .u64 (XWalk.b64 x y b)])) W :=
 XWalk.sub64_run Star.func101 (by kernel_rfl) (by kernel_rfl) (by kernel_rfl) (by kernel_rfl) x y b hx hx2 hy hy2 hb hb1 W
end Go.Proofs.Ytjgleaakgbnjgaa.S
