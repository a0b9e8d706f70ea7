/- What a function computes, and that its call comes to that. Conditions: as each theorem names. -/
import Derived.Test.YtjgleaakgbnjgaaSx0
set_option linter.unusedSimpArgs false
set_option linter.unusedVariables false
namespace Go.Proofs.Ytjgleaakgbnjgaa.S
open Go.RowKit Go.Proofs.YtjgleaakgbnjgaaW.PrintWords Go.Proofs.YtjgleaakgbnjgaaW.PrintLast Go.Proofs.YtjgleaakgbnjgaaW.PrintMore
attribute [local go_sem] max2_int min2_int max_two min_two max_three min_three max_four min_four
attribute [local go_sem] XWalk.cell2
theorem math_bits_Add64.run (x y c : Int) (W : World) (hx : 0 ≤ x) (hy : 0 ≤ y) (hc : 0 ≤ c) (hc1 : c ≤ 1) :
  (callFunc 98 #[.int .u64 x, .int .u64 y, .int .u64 c]).run Star.prog W = .ok (.value (.tuple #[.int .u64 (XWalk.s64 x y c), .int .u64 (XWalk.c64 x y c)])) W :=
 XWalk.add64_run Star.func98 (by kernel_rfl) (by kernel_rfl) (by kernel_rfl) (by kernel_rfl) x y c hx hy hc hc1 W
end Go.Proofs.Ytjgleaakgbnjgaa.S
