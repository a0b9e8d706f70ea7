/- Printed by a program of this session out of the translation: what each function called here computes, and that its call comes to just that. Conditions: none beyond those that each theorem names. -/
import Derived.Test.YtchpeobenlnemaaSx0
import Derived.Test.YtchpeobenlnemaaSxLombardref02Times
import Derived.Test.YtchpeobenlnemaaSxLombardref02Div
namespace Go.Proofs.Ytchpeobenlnemaa.S
open Go.RowKit Go.Proofs.YtchpeobenlnemaaW.PrintWords Go.Proofs.YtchpeobenlnemaaW.PrintLast Go.Proofs.YtchpeobenlnemaaW.PrintMore
attribute [local go_sem] max2_int min2_int max_two min_two max_three min_three max_four min_four   -- for this text's walks alone
attribute [local go_sem] Go.Proofs.Ytchpeobenlnemaa.XWalk.cell2
set_option linter.unusedVariables false
set_option linter.unusedSimpArgs false

/-! ### lombardref02_MulDiv: function 55 -/
-- IMPORT BigMath
def lombardref02_MulDiv.f (a0 a1 a2 a3 : Int) : Option (Int × Int) :=
  if -9223372036854775808 ≤ a0 ∧ a0 ≤ 9223372036854775807 ∧ -9223372036854775808 ≤ a1 ∧ a1 ≤ 9223372036854775807 ∧ -9223372036854775808 ≤ a2 ∧ a2 ≤ 9223372036854775807 then some (lombardref02_div.v (decide (a0 < 0) != decide (a1 < 0)) (a0.natAbs * a1.natAbs) a2 a3) else none
theorem lombardref02_MulDiv.lim {a b : Int} (a0 : -9223372036854775808 ≤ a) (a1 : a ≤ 9223372036854775807) (b0 : -9223372036854775808 ≤ b) (b1 : b ≤ 9223372036854775807) : a.natAbs * b.natAbs < 2 ^ 256 := by
  have h := Nat.mul_le_mul (show a.natAbs ≤ 9223372036854775808 by omega) (show b.natAbs ≤ 9223372036854775808 by omega)
  refine Nat.lt_of_le_of_lt h ?_
  decide
set_option maxRecDepth 100000 in
set_option maxHeartbeats 4000000 in
theorem lombardref02_MulDiv.calls (a0 a1 a2 a3 r1 r2 : Int) (w : World) (h : lombardref02_MulDiv.f a0 a1 a2 a3 = some (r1, r2)) : Calls Try.prog 55 #[.int .i64 a0, .int .i64 a1, .int .i64 a2, .int .i64 a3] w fun e w' => e = .returned (.tuple #[.int .i64 r1, .int .i64 r2]) ∧ Below w.heap.size w w' := by
  unfold lombardref02_MulDiv.f at h
  split at h
  · rename_i c
    have DV := fun W => lombardref02_div.calls (decide (a0 < 0) != decide (a1 < 0)) (a0.natAbs * a1.natAbs) (lombardref02_MulDiv.lim c.1 c.2.1 c.2.2.1 c.2.2.2.1) a2 a3 c.2.2.2.2.1 c.2.2.2.2.2 W
    have TM := fun W => lombardref02_times.calls a0 a1 c.1 c.2.1 c.2.2.1 c.2.2.2.1 W
    rw [Option.some.inj h] at DV
    generalize (decide (a0 < 0) != decide (a1 < 0)) = L at *
    generalize a0.natAbs * a1.natAbs = N at *
    clear h c
    have HB := Aside0.mk (Below.refl w.heap.size w)
    go_enter Try.func55, Try.ntmps55
    go_wp2_with (first | (go_at_call 60; (with_reducible refine (TM _).mono ?_); rintro e w1 ⟨rfl, h1⟩) | (go_at_call 59; (with_reducible refine (DV _).mono ?_); rintro e w2 ⟨rfl, h2⟩))
    go_ret2
    exact ⟨rfl, below_then h1 h1.size h2⟩
  · exact absurd h (by simp)


end Go.Proofs.Ytchpeobenlnemaa.S
