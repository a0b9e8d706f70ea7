/- What a function computes, and that its call comes to that. Conditions: as each theorem names. -/
import Derived.Test.YtjgleaakgbnjgaaSx0
set_option linter.unusedSimpArgs false
set_option linter.unusedVariables false
namespace Go.Proofs.Ytjgleaakgbnjgaa.S
open Go.RowKit Go.Proofs.YtjgleaakgbnjgaaW.PrintWords Go.Proofs.YtjgleaakgbnjgaaW.PrintLast Go.Proofs.YtjgleaakgbnjgaaW.PrintMore
attribute [local go_sem] max2_int min2_int max_two min_two max_three min_three max_four min_four
attribute [local go_sem] XWalk.cell2
def money_sum_int64.f (a0 : Int) (a1 : Int) : Option (Int × Bool) := if (!((decide (a0 < 0)) == (decide (a1 < 0)))) = true then (some (wrap64 (a0 + a1), true)) else (some (wrap64 (a0 + a1), ((decide ((wrap64 (a0 + a1)) < 0)) == (decide (a0 < 0)))))
set_option maxHeartbeats 8000000 in
set_option maxRecDepth 100000 in
theorem money_sum_int64.calls (a0 : Int) (a1 : Int) (r1 : Int) (r2 : Bool) (w : World) (h : money_sum_int64.f a0 a1 = some (r1, r2)) :
  Calls Star.prog 77 #[.int .i64 a0, .int .i64 a1] w fun e w' => e = .returned (.tuple #[.int .i64 r1, .bool r2]) ∧ Drawn0 w w' := by
 have H : (if (!((decide (a0 < 0)) == (decide (a1 < 0)))) = true then (some (wrap64 (a0 + a1), true)) else (some (wrap64 (a0 + a1), ((decide ((wrap64 (a0 + a1)) < 0)) == (decide (a0 < 0)))))) = some (r1, r2) := h
 clear h
 by_cases c3 : (!((decide (a0 < 0)) == (decide (a1 < 0)))) = true
 ·rw [if_pos c3] at H
  have c3b0 : (!((decide (a0 < 0)) == (decide (a1 < 0)))) = true := c3
  clear c3
  simp only [Option.some.injEq, Prod.mk.injEq] at H
  obtain ⟨rfl, rfl⟩ := H
  go_enter Star.func77, Try.ntmps77
  go_wp2
  go_ret2
  exact ⟨by first | rfl | (simp; done) | (simp [*]; done), by repeat (first | exact Drawn0.refl _ | apply Drawn0.step)⟩
 ·rw [if_neg c3] at H
  have c3b0 : (!((decide (a0 < 0)) == (decide (a1 < 0)))) = false := by simpa using c3
  clear c3
  simp only [Option.some.injEq, Prod.mk.injEq] at H
  obtain ⟨rfl, rfl⟩ := H
  go_enter Star.func77, Try.ntmps77
  go_wp2
  go_ret2
  exact ⟨by first | rfl | (simp; done) | (simp [*]; done), by repeat (first | exact Drawn0.refl _ | apply Drawn0.step)⟩
end Go.Proofs.Ytjgleaakgbnjgaa.S
