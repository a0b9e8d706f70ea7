/- Printed by a program of this session out of the translation: what each function called here computes, and that its call comes to just that. Conditions: none beyond those that each theorem names. -/
import Derived.Test.YtioicmialbimfaaSx0
import Derived.Test.YtioicmialbimfaaSxLombardref04Leap
namespace Go.Proofs.Ytioicmialbimfaa.S
open Go.RowKit Go.Proofs.YtioicmialbimfaaW.PrintWords Go.Proofs.YtioicmialbimfaaW.PrintLast Go.Proofs.YtioicmialbimfaaW.PrintMore
attribute [local go_sem] max2_int min2_int max_two min_two max_three min_three max_four min_four   -- for this text's walks alone
attribute [local go_sem] Go.Proofs.Ytioicmialbimfaa.XWalk.cell2
set_option linter.unusedVariables false
set_option linter.unusedSimpArgs false

/-! ### lombardref04_Last: function 54 -/
def lombardref04_Last.f (a0 : Int) (a1 : Int) : Option (Int) :=
  if a0 < 1 then some 0 else if a0 > 9999 then some 0 else if a1 < 1 then some 0 else if a1 > 12 then some 0 else
  if a1 = 2 then (lombardref04_Leap.f a0).bind fun t => if t = true then some 29 else some 28 else
  some (if a1 = 4 ∨ a1 = 6 ∨ a1 = 9 ∨ a1 = 11 then 30 else 31)
set_option maxHeartbeats 8000000 in
set_option maxRecDepth 100000 in
theorem lombardref04_Last.calls (a0 : Int) (a1 : Int) (r : Int) (w : World) (h : lombardref04_Last.f a0 a1 = some r) :
    Calls Try.prog 54 #[.int .i64 a0, .int .i64 a1] w fun e w' => e = .returned (.int .i64 r) ∧ Drawn0 w w' := by
  unfold lombardref04_Last.f at h
  by_cases c1 : a0 < 1
  · rw [if_pos c1] at h
    obtain rfl := Option.some.inj h
    have b1 : decide (a0 < 1) = true := decide_eq_true c1
    clear c1 h
    go_enter Try.func54, Try.ntmps54
    go_wp2
    go_ret
    exact ⟨rfl, Drawn0.refl _⟩
  rw [if_neg c1] at h
  have b1 : decide (a0 < 1) = false := decide_eq_false c1
  by_cases c2 : a0 > 9999
  · rw [if_pos c2] at h
    obtain rfl := Option.some.inj h
    have b2 : decide (9999 < a0) = true := decide_eq_true c2
    clear c1 c2 h
    go_enter Try.func54, Try.ntmps54
    go_wp2
    go_ret
    exact ⟨rfl, Drawn0.refl _⟩
  rw [if_neg c2] at h
  have b2 : decide (9999 < a0) = false := decide_eq_false c2
  by_cases c3 : a1 < 1
  · rw [if_pos c3] at h
    obtain rfl := Option.some.inj h
    have b3 : decide (a1 < 1) = true := decide_eq_true c3
    clear c1 c2 c3 h
    go_enter Try.func54, Try.ntmps54
    go_wp2
    go_ret
    exact ⟨rfl, Drawn0.refl _⟩
  rw [if_neg c3] at h
  have b3 : decide (a1 < 1) = false := decide_eq_false c3
  by_cases c4 : a1 > 12
  · rw [if_pos c4] at h
    obtain rfl := Option.some.inj h
    have b4 : decide (12 < a1) = true := decide_eq_true c4
    clear c1 c2 c3 c4 h
    go_enter Try.func54, Try.ntmps54
    go_wp2
    go_ret
    exact ⟨rfl, Drawn0.refl _⟩
  rw [if_neg c4] at h
  have b4 : decide (12 < a1) = false := decide_eq_false c4
  by_cases c5 : a1 = 2
  · rw [if_pos c5] at h
    subst c5
    obtain ⟨t, ht, h⟩ := Option.bind_eq_some_iff.mp h
    have A1 := Aside0.mk ht
    clear ht c1 c2 c3 c4 b3 b4
    cases t with
    | true =>
      rw [if_pos rfl] at h
      obtain rfl := Option.some.inj h
      clear h
      go_enter Try.func54, Try.ntmps54
      go_wp2_with (go_at_call 53; (with_reducible refine (lombardref04_Leap.calls a0 true _ A1.out).mono ?_); rintro e w4 ⟨rfl, ⟨nd, rfl⟩⟩)
      go_ret
      exact ⟨rfl, by repeat (first | exact Drawn0.refl _ | apply Drawn0.step)⟩
    | false =>
      rw [if_neg (by decide)] at h
      obtain rfl := Option.some.inj h
      clear h
      have i1 : ∀ W, (Instr.index 107 (.agg #[.int .i64 31, .int .i64 28, .int .i64 31, .int .i64 30, .int .i64 31, .int .i64 30, .int .i64 31, .int .i64 31, .int .i64 30, .int .i64 31, .int .i64 30, .int .i64 31]) (.int .i64 1)).run Try.prog W = .ok (.int .i64 28) W := fun _ => by kernel_rfl
      go_enter Try.func54, Try.ntmps54
      go_wp2_with (go_at_call 53; (with_reducible refine (lombardref04_Leap.calls a0 false _ A1.out).mono ?_); rintro e w4 ⟨rfl, ⟨nd, rfl⟩⟩)
      go_ret
      exact ⟨rfl, by repeat (first | exact Drawn0.refl _ | apply Drawn0.step)⟩
  · rw [if_neg c5] at h
    have hm : a1 = 1 ∨ a1 = 3 ∨ a1 = 4 ∨ a1 = 5 ∨ a1 = 6 ∨ a1 = 7 ∨ a1 = 8 ∨ a1 = 9 ∨ a1 = 10 ∨ a1 = 11 ∨ a1 = 12 := by omega
    obtain rfl := Option.some.inj h
    clear c1 c2 c3 c4 c5 b3 b4 h
    have i0 : ∀ W, (Instr.index 107 (.agg #[.int .i64 31, .int .i64 28, .int .i64 31, .int .i64 30, .int .i64 31, .int .i64 30, .int .i64 31, .int .i64 31, .int .i64 30, .int .i64 31, .int .i64 30, .int .i64 31]) (.int .i64 0)).run Try.prog W = .ok (.int .i64 31) W := fun _ => by kernel_rfl
    have i2 : ∀ W, (Instr.index 107 (.agg #[.int .i64 31, .int .i64 28, .int .i64 31, .int .i64 30, .int .i64 31, .int .i64 30, .int .i64 31, .int .i64 31, .int .i64 30, .int .i64 31, .int .i64 30, .int .i64 31]) (.int .i64 2)).run Try.prog W = .ok (.int .i64 31) W := fun _ => by kernel_rfl
    have i3 : ∀ W, (Instr.index 107 (.agg #[.int .i64 31, .int .i64 28, .int .i64 31, .int .i64 30, .int .i64 31, .int .i64 30, .int .i64 31, .int .i64 31, .int .i64 30, .int .i64 31, .int .i64 30, .int .i64 31]) (.int .i64 3)).run Try.prog W = .ok (.int .i64 30) W := fun _ => by kernel_rfl
    have i4 : ∀ W, (Instr.index 107 (.agg #[.int .i64 31, .int .i64 28, .int .i64 31, .int .i64 30, .int .i64 31, .int .i64 30, .int .i64 31, .int .i64 31, .int .i64 30, .int .i64 31, .int .i64 30, .int .i64 31]) (.int .i64 4)).run Try.prog W = .ok (.int .i64 31) W := fun _ => by kernel_rfl
    have i5 : ∀ W, (Instr.index 107 (.agg #[.int .i64 31, .int .i64 28, .int .i64 31, .int .i64 30, .int .i64 31, .int .i64 30, .int .i64 31, .int .i64 31, .int .i64 30, .int .i64 31, .int .i64 30, .int .i64 31]) (.int .i64 5)).run Try.prog W = .ok (.int .i64 30) W := fun _ => by kernel_rfl
    have i6 : ∀ W, (Instr.index 107 (.agg #[.int .i64 31, .int .i64 28, .int .i64 31, .int .i64 30, .int .i64 31, .int .i64 30, .int .i64 31, .int .i64 31, .int .i64 30, .int .i64 31, .int .i64 30, .int .i64 31]) (.int .i64 6)).run Try.prog W = .ok (.int .i64 31) W := fun _ => by kernel_rfl
    have i7 : ∀ W, (Instr.index 107 (.agg #[.int .i64 31, .int .i64 28, .int .i64 31, .int .i64 30, .int .i64 31, .int .i64 30, .int .i64 31, .int .i64 31, .int .i64 30, .int .i64 31, .int .i64 30, .int .i64 31]) (.int .i64 7)).run Try.prog W = .ok (.int .i64 31) W := fun _ => by kernel_rfl
    have i8 : ∀ W, (Instr.index 107 (.agg #[.int .i64 31, .int .i64 28, .int .i64 31, .int .i64 30, .int .i64 31, .int .i64 30, .int .i64 31, .int .i64 31, .int .i64 30, .int .i64 31, .int .i64 30, .int .i64 31]) (.int .i64 8)).run Try.prog W = .ok (.int .i64 30) W := fun _ => by kernel_rfl
    have i9 : ∀ W, (Instr.index 107 (.agg #[.int .i64 31, .int .i64 28, .int .i64 31, .int .i64 30, .int .i64 31, .int .i64 30, .int .i64 31, .int .i64 31, .int .i64 30, .int .i64 31, .int .i64 30, .int .i64 31]) (.int .i64 9)).run Try.prog W = .ok (.int .i64 31) W := fun _ => by kernel_rfl
    have i10 : ∀ W, (Instr.index 107 (.agg #[.int .i64 31, .int .i64 28, .int .i64 31, .int .i64 30, .int .i64 31, .int .i64 30, .int .i64 31, .int .i64 31, .int .i64 30, .int .i64 31, .int .i64 30, .int .i64 31]) (.int .i64 10)).run Try.prog W = .ok (.int .i64 30) W := fun _ => by kernel_rfl
    have i11 : ∀ W, (Instr.index 107 (.agg #[.int .i64 31, .int .i64 28, .int .i64 31, .int .i64 30, .int .i64 31, .int .i64 30, .int .i64 31, .int .i64 31, .int .i64 30, .int .i64 31, .int .i64 30, .int .i64 31]) (.int .i64 11)).run Try.prog W = .ok (.int .i64 31) W := fun _ => by kernel_rfl
    rcases hm with rfl | rfl | rfl | rfl | rfl | rfl | rfl | rfl | rfl | rfl | rfl
    all_goals
      go_enter Try.func54, Try.ntmps54
      go_wp2
      go_ret
      exact ⟨rfl, by repeat (first | exact Drawn0.refl _ | apply Drawn0.step)⟩


end Go.Proofs.Ytioicmialbimfaa.S
