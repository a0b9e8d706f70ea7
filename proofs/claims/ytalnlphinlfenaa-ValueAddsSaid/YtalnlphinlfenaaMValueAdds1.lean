/- Texts of the statement ValueAddsSaid, laid together. Conditions: none beyond those that each theorem names. -/
import Derived.Test.YtalnlphinlfenaaSx0
import Derived.Test.YtalnlphinlfenaaSxMoneyTold
import Derived.Test.YtalnlphinlfenaaXWide
import Derived.Test.YtalnlphinlfenaaSxMoneyAdd
import Derived.Test.YtalnlphinlfenaaSxLombardref01Sub
section
namespace Go.Proofs.Ytalnlphinlfenaa.S
open Go.RowKit Go.Proofs.YtalnlphinlfenaaW.PrintWords Go.Proofs.YtalnlphinlfenaaW.PrintLast Go.Proofs.YtalnlphinlfenaaW.PrintMore
attribute [local go_sem] max2_int min2_int max_two min_two max_three min_three max_four min_four   -- for this text's walks alone
attribute [local go_sem] Go.Proofs.Ytalnlphinlfenaa.XWalk.cell2
set_option linter.unusedVariables false
set_option linter.unusedSimpArgs false

/-! ### money_May: function 54 -/
def money_May.f (a0 : Int) : Option (Bool) := if a0 ≥ (-10000000000000) then (some (decide (a0 ≤ 10000000000000))) else (some false)
set_option maxHeartbeats 8000000 in
set_option maxRecDepth 100000 in
theorem money_May.calls (a0 : Int) (r : Bool) (w : World) (h : money_May.f a0 = some r) :
    Calls Try.prog 54 #[.int .i64 a0] w fun e w' => e = .returned (.bool r) ∧ Drawn0 w w' := by
  have H : (if a0 ≥ (-10000000000000) then (some (decide (a0 ≤ 10000000000000))) else (some false)) = some r := h
  clear h
  by_cases c2 : a0 ≥ (-10000000000000)
  · rw [if_pos c2] at H
    have c2b0 : decide ((-10000000000000) ≤ a0) = true := decide_eq_true c2
    clear c2
    obtain rfl := Option.some.inj H
    go_enter Try.func54, Try.ntmps54
    go_wp2
    go_ret
    exact ⟨by first | rfl | (simp; done) | (simp [*]; done), by repeat (first | exact Drawn0.refl _ | apply Drawn0.step)⟩
  · rw [if_neg c2] at H
    have c2b0 : decide ((-10000000000000) ≤ a0) = false := decide_eq_false c2
    clear c2
    obtain rfl := Option.some.inj H
    go_enter Try.func54, Try.ntmps54
    go_wp2
    go_ret
    exact ⟨by first | rfl | (simp; done) | (simp [*]; done), by repeat (first | exact Drawn0.refl _ | apply Drawn0.step)⟩

end Go.Proofs.Ytalnlphinlfenaa.S
end

section
namespace Go.Proofs.Ytalnlphinlfenaa.S
open Go.RowKit Go.Proofs.YtalnlphinlfenaaW.PrintWords Go.Proofs.YtalnlphinlfenaaW.PrintLast Go.Proofs.YtalnlphinlfenaaW.PrintMore
attribute [local go_sem] max2_int min2_int max_two min_two max_three min_three max_four min_four   -- for this text's walks alone
attribute [local go_sem] Go.Proofs.Ytalnlphinlfenaa.XWalk.cell2
set_option linter.unusedVariables false
set_option linter.unusedSimpArgs false

/-! ### money_Sub: function 43 -/
def money_Sub.f (a0 : Int) (a1 : Int) : Option (Int × Int) := if ((decide (a0 < 0)) == (decide (a1 < 0))) = true then ((money_told.f (wrap64 (a0 - a1)) true).bind fun bt131 => (some (bt131.1, bt131.2))) else ((money_told.f (wrap64 (a0 - a1)) ((decide ((wrap64 (a0 - a1)) < 0)) == (decide (a0 < 0)))).bind fun bt133 => (some (bt133.1, bt133.2)))
end Go.Proofs.Ytalnlphinlfenaa.S
end

section
namespace Go.Proofs.Ytalnlphinlfenaa.S
open Go.RowKit Go.Proofs.YtalnlphinlfenaaW.PrintWords Go.Proofs.YtalnlphinlfenaaW.PrintLast Go.Proofs.YtalnlphinlfenaaW.PrintMore
attribute [local go_sem] max2_int min2_int max_two min_two max_three min_three max_four min_four   -- for this text's walks alone
attribute [local go_sem] Go.Proofs.Ytalnlphinlfenaa.XWalk.cell2
set_option linter.unusedVariables false
set_option linter.unusedSimpArgs false

/-! ### lombardref01_Add: function 52 -/
def lombardref01_Add.f (a0 : Int) (a1 : Int) : Option (Int × Int) := if a1 > 0 then (if a0 > (wrap64 (9223372036854775807 - a1)) then (some (0, 3)) else (if a1 < 0 then (if a0 < (wrap64 ((-9223372036854775808) - a1)) then (some (0, 3)) else (some (wrap64 (a0 + a1), 0))) else (some (wrap64 (a0 + a1), 0)))) else (if a1 < 0 then (if a0 < (wrap64 ((-9223372036854775808) - a1)) then (some (0, 3)) else (some (wrap64 (a0 + a1), 0))) else (some (wrap64 (a0 + a1), 0)))
end Go.Proofs.Ytalnlphinlfenaa.S
end

section
namespace Go.Proofs.Ytalnlphinlfenaa.XMoney
set_option linter.unusedVariables false
set_option linter.unusedSimpArgs false
open Go.RowKit Go.Proofs.Ytalnlphinlfenaa.S Go.Proofs.Ytalnlphinlfenaa.XNum Go.Proofs.Ytalnlphinlfenaa.XBits Go.Proofs.Ytalnlphinlfenaa.XWide Go.Proofs.YtalnlphinlfenaaW.PrintWords

/-- A number, or that it is too great. -/
def told (n : Int) : Int × Int := if -9223372036854775808 ≤ n ∧ n ≤ 9223372036854775807 then (n, 0) else (0, 3)
theorem told_in {n : Int} (h0 : -9223372036854775808 ≤ n) (h1 : n ≤ 9223372036854775807) : told n = (n, 0) := by unfold told; rw [if_pos ⟨h0, h1⟩]
theorem told_out {n : Int} (h : n < -9223372036854775808 ∨ 9223372036854775807 < n) : told n = (0, 3) := by unfold told; rw [if_neg (by omega)]
theorem told_f (n : Int) (b : Bool) : money_told.f n b = some (if b = true then (n, 0) else (0, 3)) := by
  unfold money_told.f
  cases b <;> simp

theorem add {a b : Int} (ha : I64 a) (hb : I64 b) : money_Add.f a b = some (told (a + b)) := by
  obtain ⟨a0, a1⟩ := ha
  obtain ⟨b0, b1⟩ := hb
  unfold money_Add.f money_sum_int64.f
  by_cases ca : a < 0
  · by_cases cb : b < 0
    · rw [decide_eq_true ca, decide_eq_true cb]
      simp only [beq_self_eq_true, Bool.not_true, Bool.false_eq_true, if_false, Option.bind_some, told_f]
      by_cases c : a + b < -9223372036854775808
      · rw [told_out (.inl c), decide_eq_false (by unfold wrap64; omega)]
        simp
      · rw [told_in (by omega) (by omega), w64 (by omega) (by omega), decide_eq_true (by omega)]
        simp
    · rw [decide_eq_true ca, decide_eq_false cb, told_in (by omega) (by omega), w64 (by omega) (by omega)]
      simp [told_f]
  · by_cases cb : b < 0
    · rw [decide_eq_false ca, decide_eq_true cb, told_in (by omega) (by omega), w64 (by omega) (by omega)]
      simp [told_f]
    · rw [decide_eq_false ca, decide_eq_false cb]
      simp only [beq_self_eq_true, Bool.not_true, Bool.false_eq_true, if_false, Option.bind_some, told_f]
      by_cases c : a + b > 9223372036854775807
      · rw [told_out (.inr c), decide_eq_true (by unfold wrap64; omega)]
        simp
      · rw [told_in (by omega) (by omega), w64 (by omega) (by omega), decide_eq_false (by omega)]
        simp

theorem may (n : Int) : money_May.f n = some (decide (-10000000000000 ≤ n ∧ n ≤ 10000000000000)) := by
  unfold money_May.f
  split
  · congr 1
    rw [decide_eq_decide]
    omega
  · rw [decide_eq_false (by omega)]
end Go.Proofs.Ytalnlphinlfenaa.XMoney
end
