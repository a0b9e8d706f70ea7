/- The statement PeriodMonthsSaid: for every input the law returns true, and each argument reads afterwards as it read before. Conditions: none. -/
import Derived.Test.YtdfaedikjfbbjaaCal
import Derived.Test.YtdfaedikjfbbjaaXNum
import Derived.Test.YtdfaedikjfbbjaaSxDayTo
import Derived.Test.YtdfaedikjfbbjaaSxDayFrom
import Derived.Test.YtdfaedikjfbbjaaSxDayWeekday
import Derived.Test.YtdfaedikjfbbjaaSxLombardref04To
import Derived.Test.YtdfaedikjfbbjaaSxLombardref04From
import Derived.Test.YtdfaedikjfbbjaaSxLombardref04Weekday
import Derived.Test.YtdfaedikjfbbjaaSxPeriodMonths
import Derived.Test.YtdfaedikjfbbjaaSxPeriodDates
import Derived.Test.YtdfaedikjfbbjaaSxPeriodWorks
import Derived.Test.YtdfaedikjfbbjaaSxLombardref06Months
import Derived.Test.YtdfaedikjfbbjaaSxLombardref06Dates
import Derived.Test.YtdfaedikjfbbjaaSxLombardref06Works
import Derived.Test.YtdfaedikjfbbjaaSxLombardref06Ints
import Derived.Test.YtdfaedikjfbbjaaSxPeriodRoll
import Derived.Test.YtdfaedikjfbbjaaSxLombardref06Roll
import Derived.Test.YtdfaedikjfbbjaaSxLombardlaw06Alive
import Derived.Test.YtdfaedikjfbbjaaSxLombardlaw06PeriodMonths
import Derived.Test.YtdfaedikjfbbjaaWWords
import Derived.ChangeArms
import Derived.DataReads
import Derived.WideShapes
import Derived.Deep.Slices
import Derived.Test.YtdfaedikjfbbjaaRows
import Derived.WalkKit
import Derived.ProofKit
import Derived.OpenShut
import Derived.ShutString
import Derived.ChangeOld
import Derived.Below
import Derived.SizedLaws
import Derived.Carry
section
namespace Go.Proofs.Ytdfaedikjfbbjaa.DayPure
set_option linter.unusedVariables false
set_option linter.unusedSimpArgs false
open Go.RowKit Go.Proofs.Ytdfaedikjfbbjaa.S Go.Proofs.Ytdfaedikjfbbjaa.XNum Go.Proofs.Ytdfaedikjfbbjaa.Cal Go.Proofs.YtdfaedikjfbbjaaW.PrintWords Go.Proofs.YtdfaedikjfbbjaaW.PrintLast

theorem leap (y : Int) : day_Leap.f y = some (decide (lp y = 1)) := by
  have z4 : Int.tmod y 4 = 0 ↔ y % 4 = 0 := tm_zero
  have z100 : Int.tmod y 100 = 0 ↔ y % 100 = 0 := tm_zero
  have z400 : (Int.tmod y 400 == 0) = decide (y % 400 = 0) := by
    rw [Bool.eq_iff_iff]
    simp only [beq_iff_eq, decide_eq_true_eq]
    exact tm_zero
  unfold day_Leap.f lp
  rw [z400]
  by_cases h1 : y % 4 = 0
  · rw [if_pos (z4.2 h1)]
    by_cases h2 : y % 100 = 0
    · rw [if_pos (z100.2 h2)]
      by_cases h3 : y % 400 = 0 <;> simp [h1, h2, h3]
    · rw [if_neg (mt z100.1 h2)]
      simp [h1, h2]
  · rw [if_neg (mt z4.1 h1)]
    simp [h1]

/-- How many days a month has; 0 of none. -/
def last (y m : Int) : Int := if 1 ≤ y ∧ y ≤ 9999 ∧ 1 ≤ m ∧ m ≤ 12 then dim y m else 0

theorem last_k (k : Nat) (y m : Int) : day_Last.f (k + 2) y m = some (last y m) := by
  have hl := lp_01 y
  have j1 : ∀ b, day_Last.j1 (k + 1) y m b = if b = true then some 30 else if m = 2 then some (28 + lp y) else some 31 := by
    intro b
    simp only [day_Last.j1, leap, Option.bind_some]
    split
    · rfl
    · split
      · by_cases h : lp y = 1
        · simp [h]
        · have : lp y = 0 := by omega
          simp [this]
      · rfl
  have j0t : day_Last.j0 (k + 2) y m true = some 0 := by simp only [day_Last.j0, if_true]
  have j0f : day_Last.j0 (k + 2) y m false = some (dim y m) := by
    simp only [day_Last.j0, j1, dim]
    simp only [Bool.false_eq_true, if_false, beq_iff_eq]
    repeat' split
    all_goals (first | rfl | omega | (simp_all; done) | (exfalso; simp_all; done) | simp_all)
  unfold day_Last.f last
  by_cases h1 : y < 1
  · rw [if_pos h1, j0t, if_neg (by omega)]
  · rw [if_neg h1]
    by_cases h2 : y > 9999
    · rw [if_pos h2, j0t, if_neg (by omega)]
    · rw [if_neg h2]
      by_cases h3 : m < 1
      · rw [if_pos h3, j0t, if_neg (by omega)]
      · rw [if_neg h3]
        by_cases h4 : m > 12
        · rw [decide_eq_true h4, j0t, if_neg (by omega)]
        · rw [decide_eq_false h4, j0f, if_pos (by omega)]

theorem last_ev (y m : Int) (k : Nat) (hk : 2 ≤ k) : day_Last.f k y m = some (last y m) := by
  obtain ⟨n, rfl⟩ : ∃ n, k = n + 2 := ⟨k - 2, by omega⟩
  exact last_k n y m

theorem number_ok (y m d : Int) (h1 : 1 ≤ y) (h2 : y ≤ 10000) (h3 : 1 ≤ m) (h4 : m ≤ 13) (h5 : -5000000 ≤ d) (h6 : d ≤ 5000000) : day_number.f y m d = some (num y m d) := by
  have l := lp_eq y
  unfold day_number.f num yd mo
  rw [w64 (n := m - 3) (by omega) (by omega)]
  by_cases c : m - 3 < 0
  · rw [if_pos c, if_pos (by omega)]
    rw [w64 (n := y - 1) (by omega) (by omega), td_nn (by omega), td_nn (by omega), td_nn (by omega), w64 (n := m - 3 + 12) (by omega) (by omega), w64 (n := (m - 3 + 12) * 153) (by omega) (by omega),
      w64 (n := (m - 3 + 12) * 153 + 2) (by omega) (by omega), td_nn (by omega)]
    rw [w64 (n := (y - 1) * 365) (by omega) (by omega), w64 (n := (y - 1) / 4) (by omega) (by omega), w64 (n := (y - 1) / 100) (by omega) (by omega), w64 (n := (y - 1) / 400) (by omega) (by omega),
      w64 (n := ((m - 3 + 12) * 153 + 2) / 5) (by omega) (by omega)]
    rw [w64 (n := (y - 1) * 365 + (y - 1) / 4) (by omega) (by omega), w64 (n := (y - 1) * 365 + (y - 1) / 4 - (y - 1) / 100) (by omega) (by omega), w64 (n := (y - 1) * 365 + (y - 1) / 4 - (y - 1) / 100 + (y - 1) / 400) (by omega) (by omega)]
    rw [w64 (n := (y - 1) * 365 + (y - 1) / 4 - (y - 1) / 100 + (y - 1) / 400 + ((m - 3 + 12) * 153 + 2) / 5) (by omega) (by omega)]
    rw [w64 (n := (y - 1) * 365 + (y - 1) / 4 - (y - 1) / 100 + (y - 1) / 400 + ((m - 3 + 12) * 153 + 2) / 5 + d) (by omega) (by omega), w64 (by omega) (by omega)]
    congr 1
    omega
  · rw [if_neg c, if_neg (by omega)]
    rw [td_nn (by omega), td_nn (by omega), td_nn (by omega), w64 (n := (m - 3) * 153) (by omega) (by omega),
      w64 (n := (m - 3) * 153 + 2) (by omega) (by omega), td_nn (by omega)]
    rw [w64 (n := y * 365) (by omega) (by omega), w64 (n := y / 4) (by omega) (by omega), w64 (n := y / 100) (by omega) (by omega), w64 (n := y / 400) (by omega) (by omega),
      w64 (n := ((m - 3) * 153 + 2) / 5) (by omega) (by omega)]
    rw [w64 (n := y * 365 + y / 4) (by omega) (by omega), w64 (n := y * 365 + y / 4 - y / 100) (by omega) (by omega), w64 (n := y * 365 + y / 4 - y / 100 + y / 400) (by omega) (by omega)]
    rw [w64 (n := y * 365 + y / 4 - y / 100 + y / 400 + ((m - 3) * 153 + 2) / 5) (by omega) (by omega)]
    rw [w64 (n := y * 365 + y / 4 - y / 100 + y / 400 + ((m - 3) * 153 + 2) / 5 + d) (by omega) (by omega), w64 (by omega) (by omega)]
    congr 1
    omega

theorem ok_last {y m d : Int} : ok y m d ↔ 1 ≤ d ∧ d ≤ last y m := by
  have := dim_bd y m
  unfold ok last
  split <;> omega

theorem from_ok {y m d : Int} (h : ok y m d) (k : Nat) (hk : 2 ≤ k) : day_From.f k y m d = some (num y m d, 0) := by
  have h' := ok_last.1 h
  obtain ⟨a, b, c, e, f, g⟩ := h
  have := dim_bd y m
  unfold day_From.f
  rw [if_neg (by omega), last_ev y m k hk]
  simp only [Option.bind_some]
  rw [if_neg (by omega), number_ok y m d (by omega) (by omega) (by omega) (by omega) (by omega) (by omega)]
  rfl
theorem from_no {y m d : Int} (h : ¬ ok y m d) (k : Nat) (hk : 2 ≤ k) : day_From.f k y m d = some (0, 5) := by
  have h' := mt ok_last.2 h
  unfold day_From.f
  by_cases c : d < 1
  · rw [if_pos c]
  · rw [if_neg c, last_ev y m k hk]
    simp only [Option.bind_some]
    rw [if_pos (by omega)]

/-- The months' loop, from a month that isn't beyond the number's. -/
theorem months (y n : Int) (d : Nat) : ∀ (k : Nat) (m : Int), 1 ≤ y → y ≤ 9999 → 1 ≤ m → m ≤ 12 → (12 - m).toNat = d → d < k → num y m 1 ≤ n → (y < 9999 → n < yd (y + 1)) → n ≤ 3652059 →
    ∃ m' d', ok y m' d' ∧ num y m' d' = n ∧ day_To.l1 k n y m 1 = some (y, m', d', 0) := by
  induction d with
  | zero =>
    intro k m h1 h2 h3 h4 hd hk h5 h6 h7
    obtain ⟨k, rfl⟩ : ∃ j, k = j + 1 := ⟨k - 1, by omega⟩
    have hm : m = 12 := by omega
    subst hm
    have s := mo_succ y 12 (by omega) (by omega)
    have b := mo_13 y
    have u := yd_succ y
    have hb := dim_bd y 12
    have hn : n < yd (y + 1) := by
      by_cases c : y < 9999
      · exact h6 c
      · have : y = 9999 := by omega
        subst this
        show n < yd 10000
        rw [yd_top]
        omega
    rw [show (12 : Int) + 1 = 13 by rfl] at s
    have hnum : num y 12 1 = yd y + mo y 12 := by unfold num; omega
    refine ⟨12, 1 + (n - num y 12 1), ⟨h1, h2, by omega, by omega, by omega, by omega⟩, by rw [num_day]; omega, ?_⟩
    simp only [day_To.l1]
    rw [if_neg (by omega), number_ok y 12 1 (by omega) (by omega) (by omega) (by omega) (by omega) (by omega)]
    simp only [Option.bind_some]
    have hr := yd_mono (a := y + 1) (b := 10000) (by omega)
    rw [yd_top] at hr
    rw [w64 (n := n - num y 12 1) (by omega) (by omega), w64 (by omega) (by omega)]
  | succ d ih =>
    intro k m h1 h2 h3 h4 hd hk h5 h6 h7
    obtain ⟨k, rfl⟩ : ∃ j, k = j + 1 := ⟨k - 1, by omega⟩
    have s := mo_succ y m (by omega) (by omega)
    have hb := dim_bd y m
    simp only [day_To.l1]
    rw [if_pos (by omega), w64 (n := m + 1) (by omega) (by omega), number_ok y (m + 1) 1 (by omega) (by omega) (by omega) (by omega) (by omega) (by omega)]
    simp only [Option.bind_some]
    by_cases c : num y (m + 1) 1 ≤ n
    · rw [if_pos c]
      exact ih k (m + 1) h1 h2 (by omega) (by omega) (by omega) (by omega) c h6 h7
    · rw [if_neg c, number_ok y m 1 (by omega) (by omega) (by omega) (by omega) (by omega) (by omega)]
      simp only [Option.bind_some]
      have e1 : num y (m + 1) 1 = num y m 1 + dim y m := by unfold num; omega
      refine ⟨m, 1 + (n - num y m 1), ⟨h1, h2, h3, h4, by omega, by omega⟩, by rw [num_day]; omega, ?_⟩
      rw [w64 (n := n - num y m 1) (by omega) (by omega), w64 (by omega) (by omega)]

/-- The years' loop. -/
theorem years (n : Int) (d : Nat) : ∀ (k : Nat) (y : Int), 1 ≤ y → y ≤ 9999 → (9999 - y).toNat = d → d + 14 < k → yd y ≤ n → n ≤ 3652059 →
    ∃ y' m' d', ok y' m' d' ∧ num y' m' d' = n ∧ day_To.l0 k n y 1 1 = some (y', m', d', 0) := by
  have fin : ∀ (k : Nat) (y : Int), 14 ≤ k → 1 ≤ y → y ≤ 9999 → yd y ≤ n → n ≤ 3652059 → (y < 9999 → n < yd (y + 1)) → ∃ y' m' d', ok y' m' d' ∧ num y' m' d' = n ∧ day_To.j2 k n y 1 1 = some (y', m', d', 0) := by
    intro k y hk h1 h2 h3 h4 h5
    obtain ⟨k, rfl⟩ : ∃ j, k = j + 1 := ⟨k - 1, by omega⟩
    obtain ⟨m', d', a, b, c⟩ := months y n 11 k 1 h1 h2 (by omega) (by omega) (by omega) (by omega) (by rw [num_one]; exact h3) h5 h4
    exact ⟨y, m', d', a, b, by simp only [day_To.j2]; exact c⟩
  induction d with
  | zero =>
    intro k y h1 h2 hd hk h3 h4
    obtain ⟨k, rfl⟩ : ∃ j, k = j + 1 := ⟨k - 1, by omega⟩
    simp only [day_To.l0]
    rw [if_neg (by omega)]
    exact fin k y (by omega) h1 h2 h3 h4 (fun h => by omega)
  | succ d ih =>
    intro k y h1 h2 hd hk h3 h4
    obtain ⟨k, rfl⟩ : ∃ j, k = j + 1 := ⟨k - 1, by omega⟩
    simp only [day_To.l0]
    rw [if_pos (by omega), w64 (n := y + 1) (by omega) (by omega), number_ok (y + 1) 1 1 (by omega) (by omega) (by omega) (by omega) (by omega) (by omega)]
    simp only [Option.bind_some]
    rw [num_one]
    by_cases c : yd (y + 1) ≤ n
    · rw [if_pos c]
      exact ih k (y + 1) (by omega) (by omega) (by omega) (by omega) c h4
    · rw [if_neg c]
      exact fin k y (by omega) h1 h2 h3 h4 (fun _ => by omega)

theorem to_ok {n : Int} (h1 : 1 ≤ n) (h2 : n ≤ 3652059) : ∃ y m d, ok y m d ∧ num y m d = n ∧ ∀ k, 20000 ≤ k → day_To.f k n = some (y, m, d, 0) := by
  have hy : 1 ≤ mx 1 (n / 366) ∧ mx 1 (n / 366) ≤ 9999 ∧ yd (mx 1 (n / 366)) ≤ n := by
    unfold mx yd
    split <;> omega
  obtain ⟨a, b, c⟩ := hy
  have hk : ∀ k, 19000 ≤ k → ∃ y' m' d', ok y' m' d' ∧ num y' m' d' = n ∧ day_To.l0 k n (mx 1 (n / 366)) 1 1 = some (y', m', d', 0) := by
    intro k hk
    exact years n _ k _ a b rfl (by omega) c h2
  obtain ⟨y, m, d, o, e, _⟩ := hk 19000 (Nat.le_refl _)
  refine ⟨y, m, d, o, e, fun k hkk => ?_⟩
  obtain ⟨k, rfl⟩ : ∃ j, k = j + 1 := ⟨k - 1, by omega⟩
  obtain ⟨y', m', d', o', e', f'⟩ := hk k (by omega)
  obtain ⟨rfl, rfl, rfl⟩ := num_inj o o' (by omega)
  unfold day_To.f
  rw [if_neg (by omega), decide_eq_false (by omega)]
  simp only [day_To.j0, Bool.false_eq_true, if_false]
  rw [td_nn (by omega), w64 (n := n / 366) (by omega) (by omega)]
  exact f'
theorem to_no {n : Int} (h : n < 1 ∨ 3652059 < n) (k : Nat) (hk : 1 ≤ k) : day_To.f k n = some (0, 0, 0, 5) := by
  obtain ⟨k, rfl⟩ : ∃ j, k = j + 1 := ⟨k - 1, by omega⟩
  have t : day_To.j0 (k + 1) n true = some (0, 0, 0, 5) := by simp only [day_To.j0, if_true]
  unfold day_To.f
  by_cases c : n < 1
  · rw [if_pos c, t]
  · rw [if_neg c, decide_eq_true (by omega), t]
/-- The date of a date's number. -/
theorem to_num {y m d : Int} (h : ok y m d) (k : Nat) (hk : 20000 ≤ k) : day_To.f k (num y m d) = some (y, m, d, 0) := by
  have r := num_range h
  obtain ⟨y', m', d', o, e, f⟩ := to_ok r.1 r.2
  obtain ⟨rfl, rfl, rfl⟩ := num_inj h o e.symm
  exact f k hk

theorem weekday (n : Int) : day_Weekday.f n = some ((n + 6) % 7) := by
  unfold day_Weekday.f
  rw [tm_eq (a := n)]
  congr 1
  split
  · rw [w64 (by omega) (by omega), tm_nn (by omega)]
    omega
  · rw [w64 (by omega) (by omega), tm_nn (by omega)]
    omega
end Go.Proofs.Ytdfaedikjfbbjaa.DayPure
end

section
namespace Go.Proofs.Ytdfaedikjfbbjaa.DayRef
set_option linter.unusedVariables false
set_option linter.unusedSimpArgs false
open Go.RowKit Go.Proofs.Ytdfaedikjfbbjaa.S Go.Proofs.Ytdfaedikjfbbjaa.XNum Go.Proofs.Ytdfaedikjfbbjaa.Cal Go.Proofs.Ytdfaedikjfbbjaa.DayPure Go.Proofs.YtdfaedikjfbbjaaW.PrintWords Go.Proofs.YtdfaedikjfbbjaaW.PrintLast

theorem leap (y : Int) : lombardref04_Leap.f y = some (decide (lp y = 1)) := by
  have z4 : Int.tmod y 4 = 0 ↔ y % 4 = 0 := tm_zero
  have z100 : Int.tmod y 100 = 0 ↔ y % 100 = 0 := tm_zero
  have z400 : (Int.tmod y 400 == 0) = decide (y % 400 = 0) := by
    rw [Bool.eq_iff_iff]
    simp only [beq_iff_eq, decide_eq_true_eq]
    exact tm_zero
  unfold lombardref04_Leap.f lp
  rw [z400]
  by_cases h1 : y % 4 = 0
  · rw [if_pos (z4.2 h1)]
    by_cases h2 : y % 100 = 0
    · rw [if_pos (z100.2 h2)]
      by_cases h3 : y % 400 = 0 <;> simp [h1, h2, h3]
    · rw [if_neg (mt z100.1 h2)]
      simp [h1, h2]
  · rw [if_neg (mt z4.1 h1)]
    have h3 : ¬ y % 400 = 0 := by omega
    simp [h1, h3]

theorem rlast (y m : Int) : lombardref04_Last.f y m = some (last y m) := by
  have hl := lp_01 y
  unfold lombardref04_Last.f
  rw [leap]
  simp only [Option.bind_some]
  by_cases h1 : y < 1
  · rw [if_pos h1]
    unfold last
    rw [if_neg (by omega)]
  rw [if_neg h1]
  by_cases h2 : y > 9999
  · rw [if_pos h2]
    unfold last
    rw [if_neg (by omega)]
  rw [if_neg h2]
  by_cases h3 : m < 1
  · rw [if_pos h3]
    unfold last
    rw [if_neg (by omega)]
  rw [if_neg h3]
  by_cases h4 : m > 12
  · rw [if_pos h4]
    unfold last
    rw [if_neg (by omega)]
  rw [if_neg h4]
  have hd : last y m = dim y m := by
    unfold last
    rw [if_pos (by omega)]
  rw [hd]
  unfold dim
  by_cases h5 : m = 2
  · subst h5
    by_cases c : lp y = 1
    · simp [c]
    · have : lp y = 0 := by omega
      simp [this]
  · simp [h5]

/-- How many days a year's years ahead have. -/
theorem ahead_l (y : Int) (h1 : y ≤ 10000) (d : Nat) : ∀ (k : Nat) (x : Int), 1 ≤ x → x ≤ y → (y - x).toNat = d → d < k → lombardref04_ahead.l0 k y (yd x - 1) x = some (yd y - 1) := by
  induction d with
  | zero =>
    intro k x a b hd hk
    obtain ⟨k, rfl⟩ : ∃ j, k = j + 1 := ⟨k - 1, by omega⟩
    have : x = y := by omega
    subst this
    simp only [lombardref04_ahead.l0]
    rw [if_neg (by omega)]
  | succ d ih =>
    intro k x a b hd hk
    obtain ⟨k, rfl⟩ : ∃ j, k = j + 1 := ⟨k - 1, by omega⟩
    have hl := lp_01 x
    have s := yd_succ x
    have r1 := yd_mono (a := 1) (b := x) a
    have r2 := yd_mono (a := x) (b := 10000) (by omega)
    rw [yd_one] at r1
    rw [yd_top] at r2
    have := ih k (x + 1) (by omega) (by omega) (by omega) (by omega)
    simp only [lombardref04_ahead.l0, leap, Option.bind_some]
    rw [if_pos (by omega), w64 (n := x + 1) (by omega) (by omega), w64 (n := yd x - 1 + 365) (by omega) (by omega), w64 (n := yd x - 1 + 365 + 1) (by omega) (by omega)]
    by_cases c : lp x = 1
    · rw [if_pos (decide_eq_true c), show yd x - 1 + 365 + 1 = yd (x + 1) - 1 by omega]
      exact this
    · have c0 : lp x = 0 := by omega
      rw [if_neg (by simp [c]), show yd x - 1 + 365 = yd (x + 1) - 1 by omega]
      exact this

theorem from_l (y d : Int) (h1 : 1 ≤ y) (h2 : y ≤ 9999) (m : Int) (h3 : 1 ≤ m) (h4 : m ≤ 12) (h5 : 1 ≤ d) (h6 : d ≤ 31) (n : Nat) : ∀ (k : Nat) (x : Int), 1 ≤ x → x ≤ m → (m - x).toNat = n → n < k →
    lombardref04_From.l0 k (num y x 0) x y m d = some (num y m d, 0) := by
  have r1 := yd_mono (a := 1) (b := y) h1
  have r2 := yd_mono (a := y) (b := 10000) (by omega)
  rw [yd_one] at r1
  rw [yd_top] at r2
  have hl := lp_01 y
  induction n with
  | zero =>
    intro k x a b hd hk
    obtain ⟨k, rfl⟩ : ∃ j, k = j + 1 := ⟨k - 1, by omega⟩
    have : x = m := by omega
    subst this
    have q := mo_le y (a := x) (b := 13) (by omega) (by omega) (by omega)
    have q' := mo_le y (a := 1) (b := x) (by omega) (by omega) (by omega)
    rw [mo_13] at q
    rw [mo_one] at q'
    simp only [lombardref04_From.l0]
    rw [if_neg (by omega)]
    have e : num y x 0 + d = num y x d := by unfold num; omega
    rw [e, w64 (by unfold num; omega) (by unfold num; omega)]
  | succ n ih =>
    intro k x a b hd hk
    obtain ⟨k, rfl⟩ : ∃ j, k = j + 1 := ⟨k - 1, by omega⟩
    have s := mo_succ y x (by omega) (by omega)
    have hb := dim_bd y x
    have q := mo_le y (a := x) (b := 13) (by omega) (by omega) (by omega)
    have q' := mo_le y (a := 1) (b := x) (by omega) (by omega) (by omega)
    rw [mo_13] at q
    rw [mo_one] at q'
    have hlast : last y x = dim y x := by
      unfold last
      rw [if_pos (by omega)]
    have e : num y x 0 + dim y x = num y (x + 1) 0 := by unfold num; omega
    have := ih k (x + 1) (by omega) (by omega) (by omega) (by omega)
    simp only [lombardref04_From.l0, rlast, Option.bind_some]
    rw [if_pos (by omega), hlast, e, w64 (n := num y (x + 1) 0) (by rw [← e]; unfold num; omega) (by rw [← e]; unfold num; omega), w64 (n := x + 1) (by omega) (by omega)]
    exact this

theorem from_ok {y m d : Int} (h : ok y m d) (k : Nat) (hk : 20000 ≤ k) : lombardref04_From.f k y m d = some (num y m d, 0) := by
  have h' := ok_last.1 h
  obtain ⟨a, b, c, e, f, g⟩ := h
  have hb := dim_bd y m
  obtain ⟨k, rfl⟩ : ∃ j, k = j + 1 := ⟨k - 1, by omega⟩
  have h1 := ahead_l y (by omega) (y - 1).toNat k 1 (by omega) a rfl (by omega)
  rw [yd_one, show (1 : Int) - 1 = 0 by rfl] at h1
  have h2 := from_l y d a b m c e f (by omega) (m - 1).toNat k 1 (by omega) c rfl (by omega)
  have e0 : num y 1 0 = yd y - 1 := by unfold num; rw [mo_one]; omega
  rw [e0] at h2
  unfold lombardref04_From.f
  rw [if_neg (by omega), rlast]
  simp only [Option.bind_some]
  rw [decide_eq_false (by omega)]
  simp only [lombardref04_From.j0, Bool.false_eq_true, if_false, lombardref04_ahead.f, h1, Option.bind_some, h2]
theorem from_no {y m d : Int} (h : ¬ ok y m d) (k : Nat) (hk : 20000 ≤ k) : lombardref04_From.f k y m d = some (0, 5) := by
  have h' := mt ok_last.2 h
  obtain ⟨k, rfl⟩ : ∃ j, k = j + 1 := ⟨k - 1, by omega⟩
  have t : lombardref04_From.j0 (k + 1) true y m d = some (0, 5) := by simp only [lombardref04_From.j0, if_true]
  unfold lombardref04_From.f
  by_cases c : d < 1
  · rw [if_pos c, t]
  · rw [if_neg c, rlast]
    simp only [Option.bind_some]
    rw [decide_eq_true (by omega), t]

/-- The months' loop. -/
theorem to_l1 (y n : Int) (h1 : 1 ≤ y) (h2 : y ≤ 9999) (hn : n < yd (y + 1)) (d : Nat) : ∀ (k : Nat) (m : Int), 1 ≤ m → m ≤ 12 → (12 - m).toNat = d → d < k → num y m 1 ≤ n →
    ∃ m' d', ok y m' d' ∧ num y m' d' = n ∧ lombardref04_To.l1 k y m (n - num y m 0) = some (y, m', d', 0) := by
  have r1 := yd_mono (a := 1) (b := y) h1
  have r2 := yd_mono (a := y + 1) (b := 10000) (by omega)
  have s' := yd_succ y
  rw [yd_one] at r1
  rw [yd_top] at r2
  have hl := lp_01 y
  induction d with
  | zero =>
    intro k m a b hd hk h5
    obtain ⟨k, rfl⟩ : ∃ j, k = j + 1 := ⟨k - 1, by omega⟩
    have hm : m = 12 := by omega
    subst hm
    have s := mo_succ y 12 (by omega) (by omega)
    have t := mo_13 y
    rw [show (12 : Int) + 1 = 13 by rfl] at s
    have d12 : dim y 12 = 31 := by simp [dim]
    have hlast : last y 12 = dim y 12 := by
      unfold last
      rw [if_pos (by omega)]
    have en : num y 12 0 = yd y + mo y 12 - 1 := by unfold num; omega
    have en1 : num y 12 1 = yd y + mo y 12 := by unfold num; omega
    refine ⟨12, n - num y 12 0, ⟨h1, h2, by omega, by omega, by omega, by omega⟩, by unfold num; omega, ?_⟩
    simp only [lombardref04_To.l1, rlast, Option.bind_some]
    rw [if_neg (by omega)]
  | succ d ih =>
    intro k m a b hd hk h5
    obtain ⟨k, rfl⟩ : ∃ j, k = j + 1 := ⟨k - 1, by omega⟩
    have s := mo_succ y m (by omega) (by omega)
    have hb := dim_bd y m
    have q' := mo_le y (a := 1) (b := m) (by omega) (by omega) (by omega)
    have q := mo_le y (a := m) (b := 13) (by omega) (by omega) (by omega)
    rw [mo_13] at q
    rw [mo_one] at q'
    have hlast : last y m = dim y m := by
      unfold last
      rw [if_pos (by omega)]
    have en : num y m 0 = yd y + mo y m - 1 := by unfold num; omega
    have en1 : num y m 1 = yd y + mo y m := by unfold num; omega
    have en2 : num y (m + 1) 1 = yd y + mo y m + dim y m := by unfold num; omega
    have en3 : num y (m + 1) 0 = yd y + mo y m + dim y m - 1 := by unfold num; omega
    simp only [lombardref04_To.l1, rlast, Option.bind_some]
    rw [hlast]
    by_cases c : n - num y m 0 > dim y m
    · have := ih k (m + 1) (by omega) (by omega) (by omega) (by omega) (by omega)
      rw [if_pos c, w64 (n := m + 1) (by omega) (by omega), w64 (by omega) (by omega), show n - num y m 0 - dim y m = n - num y (m + 1) 0 by omega]
      exact this
    · rw [if_neg c]
      exact ⟨m, n - num y m 0, ⟨h1, h2, a, b, by omega, by omega⟩, by unfold num; omega, rfl⟩

/-- The years' loop. -/
theorem to_l0 (n : Int) (h4 : n ≤ 3652059) (d : Nat) : ∀ (k : Nat) (y : Int), 1 ≤ y → y ≤ 9999 → (9999 - y).toNat = d → d + 20 < k → yd y ≤ n →
    ∃ y' m' d', ok y' m' d' ∧ num y' m' d' = n ∧ lombardref04_To.l0 k y 1 (n - yd y + 1) = some (y', m', d', 0) := by
  have fin : ∀ (k : Nat) (y : Int), 14 ≤ k → 1 ≤ y → y ≤ 9999 → yd y ≤ n → n < yd (y + 1) → ∃ y' m' d', ok y' m' d' ∧ num y' m' d' = n ∧ lombardref04_To.j2 k y 1 (n - yd y + 1) = some (y', m', d', 0) := by
    intro k y hk h1 h2 h3 h5
    obtain ⟨k, rfl⟩ : ∃ j, k = j + 1 := ⟨k - 1, by omega⟩
    obtain ⟨m', d', a, b, c⟩ := to_l1 y n h1 h2 h5 11 k 1 (by omega) (by omega) (by omega) (by omega) (by rw [num_one]; exact h3)
    have e0 : num y 1 0 = yd y - 1 := by unfold num; rw [mo_one]; omega
    rw [e0, show n - (yd y - 1) = n - yd y + 1 by omega] at c
    exact ⟨y, m', d', a, b, by simp only [lombardref04_To.j2]; exact c⟩
  induction d with
  | zero =>
    intro k y h1 h2 hd hk h3
    obtain ⟨k, rfl⟩ : ∃ j, k = j + 1 := ⟨k - 1, by omega⟩
    have hy : y = 9999 := by omega
    subst hy
    have t := yd_top
    have s := yd_succ 9999
    rw [show (9999 : Int) + 1 = 10000 by rfl] at s
    have l9 : lp 9999 = 0 := by decide
    have := fin k 9999 (by omega) (by omega) (by omega) h3 (by show n < yd 10000; omega)
    simp only [lombardref04_To.l0, leap, Option.bind_some]
    rw [l9, if_neg (by decide), if_pos (by omega)]
    exact this
  | succ d ih =>
    intro k y h1 h2 hd hk h3
    obtain ⟨k, rfl⟩ : ∃ j, k = j + 1 := ⟨k - 1, by omega⟩
    have hl := lp_01 y
    have s := yd_succ y
    have r1 := yd_mono (a := 1) (b := y) h1
    have r2 := yd_mono (a := y + 1) (b := 10000) (by omega)
    rw [yd_one] at r1
    rw [yd_top] at r2
    have ih' := fun hh => ih k (y + 1) (by omega) (by omega) (by omega) (by omega) hh
    have fin' := fun hh => fin k y (by omega) h1 h2 h3 hh
    simp only [lombardref04_To.l0, leap, Option.bind_some]
    rw [w64 (n := y + 1) (by omega) (by omega)]
    by_cases c : lp y = 1
    · rw [if_pos (decide_eq_true c)]
      by_cases c2 : n - yd y + 1 ≤ 366
      · rw [if_pos c2]
        exact fin' (by omega)
      · rw [if_neg c2, w64 (by omega) (by omega), show n - yd y + 1 - 366 = n - yd (y + 1) + 1 by omega]
        exact ih' (by omega)
    · have c0 : lp y = 0 := by omega
      rw [if_neg (by simp [c])]
      by_cases c2 : n - yd y + 1 ≤ 365
      · rw [if_pos c2]
        exact fin' (by omega)
      · rw [if_neg c2, w64 (by omega) (by omega), show n - yd y + 1 - 365 = n - yd (y + 1) + 1 by omega]
        exact ih' (by omega)

theorem to_num {y m d : Int} (h : ok y m d) (k : Nat) (hk : 20000 ≤ k) : lombardref04_To.f k (num y m d) = some (y, m, d, 0) := by
  obtain ⟨k, rfl⟩ : ∃ j, k = j + 1 := ⟨k - 1, by omega⟩
  have r := num_range h
  obtain ⟨y', m', d', o, e, f⟩ := to_l0 (num y m d) r.2 9998 k 1 (by omega) (by omega) (by omega) (by omega) (by rw [yd_one]; omega)
  obtain ⟨rfl, rfl, rfl⟩ := num_inj o h e
  rw [yd_one, show num y' m' d' - 1 + 1 = num y' m' d' by omega] at f
  unfold lombardref04_To.f
  rw [if_neg (by omega), decide_eq_false (by omega)]
  simp only [lombardref04_To.j0, Bool.false_eq_true, if_false]
  exact f
theorem to_no {n : Int} (h : n < 1 ∨ 3652059 < n) (k : Nat) (hk : 1 ≤ k) : lombardref04_To.f k n = some (0, 0, 0, 5) := by
  obtain ⟨k, rfl⟩ : ∃ j, k = j + 1 := ⟨k - 1, by omega⟩
  have t : lombardref04_To.j0 (k + 1) n true = some (0, 0, 0, 5) := by simp only [lombardref04_To.j0, if_true]
  unfold lombardref04_To.f
  by_cases c : n < 1
  · rw [if_pos c, t]
  · rw [if_neg c, decide_eq_true (by omega), t]

theorem weekday (n : Int) : lombardref04_Weekday.f n = some ((n + 6) % 7) := by
  unfold lombardref04_Weekday.f
  congr 1
  rw [tm_eq (a := n)]
  split
  · rw [w64 (n := n % 7 - 1) (by omega) (by omega), tm_eq (a := n % 7 - 1)]
    split
    · rw [w64 (by omega) (by omega), tm_nn (by omega)]
      omega
    · rw [w64 (by omega) (by omega), tm_nn (by omega)]
      omega
  · rw [w64 (n := -(-n % 7) - 1) (by omega) (by omega), tm_neg (a := -(-n % 7) - 1) (by omega), w64 (by omega) (by omega), tm_nn (by omega)]
    omega
end Go.Proofs.Ytdfaedikjfbbjaa.DayRef
end

section
namespace Go.Proofs.Ytdfaedikjfbbjaa.PerPure
set_option linter.unusedVariables false
set_option linter.unusedSimpArgs false
open Go.RowKit Go.Proofs.Ytdfaedikjfbbjaa.S Go.Proofs.Ytdfaedikjfbbjaa.XNum Go.Proofs.Ytdfaedikjfbbjaa.Cal Go.Proofs.Ytdfaedikjfbbjaa.DayPure Go.Proofs.YtdfaedikjfbbjaaW.PrintWords Go.Proofs.YtdfaedikjfbbjaaW.PrintLast

/-- The day months on from a date: its number, and the error. -/
def monthsOf (y m d months : Int) (e : Bool) : Int × Int :=
  let y' := (12 * y + m - 1 + months) / 12
  let m' := (12 * y + m - 1 + months) % 12 + 1
  let most := last y' m'
  let d' := if (e = true ∧ d = dim y m) ∨ d > most then most else d
  if ok y' m' d' then (num y' m' d', 0) else (0, 5)

theorem last_le (y m : Int) : 0 ≤ last y m ∧ last y m ≤ 31 := by
  have := dim_bd y m
  unfold last
  split <;> omega
theorem from_any (y m d : Int) (k : Nat) (hk : 2 ≤ k) : day_From.f k y m d = some (if ok y m d then (num y m d, 0) else (0, 5)) := by
  split
  · exact from_ok (by assumption) k hk
  · exact from_no (by assumption) k hk
theorem rfrom_any (y m d : Int) (k : Nat) (hk : 20000 ≤ k) : lombardref04_From.f k y m d = some (if ok y m d then (num y m d, 0) else (0, 5)) := by
  split
  · exact DayRef.from_ok (by assumption) k hk
  · exact DayRef.from_no (by assumption) k hk
theorem pair_eta (c : Prop) [Decidable c] (a b : Int × Int) : ((if c then a else b).1, (if c then a else b).2) = if c then a else b := rfl

/-- What a call that asks for months on answers. -/
def monthsAll (y m d months : Int) (e : Bool) : Int × Int := if months < -12000 ∨ months > 12000 then (0, 2) else monthsOf y m d months e

theorem months_f {y m d : Int} (h : ok y m d) (months : Int) (e : Bool) (k : Nat) (hk : 20000 ≤ k) :
    period_Months.f k (num y m d) months e = some (monthsAll y m d months e) := by
  have h0 := h
  obtain ⟨a, b, c, f, g, i⟩ := h0
  have hb := dim_bd y m
  unfold period_Months.f monthsAll
  rw [to_num h k hk]
  simp only [Option.bind_some, if_true]
  by_cases c1 : months < -12000
  · rw [if_pos c1, if_pos (.inl c1)]
  rw [if_neg c1]
  by_cases c2 : months > 12000
  · rw [if_pos c2, if_pos (.inr c2)]
  rw [if_neg c2, if_neg (by omega), last_ev y m k (by omega)]
  simp only [Option.bind_some]
  have hlast : last y m = dim y m := by
    unfold last
    rw [if_pos (by omega)]
  rw [hlast, w64 (n := y * 12) (by omega) (by omega), w64 (n := y * 12 + m) (by omega) (by omega), w64 (n := y * 12 + m - 1) (by omega) (by omega), w64 (n := y * 12 + m - 1 + months) (by omega) (by omega)]
  have ea : y * 12 + m - 1 + months = 12 * y + m - 1 + months := by omega
  rw [ea]
  unfold monthsOf
  by_cases c3 : 12 * y + m - 1 + months < 0
  · have hl : last ((12 * y + m - 1 + months) / 12) ((12 * y + m - 1 + months) % 12 + 1) = 0 := by
      unfold last
      rw [if_neg (by omega)]
    rw [if_pos c3]
    dsimp only
    rw [hl, if_pos (c := (e = true ∧ d = dim y m) ∨ d > 0) (.inr (by omega)), if_neg (by unfold ok; omega)]
  rw [if_neg c3]
  rw [td_nn (a := 12 * y + m - 1 + months) (by omega), tm_nn (a := 12 * y + m - 1 + months) (by omega), w64 (n := (12 * y + m - 1 + months) / 12) (by omega) (by omega), w64 (n := (12 * y + m - 1 + months) % 12 + 1) (by omega) (by omega)]
  rw [last_ev _ _ k (by omega)]
  simp only [Option.bind_some, from_any _ _ _ k (show 2 ≤ k by omega), pair_eta]
  generalize last ((12 * y + m - 1 + months) / 12) ((12 * y + m - 1 + months) % 12 + 1) = L
  cases e with
  | true =>
    by_cases c4 : d = dim y m
    · simp [c4]
    · by_cases c5 : d > L
      · simp [c4, c5]
      · simp [c4, c5]
  | false =>
    by_cases c5 : d > L
    · simp [c5]
    · simp [c5]

/-- The document's way: month by month. -/
theorem ref_l1 (d0 : Int) (e lastf : Bool) (hd : 1 ≤ d0) (hd2 : d0 ≤ 31) (all : Int) (h1 : -20000 ≤ all) (h2 : all ≤ 140000) (n : Nat) : ∀ (k : Nat) (x y m : Int), x ≤ 0 → (-x).toNat = n → n + 20001 ≤ k → 1 ≤ m → m ≤ 12 → 12 * y + m - 1 + x = all → -20000 ≤ y → y ≤ 20000 →
    lombardref06_Months.l1 k x e lastf y m d0 = some (let most := last (all / 12) (all % 12 + 1); let d' := if (e = true ∧ lastf = true) ∨ d0 > most then most else d0; if ok (all / 12) (all % 12 + 1) d' then (num (all / 12) (all % 12 + 1) d', 0) else (0, 5)) := by
  induction n with
  | zero =>
    intro k x y m hx hn hk hm1 hm2 ha hy1 hy2
    obtain ⟨k, rfl⟩ : ∃ j, k = j + 1 := ⟨k - 1, by omega⟩
    have hx0 : x = 0 := by omega
    subst hx0
    have ey : all / 12 = y := by omega
    have em : all % 12 + 1 = m := by omega
    rw [ey, em]
    simp only [lombardref06_Months.l1, DayRef.rlast, Option.bind_some, rfrom_any _ _ _ k (show 20000 ≤ k by omega), pair_eta]
    rw [if_neg (by omega)]
    by_cases c : d0 > last y m
    · simp [c]
    · cases e <;> cases lastf <;> simp [c]
  | succ n ih =>
    intro k x y m hx hn hk hm1 hm2 ha hy1 hy2
    obtain ⟨k, rfl⟩ : ∃ j, k = j + 1 := ⟨k - 1, by omega⟩
    simp only [lombardref06_Months.l1]
    rw [if_pos (by omega), w64 (n := m - 1) (by omega) (by omega), w64 (n := x + 1) (by omega) (by omega), w64 (n := y - 1) (by omega) (by omega)]
    by_cases c : m - 1 < 1
    · rw [if_pos c]
      exact ih k (x + 1) (y - 1) 12 (by omega) (by omega) (by omega) (by omega) (by omega) (by omega) (by omega) (by omega)
    · rw [if_neg c]
      exact ih k (x + 1) y (m - 1) (by omega) (by omega) (by omega) (by omega) (by omega) (by omega) (by omega) (by omega)

theorem ref_l0 (d0 : Int) (e lastf : Bool) (hd : 1 ≤ d0) (hd2 : d0 ≤ 31) (all : Int) (h1 : -20000 ≤ all) (h2 : all ≤ 140000) (n : Nat) : ∀ (k : Nat) (x y m : Int), -12000 ≤ x → x ≤ 12000 → x.toNat = n → n + 40010 ≤ k → 1 ≤ m → m ≤ 12 → 12 * y + m - 1 + x = all → 0 ≤ y → y ≤ 20000 →
    lombardref06_Months.l0 k x e lastf y m d0 = some (let most := last (all / 12) (all % 12 + 1); let d' := if (e = true ∧ lastf = true) ∨ d0 > most then most else d0; if ok (all / 12) (all % 12 + 1) d' then (num (all / 12) (all % 12 + 1) d', 0) else (0, 5)) := by
  induction n with
  | zero =>
    intro k x y m hx hx2 hn hk hm1 hm2 ha hy1 hy2
    obtain ⟨k, rfl⟩ : ∃ j, k = j + 1 := ⟨k - 1, by omega⟩
    simp only [lombardref06_Months.l0]
    rw [if_neg (by omega)]
    exact ref_l1 d0 e lastf hd hd2 all h1 h2 (-x).toNat k x y m (by omega) rfl (by omega) hm1 hm2 ha (by omega) (by omega)
  | succ n ih =>
    intro k x y m hx hx2 hn hk hm1 hm2 ha hy1 hy2
    obtain ⟨k, rfl⟩ : ∃ j, k = j + 1 := ⟨k - 1, by omega⟩
    simp only [lombardref06_Months.l0]
    rw [if_pos (by omega), w64 (n := m + 1) (by omega) (by omega), w64 (n := x - 1) (by omega) (by omega), w64 (n := y + 1) (by omega) (by omega)]
    by_cases c : m + 1 > 12
    · rw [if_pos c]
      exact ih k (x - 1) (y + 1) 1 (by omega) (by omega) (by omega) (by omega) (by omega) (by omega) (by omega) (by omega) (by omega)
    · rw [if_neg c]
      exact ih k (x - 1) y (m + 1) (by omega) (by omega) (by omega) (by omega) (by omega) (by omega) (by omega) (by omega) (by omega)

theorem rmonths_f {y m d : Int} (h : ok y m d) (months : Int) (e : Bool) (k : Nat) (hk : 60000 ≤ k) :
    lombardref06_Months.f k (num y m d) months e = some (monthsAll y m d months e) := by
  have h0 := h
  obtain ⟨a, b, c, f, g, i⟩ := h0
  have hb := dim_bd y m
  obtain ⟨k, rfl⟩ : ∃ j, k = j + 1 := ⟨k - 1, by omega⟩
  have t : ∀ y m d, lombardref06_Months.j0 (k + 1) months e true y m d = some (0, 2) := by
    intro y m d
    simp only [lombardref06_Months.j0, if_true]
  unfold lombardref06_Months.f monthsAll
  rw [DayRef.to_num h (k + 1) (by omega)]
  simp only [Option.bind_some, if_true]
  by_cases c1 : months < -12000
  · rw [if_pos c1, if_pos (.inl c1), t]
  rw [if_neg c1]
  by_cases c2 : months > 12000
  · rw [decide_eq_true c2, if_pos (.inr c2), t]
  rw [decide_eq_false c2, if_neg (by omega)]
  simp only [lombardref06_Months.j0, Bool.false_eq_true, if_false, DayRef.rlast, Option.bind_some]
  have hlast : last y m = dim y m := by
    unfold last
    rw [if_pos (by omega)]
  rw [hlast, ref_l0 d e (d == dim y m) (by omega) (by omega) (12 * y + m - 1 + months) (by omega) (by omega) months.toNat k months y m (by omega) (by omega) rfl (by omega) (by omega) (by omega) (by omega) (by omega) (by omega)]
  unfold monthsOf
  simp only [beq_iff_eq]

theorem months_no {n : Int} (h : n < 1 ∨ 3652059 < n) (months : Int) (e : Bool) (k : Nat) (hk : 1 ≤ k) : period_Months.f k n months e = some (0, 5) := by
  unfold period_Months.f
  rw [to_no h k hk]
  simp only [Option.bind_some]
  rw [if_neg (by omega)]
theorem rmonths_no {n : Int} (h : n < 1 ∨ 3652059 < n) (months : Int) (e : Bool) (k : Nat) (hk : 1 ≤ k) : lombardref06_Months.f k n months e = some (0, 5) := by
  unfold lombardref06_Months.f
  rw [DayRef.to_no h k hk]
  simp only [Option.bind_some]
  rw [if_neg (by omega)]

open Classical in
/-- Months on from any day. -/
noncomputable def mon (n months : Int) (e : Bool) : Int × Int :=
  if h : ∃ t : Int × Int × Int, ok t.1 t.2.1 t.2.2 ∧ num t.1 t.2.1 t.2.2 = n then monthsAll h.choose.1 h.choose.2.1 h.choose.2.2 months e else (0, 5)
theorem mon_num {y m d : Int} (h : ok y m d) (months : Int) (e : Bool) : mon (num y m d) months e = monthsAll y m d months e := by
  have hx : ∃ t : Int × Int × Int, ok t.1 t.2.1 t.2.2 ∧ num t.1 t.2.1 t.2.2 = num y m d := ⟨(y, m, d), h, rfl⟩
  unfold mon
  rw [dif_pos hx]
  obtain ⟨e1, e2, e3⟩ := num_inj hx.choose_spec.1 h hx.choose_spec.2
  rw [e1, e2, e3]
theorem mon_no {n : Int} (h : n < 1 ∨ 3652059 < n) (months : Int) (e : Bool) : mon n months e = (0, 5) := by
  unfold mon
  rw [dif_neg]
  rintro ⟨t, ht, rfl⟩
  have := num_range ht
  omega
theorem months_any (n months : Int) (e : Bool) (k : Nat) (hk : 20000 ≤ k) : period_Months.f k n months e = some (mon n months e) := by
  by_cases c : 1 ≤ n ∧ n ≤ 3652059
  · obtain ⟨y, m, d, o, rfl⟩ := date_of n c.1 c.2
    rw [mon_num o, months_f o months e k hk]
  · rw [mon_no (by omega), months_no (by omega) months e k (by omega)]
theorem rmonths_any (n months : Int) (e : Bool) (k : Nat) (hk : 60000 ≤ k) : lombardref06_Months.f k n months e = some (mon n months e) := by
  by_cases c : 1 ≤ n ∧ n ≤ 3652059
  · obtain ⟨y, m, d, o, rfl⟩ := date_of n c.1 c.2
    rw [mon_num o, rmonths_f o months e k hk]
  · rw [mon_no (by omega), rmonths_no (by omega) months e k (by omega)]

/-- A row of days: so many more, from the i-th one on; what has been gathered. -/
def row (g : Int → Int × Int) : Nat → Int → List Int → List Int × Int
  | 0, _, acc => (acc, 0)
  | r + 1, i, acc => if (g i).2 = 0 then row g r (i + 1) (acc ++ [(g i).1]) else ([], (g i).2)

theorem dates_l0 (n step : Int) (e : Bool) (times : Int) (hs : 1 ≤ step) (hs2 : step ≤ 12) (ht : 0 ≤ times) (ht2 : times ≤ 600) (r : Nat) : ∀ (k : Nat) (i : Int) (acc : List Int), 0 ≤ i → i ≤ times → (times - i).toNat = r → r + 20001 ≤ k → acc.length ≤ 600 - r →
    period_Dates.l0 k n step e acc times i = some (row (fun j => mon n (j * step) e) r (i + 1) acc) := by
  induction r with
  | zero =>
    intro k i acc h1 h2 hr hk ha
    obtain ⟨k, rfl⟩ : ∃ j, k = j + 1 := ⟨k - 1, by omega⟩
    simp only [period_Dates.l0, row]
    rw [if_neg (by omega)]
  | succ r ih =>
    intro k i acc h1 h2 hr hk ha
    obtain ⟨k, rfl⟩ : ∃ j, k = j + 1 := ⟨k - 1, by omega⟩
    have b1 : 0 ≤ (i + 1) * step := Int.mul_nonneg (by omega) (by omega)
    have b2 : (i + 1) * step ≤ 601 * 12 := Int.mul_le_mul (by omega) hs2 (by omega) (by omega)
    simp only [period_Dates.l0, row]
    rw [if_pos (by omega), w64 (n := i + 1) (by omega) (by omega), w64 (n := (i + 1) * step) (by omega) (by omega), months_any _ _ _ k (by omega)]
    simp only [Option.bind_some]
    split
    · rw [if_pos (by omega)]
      exact ih k (i + 1) _ (by omega) (by omega) (by omega) (by omega) (by simp; omega)
    · rfl

theorem rdates_l0 (n step : Int) (e : Bool) (times : Int) (hs : 1 ≤ step) (hs2 : step ≤ 12) (ht : 0 ≤ times) (ht2 : times ≤ 600) (r : Nat) : ∀ (k : Nat) (i : Int) (acc : List Int), 1 ≤ i → i ≤ times + 1 → (times + 1 - i).toNat = r → r + 60001 ≤ k → acc.length ≤ 600 - r →
    lombardref06_Dates.l0 k n step times e acc i = some (row (fun j => mon n (j * step) e) r i acc) := by
  induction r with
  | zero =>
    intro k i acc h1 h2 hr hk ha
    obtain ⟨k, rfl⟩ : ∃ j, k = j + 1 := ⟨k - 1, by omega⟩
    simp only [lombardref06_Dates.l0, row]
    rw [if_neg (by omega)]
  | succ r ih =>
    intro k i acc h1 h2 hr hk ha
    obtain ⟨k, rfl⟩ : ∃ j, k = j + 1 := ⟨k - 1, by omega⟩
    have b1 : 0 ≤ i * step := Int.mul_nonneg (by omega) (by omega)
    have b2 : i * step ≤ 601 * 12 := Int.mul_le_mul (by omega) hs2 (by omega) (by omega)
    simp only [lombardref06_Dates.l0, row]
    rw [if_pos (by omega), w64 (n := i * step) (by omega) (by omega), rmonths_any _ _ _ k (by omega)]
    simp only [Option.bind_some]
    split
    · rw [if_pos (by omega), w64 (n := i + 1) (by omega) (by omega)]
      exact ih k (i + 1) _ (by omega) (by omega) (by omega) (by omega) (by simp; omega)
    · rfl

/-- What a call that asks for a row answers. -/
noncomputable def rowOf (n step times : Int) (e : Bool) : List Int × Int :=
  if 1 ≤ step ∧ step ≤ 12 ∧ 0 ≤ times ∧ times ≤ 600 then row (fun j => mon n (j * step) e) times.toNat 1 [] else ([], 2)

theorem dates_any (n step times : Int) (e : Bool) (k : Nat) (hk : 30000 ≤ k) : period_Dates.f k n step times e = some (rowOf n step times e) := by
  obtain ⟨k, rfl⟩ : ∃ j, k = j + 1 := ⟨k - 1, by omega⟩
  have t : period_Dates.j0 (k + 1) n step times e true = some ([], 2) := by simp only [period_Dates.j0, if_true]
  unfold period_Dates.f rowOf
  by_cases c1 : step < 1
  · rw [if_pos c1, t, if_neg (by omega)]
  rw [if_neg c1]
  by_cases c2 : step > 12
  · rw [if_pos c2, t, if_neg (by omega)]
  rw [if_neg c2]
  by_cases c3 : times < 0
  · rw [if_pos c3, t, if_neg (by omega)]
  rw [if_neg c3]
  by_cases c4 : times > 600
  · rw [decide_eq_true c4, t, if_neg (by omega)]
  rw [decide_eq_false c4, if_pos (by omega)]
  simp only [period_Dates.j0, Bool.false_eq_true, if_false]
  exact dates_l0 n step e times (by omega) (by omega) (by omega) (by omega) times.toNat k 0 [] (by omega) (by omega) (by omega) (by omega) (by simp)
theorem rdates_any (n step times : Int) (e : Bool) (k : Nat) (hk : 70000 ≤ k) : lombardref06_Dates.f k n step times e = some (rowOf n step times e) := by
  obtain ⟨k, rfl⟩ : ∃ j, k = j + 1 := ⟨k - 1, by omega⟩
  have t : lombardref06_Dates.j0 (k + 1) n step times e true = some ([], 2) := by simp only [lombardref06_Dates.j0, if_true]
  unfold lombardref06_Dates.f rowOf
  by_cases c1 : step < 1
  · rw [if_pos c1, t, if_neg (by omega)]
  rw [if_neg c1]
  by_cases c2 : step > 12
  · rw [if_pos c2, t, if_neg (by omega)]
  rw [if_neg c2]
  by_cases c3 : times < 0
  · rw [if_pos c3, t, if_neg (by omega)]
  rw [if_neg c3]
  by_cases c4 : times > 600
  · rw [decide_eq_true c4, t, if_neg (by omega)]
  rw [decide_eq_false c4, if_pos (by omega)]
  simp only [lombardref06_Dates.j0, Bool.false_eq_true, if_false]
  exact rdates_l0 n step e times (by omega) (by omega) (by omega) (by omega) times.toNat k 1 [] (by omega) (by omega) (by omega) (by omega) (by simp)

/-- The same numbers. -/
theorem ints_l0 (l m : List Int) (hl : l.length = m.length) (hm : (l.length : Int) ≤ 9223372036854775807) (d : Nat) : ∀ (k : Nat) (i : Int), 0 ≤ i → i ≤ l.length → ((l.length : Int) - i).toNat = d → d < k →
    lombardref06_Ints.l0 k l m l.length i = some (decide (l.drop i.toNat = m.drop i.toNat)) := by
  induction d with
  | zero =>
    intro k i h1 h2 hd hk
    obtain ⟨k, rfl⟩ : ∃ j, k = j + 1 := ⟨k - 1, by omega⟩
    simp only [lombardref06_Ints.l0]
    rw [if_neg (by omega), List.drop_eq_nil_of_le (by omega), List.drop_eq_nil_of_le (by omega)]
    simp
  | succ d ih =>
    intro k i h1 h2 hd hk
    obtain ⟨k, rfl⟩ : ∃ j, k = j + 1 := ⟨k - 1, by omega⟩
    have hi : i.toNat < l.length := by omega
    have hi2 : i.toNat < m.length := by omega
    simp only [lombardref06_Ints.l0]
    rw [if_pos (by omega), if_pos h1, if_pos (by omega), if_pos (by omega), List.drop_eq_getElem_cons hi, List.drop_eq_getElem_cons hi2]
    have r1 : rd l i = l[i.toNat] := by
      unfold rd
      simp [List.getD_eq_getElem?_getD, hi]
    have r2 : rd m i = m[i.toNat] := by
      unfold rd
      simp [List.getD_eq_getElem?_getD, hi2]
    rw [r1, r2]
    by_cases c : l[i.toNat] = m[i.toNat]
    · rw [if_pos c, w64 (by omega) (by omega), ih k (i + 1) (by omega) (by omega) (by omega) (by omega), show (i + 1).toNat = i.toNat + 1 by omega]
      congr 1
      rw [decide_eq_decide, List.cons.injEq]
      exact ⟨fun h => ⟨c, h⟩, fun h => h.2⟩
    · rw [if_neg c]
      congr 1
      rw [eq_comm, decide_eq_false_iff_not, List.cons.injEq]
      exact fun h => c h.1
theorem ints_any (l m : List Int) (hm : (l.length : Int) ≤ 9223372036854775807) (k : Nat) (hk : l.length < k) : lombardref06_Ints.f k l m = some (decide (l = m)) := by
  unfold lombardref06_Ints.f
  by_cases c : (l.length : Int) = (m.length : Int)
  · rw [if_pos c, ints_l0 l m (by omega) hm l.length k 0 (by omega) (by omega) (by omega) hk]
    simp
  · rw [if_neg c]
    have : ¬ l = m := fun h => c (by rw [h])
    simp [this]

/-- Is a number among others? -/
theorem index_l0 (l : List Int) (x : Int) (hm : (l.length : Int) ≤ 9223372036854775807) (d : Nat) : ∀ (k : Nat) (i : Int), 0 ≤ i → i ≤ l.length → ((l.length : Int) - i).toNat = d → d < k →
    ∃ r, slices_Index_int_int.l0 k l x l.length i = some r ∧ (0 ≤ r ↔ x ∈ l.drop i.toNat) := by
  induction d with
  | zero =>
    intro k i h1 h2 hd hk
    obtain ⟨k, rfl⟩ : ∃ j, k = j + 1 := ⟨k - 1, by omega⟩
    refine ⟨-1, ?_, ?_⟩
    · simp only [slices_Index_int_int.l0]
      rw [if_neg (by omega)]
    · rw [List.drop_eq_nil_of_le (by omega)]
      simp
  | succ d ih =>
    intro k i h1 h2 hd hk
    obtain ⟨k, rfl⟩ : ∃ j, k = j + 1 := ⟨k - 1, by omega⟩
    have hi : i.toNat < l.length := by omega
    have r1 : rd l i = l[i.toNat] := by
      unfold rd
      simp [List.getD_eq_getElem?_getD, hi]
    simp only [slices_Index_int_int.l0]
    rw [if_pos (by omega), if_pos h1, if_pos (by omega), r1, List.drop_eq_getElem_cons hi]
    by_cases c : x = l[i.toNat]
    · exact ⟨i, by rw [if_pos c], fun _ => by rw [c]; exact List.mem_cons_self, fun _ => h1⟩
    · obtain ⟨r, hr, h⟩ := ih k (i + 1) (by omega) (by omega) (by omega) (by omega)
      refine ⟨r, by rw [if_neg c, w64 (by omega) (by omega)]; exact hr, ?_⟩
      rw [h, show (i + 1).toNat = i.toNat + 1 by omega, List.mem_cons]
      simp [c]
theorem contains_any (l : List Int) (x : Int) (hm : (l.length : Int) ≤ 9223372036854775807) (k : Nat) (hk : l.length < k) : slices_Contains_int_int.f k l x = some (decide (x ∈ l)) := by
  obtain ⟨r, hr, h⟩ := index_l0 l x hm l.length k 0 (by omega) (by omega) (by omega) hk
  unfold slices_Contains_int_int.f slices_Index_int_int.f
  rw [hr]
  simp only [Option.bind_some]
  congr 1
  rw [decide_eq_decide]
  simpa using h

/-- Does a day work? -/
def work (l : List Int) (n : Int) : Bool := decide ((n + 6) % 7 < 5 ∧ n ∉ l)
theorem works_any (n : Int) (l : List Int) (hm : (l.length : Int) ≤ 9223372036854775807) (k : Nat) (hk : l.length < k) : period_Works.f k n l = some (work l n) := by
  unfold period_Works.f work
  rw [weekday, contains_any l n hm k hk]
  simp only [Option.bind_some]
  by_cases c : (n + 6) % 7 < 5
  · rw [if_pos c]
    by_cases c2 : n ∈ l <;> simp [c, c2]
  · rw [if_neg c]
    simp [c]
theorem rworks_l0 (l : List Int) (x : Int) (hm : (l.length : Int) ≤ 9223372036854775807) (d : Nat) : ∀ (k : Nat) (i : Int), 0 ≤ i → i ≤ l.length → ((l.length : Int) - i).toNat = d → d < k →
    lombardref06_Works.l0 k x l l.length i = some (decide (x ∉ l.drop i.toNat)) := by
  induction d with
  | zero =>
    intro k i h1 h2 hd hk
    obtain ⟨k, rfl⟩ : ∃ j, k = j + 1 := ⟨k - 1, by omega⟩
    simp only [lombardref06_Works.l0]
    rw [if_neg (by omega), List.drop_eq_nil_of_le (by omega)]
    simp
  | succ d ih =>
    intro k i h1 h2 hd hk
    obtain ⟨k, rfl⟩ : ∃ j, k = j + 1 := ⟨k - 1, by omega⟩
    have hi : i.toNat < l.length := by omega
    have r1 : rd l i = l[i.toNat] := by
      unfold rd
      simp [List.getD_eq_getElem?_getD, hi]
    simp only [lombardref06_Works.l0]
    rw [if_pos (by omega), if_pos h1, if_pos (by omega), r1, List.drop_eq_getElem_cons hi]
    by_cases c : l[i.toNat] = x
    · rw [if_pos c]
      simp [c]
    · rw [if_neg c, w64 (by omega) (by omega), ih k (i + 1) (by omega) (by omega) (by omega) (by omega), show (i + 1).toNat = i.toNat + 1 by omega]
      congr 1
      rw [decide_eq_decide, List.mem_cons]
      exact ⟨fun h h2 => h2.elim (fun h3 => c h3.symm) h, fun h h2 => h (.inr h2)⟩
theorem rworks_any (n : Int) (l : List Int) (hm : (l.length : Int) ≤ 9223372036854775807) (k : Nat) (hk : l.length < k) : lombardref06_Works.f k n l = some (work l n) := by
  unfold lombardref06_Works.f work
  rw [DayRef.weekday]
  simp only [Option.bind_some]
  by_cases c : (n + 6) % 7 < 5
  · rw [if_neg (by omega), rworks_l0 l n hm l.length k 0 (by omega) (by omega) (by omega) hk]
    simp [c]
  · rw [if_pos (by omega)]
    simp [c]
end Go.Proofs.Ytdfaedikjfbbjaa.PerPure
end

section
namespace Go.Proofs.Ytdfaedikjfbbjaa.PerRoll
set_option linter.unusedVariables false
set_option linter.unusedSimpArgs false
open Go.RowKit Go.Proofs.Ytdfaedikjfbbjaa.S Go.Proofs.Ytdfaedikjfbbjaa.XNum Go.Proofs.Ytdfaedikjfbbjaa.Cal Go.Proofs.Ytdfaedikjfbbjaa.DayPure Go.Proofs.Ytdfaedikjfbbjaa.PerPure Go.Proofs.YtdfaedikjfbbjaaW.PrintWords Go.Proofs.YtdfaedikjfbbjaaW.PrintLast

def up (l : List Int) : Nat → Int → Option Int
  | 0, _ => none
  | d + 1, at_ => if work l at_ = true then some at_ else up l d (at_ + 1)
def dn (l : List Int) : Nat → Int → Option Int
  | 0, _ => none
  | d + 1, at_ => if work l at_ = true then some at_ else dn l d (at_ - 1)
/-- The next day that works, and the last one. -/
def next (l : List Int) (n : Int) : Option Int := up l (3652060 - n).toNat n
def prev (l : List Int) (n : Int) : Option Int := dn l n.toNat n
def res : Option Int → Int × Int
  | some m => (m, 0)
  | none => (0, 5)

theorem up_some {l : List Int} {d : Nat} : ∀ {at_ m : Int}, up l d at_ = some m → at_ ≤ m ∧ m < at_ + d ∧ work l m = true ∧ ∀ j, at_ ≤ j → j < m → work l j = false := by
  induction d with
  | zero => intro at_ m h; simp [up] at h
  | succ d ih =>
    intro at_ m h
    simp only [up] at h
    by_cases c : work l at_ = true
    · rw [if_pos c] at h
      obtain rfl := Option.some.inj h
      exact ⟨by omega, by omega, c, fun j h1 h2 => by omega⟩
    · rw [if_neg c] at h
      obtain ⟨h1, h2, h3, h4⟩ := ih h
      refine ⟨by omega, by omega, h3, fun j j1 j2 => ?_⟩
      by_cases e : j = at_
      · subst e
        exact Bool.eq_false_iff.mpr c
      · exact h4 j (by omega) j2
theorem up_none {l : List Int} {d : Nat} : ∀ {at_ : Int}, up l d at_ = none → ∀ j, at_ ≤ j → j < at_ + d → work l j = false := by
  induction d with
  | zero => intro at_ h j h1 h2; omega
  | succ d ih =>
    intro at_ h j h1 h2
    simp only [up] at h
    by_cases c : work l at_ = true
    · rw [if_pos c] at h
      cases h
    · rw [if_neg c] at h
      by_cases e : j = at_
      · subst e
        exact Bool.eq_false_iff.mpr c
      · exact ih h j (by omega) (by omega)
theorem dn_some {l : List Int} {d : Nat} : ∀ {at_ m : Int}, dn l d at_ = some m → m ≤ at_ ∧ at_ < m + d ∧ work l m = true ∧ ∀ j, m < j → j ≤ at_ → work l j = false := by
  induction d with
  | zero => intro at_ m h; simp [dn] at h
  | succ d ih =>
    intro at_ m h
    simp only [dn] at h
    by_cases c : work l at_ = true
    · rw [if_pos c] at h
      obtain rfl := Option.some.inj h
      exact ⟨by omega, by omega, c, fun j h1 h2 => by omega⟩
    · rw [if_neg c] at h
      obtain ⟨h1, h2, h3, h4⟩ := ih h
      refine ⟨by omega, by omega, h3, fun j j1 j2 => ?_⟩
      by_cases e : j = at_
      · subst e
        exact Bool.eq_false_iff.mpr c
      · exact h4 j j1 (by omega)
theorem dn_none {l : List Int} {d : Nat} : ∀ {at_ : Int}, dn l d at_ = none → ∀ j, at_ - d < j → j ≤ at_ → work l j = false := by
  induction d with
  | zero => intro at_ h j h1 h2; omega
  | succ d ih =>
    intro at_ h j h1 h2
    simp only [dn] at h
    by_cases c : work l at_ = true
    · rw [if_pos c] at h
      cases h
    · rw [if_neg c] at h
      by_cases e : j = at_
      · subst e
        exact Bool.eq_false_iff.mpr c
      · exact ih h j (by omega) (by omega)

/-- The program's search, in both directions. -/
theorem seek_up (n : Int) (l : List Int) (hm : (l.length : Int) ≤ 9223372036854775807) (d : Nat) : ∀ (k : Nat) (at_ : Int), 1 ≤ at_ → at_ ≤ 3652060 → (3652060 - at_).toNat = d → d + l.length + 20002 ≤ k →
    (up l d at_ = none → period_Roll_1.l0 k 1 at_ l = some (0, 0, 0, 0, 5)) ∧ (∀ y m dd, ok y m dd → up l d at_ = some (num y m dd) → period_Roll_1.l0 k 1 at_ l = some (y, m, dd, num y m dd, 0)) := by
  induction d with
  | zero =>
    intro k at_ h1 h2 hd hk
    obtain ⟨k, rfl⟩ : ∃ j, k = j + 1 := ⟨k - 1, by omega⟩
    refine ⟨fun _ => ?_, fun y m dd o h => by simp [up] at h⟩
    simp only [period_Roll_1.l0]
    rw [to_no (by omega) k (by omega)]
    simp
  | succ d ih =>
    intro k at_ h1 h2 hd hk
    obtain ⟨k, rfl⟩ : ∃ j, k = j + 1 := ⟨k - 1, by omega⟩
    have ih' := ih k (at_ + 1) (by omega) (by omega) (by omega) (by omega)
    obtain ⟨y0, m0, d0, o0, e0, f0⟩ := to_ok (n := at_) h1 (by omega)
    simp only [period_Roll_1.l0, up]
    rw [f0 k (by omega)]
    simp only [Option.bind_some, if_true]
    rw [works_any at_ l hm k (by omega)]
    simp only [Option.bind_some]
    rw [w64 (n := at_ + 1) (by omega) (by omega)]
    by_cases c : work l at_ = true
    · rw [if_pos c, if_pos c]
      refine ⟨(fun h => nomatch h), fun y m dd o h => ?_⟩
      obtain ⟨rfl, rfl, rfl⟩ := num_inj o0 o (by rw [e0]; exact Option.some.inj h)
      rw [e0]
    · rw [if_neg c, if_neg c]
      exact ih'
theorem seek_dn (n : Int) (l : List Int) (hm : (l.length : Int) ≤ 9223372036854775807) (d : Nat) : ∀ (k : Nat) (at_ : Int), 0 ≤ at_ → at_ ≤ 3652059 → at_.toNat = d → d + l.length + 20002 ≤ k →
    (dn l d at_ = none → period_Roll_1.l0 k (-1) at_ l = some (0, 0, 0, 0, 5)) ∧ (∀ y m dd, ok y m dd → dn l d at_ = some (num y m dd) → period_Roll_1.l0 k (-1) at_ l = some (y, m, dd, num y m dd, 0)) := by
  induction d with
  | zero =>
    intro k at_ h1 h2 hd hk
    obtain ⟨k, rfl⟩ : ∃ j, k = j + 1 := ⟨k - 1, by omega⟩
    refine ⟨fun _ => ?_, fun y m dd o h => by simp [dn] at h⟩
    simp only [period_Roll_1.l0]
    rw [to_no (by omega) k (by omega)]
    simp
  | succ d ih =>
    intro k at_ h1 h2 hd hk
    obtain ⟨k, rfl⟩ : ∃ j, k = j + 1 := ⟨k - 1, by omega⟩
    have ih' := ih k (at_ - 1) (by omega) (by omega) (by omega) (by omega)
    obtain ⟨y0, m0, d0, o0, e0, f0⟩ := to_ok (n := at_) (by omega) (by omega)
    simp only [period_Roll_1.l0, dn]
    rw [f0 k (by omega)]
    simp only [Option.bind_some, if_true]
    rw [works_any at_ l hm k (by omega)]
    simp only [Option.bind_some]
    rw [show at_ + -1 = at_ - 1 by omega, w64 (n := at_ - 1) (by omega) (by omega)]
    by_cases c : work l at_ = true
    · rw [if_pos c, if_pos c]
      refine ⟨(fun h => nomatch h), fun y m dd o h => ?_⟩
      obtain ⟨rfl, rfl, rfl⟩ := num_inj o0 o (by rw [e0]; exact Option.some.inj h)
      rw [e0]
    · rw [if_neg c, if_neg c]
      exact ih'
/-- The document's. -/
theorem rseek_up (l : List Int) (hm : (l.length : Int) ≤ 9223372036854775807) (d : Nat) : ∀ (k : Nat) (at_ : Int), 1 ≤ at_ → at_ ≤ 3652060 → (3652060 - at_).toNat = d → 2 * d + l.length + 10 ≤ k → lombardref06_seek.l0 k at_ 1 l = some ((up l d at_).getD 0) := by
  induction d with
  | zero =>
    intro k at_ h1 h2 hd hk
    obtain ⟨k, rfl⟩ : ∃ j, k = j + 2 := ⟨k - 2, by omega⟩
    simp only [lombardref06_seek.l0, lombardref06_seek.j1, up]
    rw [if_pos (by omega), if_neg (by rw [decide_eq_true_eq]; omega)]
    rfl
  | succ d ih =>
    intro k at_ h1 h2 hd hk
    obtain ⟨k, rfl⟩ : ∃ j, k = j + 2 := ⟨k - 2, by omega⟩
    have ih' := ih k (at_ + 1) (by omega) (by omega) (by omega) (by omega)
    simp only [lombardref06_seek.l0, lombardref06_seek.j1, up]
    rw [if_pos (by omega), if_pos (by rw [decide_eq_true_eq]; omega), rworks_any at_ l hm k (by omega)]
    simp only [Option.bind_some]
    rw [w64 (n := at_ + 1) (by omega) (by omega)]
    by_cases c : work l at_ = true
    · rw [if_pos c, if_pos c]
      rfl
    · rw [if_neg c, if_neg c]
      exact ih'
theorem rseek_dn (l : List Int) (hm : (l.length : Int) ≤ 9223372036854775807) (d : Nat) : ∀ (k : Nat) (at_ : Int), 0 ≤ at_ → at_ ≤ 3652059 → at_.toNat = d → 2 * d + l.length + 10 ≤ k → lombardref06_seek.l0 k at_ (-1) l = some ((dn l d at_).getD 0) := by
  induction d with
  | zero =>
    intro k at_ h1 h2 hd hk
    obtain ⟨k, rfl⟩ : ∃ j, k = j + 2 := ⟨k - 2, by omega⟩
    simp only [lombardref06_seek.l0, lombardref06_seek.j1, dn]
    rw [if_neg (by omega), if_neg (by decide)]
    rfl
  | succ d ih =>
    intro k at_ h1 h2 hd hk
    obtain ⟨k, rfl⟩ : ∃ j, k = j + 2 := ⟨k - 2, by omega⟩
    have ih' := ih k (at_ - 1) (by omega) (by omega) (by omega) (by omega)
    simp only [lombardref06_seek.l0, lombardref06_seek.j1, dn]
    rw [if_pos (by omega), if_pos (by rw [decide_eq_true_eq]; omega), rworks_any at_ l hm k (by omega)]
    simp only [Option.bind_some]
    rw [show at_ + -1 = at_ - 1 by omega, w64 (n := at_ - 1) (by omega) (by omega)]
    by_cases c : work l at_ = true
    · rw [if_pos c, if_pos c]
      rfl
    · rw [if_neg c, if_neg c]
      exact ih'

theorem next_bd {l : List Int} {n m : Int} (h1 : 1 ≤ n) (h2 : n ≤ 3652059) (h : next l n = some m) : n ≤ m ∧ m ≤ 3652059 ∧ work l m = true ∧ ∀ j, n ≤ j → j < m → work l j = false := by
  obtain ⟨a, b, c, d⟩ := up_some h
  exact ⟨a, by omega, c, d⟩
theorem prev_bd {l : List Int} {n m : Int} (h1 : 1 ≤ n) (h2 : n ≤ 3652059) (h : prev l n = some m) : 1 ≤ m ∧ m ≤ n ∧ work l m = true ∧ ∀ j, m < j → j ≤ n → work l j = false := by
  obtain ⟨a, b, c, d⟩ := dn_some h
  exact ⟨by omega, a, c, d⟩
theorem next_none {l : List Int} {n : Int} (h1 : 1 ≤ n) (h2 : n ≤ 3652059) (h : next l n = none) : ∀ j, n ≤ j → j ≤ 3652059 → work l j = false := fun j a b => up_none h j a (by omega)
theorem prev_none {l : List Int} {n : Int} (h1 : 1 ≤ n) (h2 : n ≤ 3652059) (h : prev l n = none) : ∀ j, 1 ≤ j → j ≤ n → work l j = false := fun j a b => dn_none h j (by omega) b

/-- What the search down answers, but for the date. -/
theorem down_f (n : Int) (l : List Int) (hm : (l.length : Int) ≤ 1000) (h1 : 1 ≤ n) (h2 : n ≤ 3652059) (k : Nat) (hk : 4000000 ≤ k) : ∃ a b c, period_Roll_1.f k (-1) n l = some (a, b, c, (res (prev l n)).1, (res (prev l n)).2) := by
  unfold period_Roll_1.f
  have s := seek_dn n l (by omega) n.toNat k n (by omega) (by omega) rfl (by omega)
  cases hp : prev l n with
  | none => exact ⟨0, 0, 0, s.1 hp⟩
  | some m =>
    obtain ⟨a, b, _⟩ := prev_bd h1 h2 hp
    obtain ⟨y, mo, d, o, rfl⟩ := date_of m a (by omega)
    exact ⟨y, mo, d, s.2 y mo d o hp⟩

/-- In whose place which day is taken. -/
theorem roll_f {y m d : Int} (o : ok y m d) (way : Int) (l : List Int) (hm : (l.length : Int) ≤ 1000) (k : Nat) (hk : 8000000 ≤ k) :
    period_Roll.f k (num y m d) way l = lombardref06_Roll.f k (num y m d) way l ∧
    ((l.length : Int) ≤ 600 → period_Roll.f k (num y m d) 0 l = some (num y m d, 0) ∧ period_Roll.f k (num y m d) 1 l = some (res (next l (num y m d))) ∧ period_Roll.f k (num y m d) 3 l = some (res (prev l (num y m d))) ∧
      (next l (num y m d) = none → period_Roll.f k (num y m d) 2 l = some (res (prev l (num y m d)))) ∧
      (∀ y' m' d', ok y' m' d' → next l (num y m d) = some (num y' m' d') → period_Roll.f k (num y m d) 2 l = some (if y' = y ∧ m' = m then (num y' m' d', 0) else res (prev l (num y m d))))) := by
  obtain ⟨k, rfl⟩ : ∃ j, k = j + 4 := ⟨k - 4, by omega⟩
  have r := num_range o
  have t0 := to_num o (k + 4) (by omega)
  have t1 := DayRef.to_num o (k + 4) (by omega)
  obtain ⟨a0, b0, c0, hdn⟩ := down_f (num y m d) l hm r.1 r.2 (k + 3) (by omega)
  have hup := seek_up (num y m d) l (by omega) (3652060 - num y m d).toNat (k + 3) (num y m d) (by omega) (by omega) rfl (by omega)
  have ru := rseek_up l (by omega) (3652060 - num y m d).toNat (k + 2) (num y m d) (by omega) (by omega) rfl (by omega)
  have rd_ := rseek_dn l (by omega) (num y m d).toNat (k + 2) (num y m d) (by omega) (by omega) rfl (by omega)
  have hw := rworks_any (num y m d) l (by omega) (k + 3) (by omega)
  have hj : ∀ w, period_Roll.j0 (k + 4) w true (num y m d) l y m d = some (0, 2) := by
    intro w
    simp only [period_Roll.j0, if_true]
  have rj : ∀ w, lombardref06_Roll.j0 (k + 4) (num y m d) w l true y m d = some (0, 2) := by
    intro w
    simp only [lombardref06_Roll.j0, if_true]
  -- what the program's way answers, the errors aside
  have p0 : period_Roll.j0 (k + 4) 0 false (num y m d) l y m d = some (num y m d, 0) := by simp [period_Roll.j0]
  have p3 : period_Roll.j0 (k + 4) 3 false (num y m d) l y m d = some (res (prev l (num y m d))) := by
    simp only [period_Roll.j0]
    simp [hdn]
  have p1 : period_Roll.j0 (k + 4) 1 false (num y m d) l y m d = some (res (next l (num y m d))) := by
    simp only [period_Roll.j0, period_Roll_1.f]
    cases hn : next l (num y m d) with
    | none =>
      rw [hup.1 hn]
      simp [res]
    | some q =>
      obtain ⟨a, b, _⟩ := next_bd r.1 r.2 hn
      obtain ⟨y', m', d', o', rfl⟩ := date_of q (by omega) b
      rw [hup.2 y' m' d' o' hn]
      simp [res]
  have p2n : next l (num y m d) = none → period_Roll.j0 (k + 4) 2 false (num y m d) l y m d = some (res (prev l (num y m d))) := by
    intro hn
    simp only [period_Roll.j0, hdn]
    simp only [period_Roll_1.f]
    rw [hup.1 hn]
    simp
  have p2s : ∀ y' m' d', ok y' m' d' → next l (num y m d) = some (num y' m' d') → period_Roll.j0 (k + 4) 2 false (num y m d) l y m d = some (if y' = y ∧ m' = m then (num y' m' d', 0) else res (prev l (num y m d))) := by
    intro y' m' d' o' hn
    simp only [period_Roll.j0, hdn]
    simp only [period_Roll_1.f]
    rw [hup.2 y' m' d' o' hn]
    by_cases e1 : y' = y
    · by_cases e2 : m' = m
      · simp [e1, e2]
      · simp [e1, e2]
    · simp [e1]
  -- the document's way
  have rj3 : ∀ p q : Int, lombardref06_Roll.j3 (k + 1) p q true = some (if p = 0 then (0, 5) else (p, 0)) ∧ lombardref06_Roll.j3 (k + 1) p q false = some (if q = 0 then (0, 5) else (q, 0)) := by
    intro p q
    constructor
    · simp only [lombardref06_Roll.j3, if_true]
      split <;> rfl
    · simp only [lombardref06_Roll.j3, Bool.false_eq_true, if_false]
      split <;> rfl
  have rp : (if (prev l (num y m d)).getD 0 = 0 then ((0, 5) : Int × Int) else ((prev l (num y m d)).getD 0, 0)) = res (prev l (num y m d)) := by
    cases hp : prev l (num y m d) with
    | none => simp [res]
    | some q =>
      obtain ⟨a, _⟩ := prev_bd r.1 r.2 hp
      simp [res]
      omega
  have rn : (if (next l (num y m d)).getD 0 = 0 then ((0, 5) : Int × Int) else ((next l (num y m d)).getD 0, 0)) = res (next l (num y m d)) := by
    cases hp : next l (num y m d) with
    | none => simp [res]
    | some q =>
      obtain ⟨a, _⟩ := next_bd r.1 r.2 hp
      simp [res]
      omega
  have hwn : work l (num y m d) = true → next l (num y m d) = some (num y m d) ∧ prev l (num y m d) = some (num y m d) := by
    intro h
    constructor
    · unfold next
      obtain ⟨z, hz⟩ : ∃ z, (3652060 - num y m d).toNat = z + 1 := ⟨(3652060 - num y m d).toNat - 1, by omega⟩
      rw [hz]
      simp only [up]
      rw [if_pos h]
    · unfold prev
      obtain ⟨z, hz⟩ : ∃ z, (num y m d).toNat = z + 1 := ⟨(num y m d).toNat - 1, by omega⟩
      rw [hz]
      simp only [dn]
      rw [if_pos h]
  have q0 : lombardref06_Roll.j0 (k + 4) (num y m d) 0 l false y m d = some (num y m d, 0) := by
    simp [lombardref06_Roll.j0, lombardref06_Roll.j1]
  have qw : ∀ w, w = 1 ∨ w = 2 ∨ w = 3 → lombardref06_Roll.j0 (k + 4) (num y m d) w l false y m d = period_Roll.j0 (k + 4) w false (num y m d) l y m d := by
    intro w hw3
    by_cases c : work l (num y m d) = true
    · have hh := hwn c
      have e1 : lombardref06_Roll.j0 (k + 4) (num y m d) w l false y m d = some (num y m d, 0) := by
        simp only [lombardref06_Roll.j0, lombardref06_Roll.j1, hw, c]
        have : ¬ w = 0 := by omega
        simp [this]
      rw [e1]
      rcases hw3 with rfl | rfl | rfl
      · rw [p1, hh.1]
        rfl
      · rw [p2s y m d o hh.1]
        simp
      · rw [p3, hh.2]
        rfl
    · have c' : work l (num y m d) = false := Bool.eq_false_iff.mpr c
      have e1 : lombardref06_Roll.j0 (k + 4) (num y m d) w l false y m d = lombardref06_Roll.j2 (k + 2) w ((next l (num y m d)).getD 0) ((prev l (num y m d)).getD 0) (if w = 3 then (prev l (num y m d)).getD 0 else (next l (num y m d)).getD 0) y m d := by
        have : ¬ w = 0 := by omega
        simp only [lombardref06_Roll.j0, lombardref06_Roll.j1, hw, c', Bool.false_eq_true, if_false, this, Option.bind_some, lombardref06_seek.f, ru, rd_, next, prev]
        by_cases w3 : w = 3 <;> simp [w3]
      rw [e1]
      rcases hw3 with rfl | rfl | rfl
      · rw [p1]
        simp only [lombardref06_Roll.j2, show ¬ ((1 : Int) = 3) by decide, show ¬ ((1 : Int) = 2) by decide, if_false]
        rw [← rn]
        split <;> rfl
      · simp only [lombardref06_Roll.j2, show ¬ ((2 : Int) = 3) by decide, if_false, if_true]
        cases hn : next l (num y m d) with
        | none =>
          rw [p2n hn, ← rp]
          simp only [Option.getD_none]
          rw [DayRef.to_no (n := 0) (by omega) (k + 1) (by omega)]
          simp only [Option.bind_some, if_true]
          exact (rj3 _ _).1
        | some q =>
          obtain ⟨a, b, _⟩ := next_bd r.1 r.2 hn
          obtain ⟨y', m', d', o', rfl⟩ := date_of q (by omega) b
          rw [p2s y' m' d' o' hn, ← rp]
          simp only [Option.getD_some]
          rw [DayRef.to_num o' (k + 1) (by omega)]
          simp only [Option.bind_some]
          rw [if_neg (by omega)]
          by_cases e2 : m' = m
          · rw [if_pos e2]
            by_cases e1 : y' = y
            · have hb : (y' != y) = false := by simp [e1]
              rw [hb, (rj3 _ _).2, if_neg (by omega), if_pos ⟨e1, e2⟩]
            · have hb : (y' != y) = true := by simp [e1]
              rw [hb, (rj3 _ _).1, if_neg (c := y' = y ∧ m' = m) (fun h => e1 h.1)]
          · rw [if_neg e2, (rj3 _ _).1, if_neg (c := y' = y ∧ m' = m) (fun h => e2 h.2)]
      · rw [p3]
        simp only [lombardref06_Roll.j2, show ¬ ((3 : Int) = 2) by decide, if_false, if_true]
        rw [← rp]
        split <;> rfl
  have pf : ∀ w, period_Roll.f (k + 4) (num y m d) w l = if w < 0 ∨ w > 3 ∨ (l.length : Int) > 600 then some (0, 2) else period_Roll.j0 (k + 4) w false (num y m d) l y m d := by
    intro w
    unfold period_Roll.f
    rw [t0]
    simp only [Option.bind_some, if_true]
    by_cases c1 : w < 0
    · rw [if_pos c1, if_pos (.inl c1), hj]
    · rw [if_neg c1]
      by_cases c2 : w > 3
      · rw [if_pos c2, if_pos (.inr (.inl c2)), hj]
      · rw [if_neg c2]
        by_cases c3 : (l.length : Int) > 600
        · rw [decide_eq_true c3, if_pos (.inr (.inr c3)), hj]
        · rw [decide_eq_false c3, if_neg (by omega)]
  have qf : ∀ w, lombardref06_Roll.f (k + 4) (num y m d) w l = if w < 0 ∨ w > 3 ∨ (l.length : Int) > 600 then some (0, 2) else lombardref06_Roll.j0 (k + 4) (num y m d) w l false y m d := by
    intro w
    unfold lombardref06_Roll.f
    rw [t1]
    simp only [Option.bind_some, if_true]
    by_cases c1 : w < 0
    · rw [if_pos c1, if_pos (.inl c1), rj]
    · rw [if_neg c1]
      by_cases c2 : w > 3
      · rw [if_pos c2, if_pos (.inr (.inl c2)), rj]
      · rw [if_neg c2]
        by_cases c3 : (l.length : Int) > 600
        · rw [decide_eq_true c3, if_pos (.inr (.inr c3)), rj]
        · rw [decide_eq_false c3, if_neg (by omega)]
  constructor
  · rw [pf, qf]
    split
    · rfl
    · by_cases w0 : way = 0
      · subst w0
        rw [p0, q0]
      · exact (qw way (by omega)).symm
  · intro h6
    refine ⟨?_, ?_, ?_, ?_, ?_⟩
    · rw [pf, if_neg (by omega), p0]
    · rw [pf, if_neg (by omega), p1]
    · rw [pf, if_neg (by omega), p3]
    · intro hn
      rw [pf, if_neg (by omega), p2n hn]
    · intro y' m' d' o' hn
      rw [pf, if_neg (by omega), p2s y' m' d' o' hn]

theorem roll_no {n : Int} (h : n < 1 ∨ 3652059 < n) (way : Int) (l : List Int) (k : Nat) (hk : 1 ≤ k) : period_Roll.f k n way l = some (0, 5) ∧ lombardref06_Roll.f k n way l = some (0, 5) := by
  unfold period_Roll.f lombardref06_Roll.f
  rw [to_no h k hk, DayRef.to_no h k hk]
  simp
end Go.Proofs.Ytdfaedikjfbbjaa.PerRoll
end

section
namespace Go.Proofs.Ytdfaedikjfbbjaa.PerLaws
set_option linter.unusedVariables false
set_option linter.unusedSimpArgs false
open Go.RowKit Go.Proofs.Ytdfaedikjfbbjaa.S Go.Proofs.Ytdfaedikjfbbjaa.XNum Go.Proofs.Ytdfaedikjfbbjaa.Cal Go.Proofs.Ytdfaedikjfbbjaa.DayPure Go.Proofs.Ytdfaedikjfbbjaa.PerPure Go.Proofs.Ytdfaedikjfbbjaa.PerRoll Go.Proofs.YtdfaedikjfbbjaaW.PrintWords Go.Proofs.YtdfaedikjfbbjaaW.PrintLast

theorem on_ok {y m d : Int} (h : ok y m d) (k : Nat) (hk : 20000 ≤ k) : lombardlaw06_on.f k y m d = some (num y m d) := by
  unfold lombardlaw06_on.f
  rw [from_ok h k (by omega)]
  rfl

theorem alive (k : Nat) (hk : 8000000 ≤ k) : lombardlaw06_alive.f k = some true := by
  have o1 : ok 2020 1 31 := by decide
  have o2 : ok 2020 2 29 := by decide
  have o3 : ok 2020 3 2 := by decide
  have n2 : num 2020 2 29 = 737484 := by decide
  have m1 : monthsAll 2020 1 31 1 false = (737484, 0) := by decide
  have m2 : monthsAll 2020 2 29 1 true = (737515, 0) := by decide
  have hnx : next [] 737484 = some 737486 := by
    unfold next
    have e : ((3652060 : Int) - 737484).toNat = 2914573 + 3 := by decide
    have h : ∀ z, PerRoll.up [] (z + 3) 737484 = some 737486 := by
      intro z
      simp [PerRoll.up, work]
    rw [e]
    exact h _
  have hpv : prev [] 737484 = some 737483 := by
    unfold prev
    have e : (737484 : Int).toNat = 737482 + 2 := by decide
    have h : ∀ z, PerRoll.dn [] (z + 2) 737484 = some 737483 := by
      intro z
      simp [PerRoll.dn, work]
    rw [e]
    exact h _
  have rr := (roll_f o2 0 [] (by simp) k hk).2 (by simp)
  have n3 : num 2020 3 2 = 737486 := by decide
  have r2 := rr.2.2.2.2 2020 3 2 o3 (by rw [n2, n3]; exact hnx)
  have r1 := rr.2.1
  rw [n2, hnx] at r1
  rw [n2, hpv] at r2
  unfold lombardlaw06_alive.f
  rw [on_ok o1 k (by omega), on_ok o2 k (by omega)]
  simp only [Option.bind_some]
  rw [months_f o1 1 false k (by omega), months_f o2 1 true k (by omega), m1, m2, n2]
  simp only [Option.bind_some]
  rw [r1, r2]
  simp [res]
end Go.Proofs.Ytdfaedikjfbbjaa.PerLaws
end

section
namespace Go.Proofs.Ytdfaedikjfbbjaa.Pure
set_option linter.unusedVariables false
set_option linter.unusedSimpArgs false
open Go.RowKit Go.Proofs.Ytdfaedikjfbbjaa.S Go.Proofs.Ytdfaedikjfbbjaa.XNum Go.Proofs.Ytdfaedikjfbbjaa.Cal Go.Proofs.Ytdfaedikjfbbjaa.DayPure Go.Proofs.Ytdfaedikjfbbjaa.PerPure Go.Proofs.YtdfaedikjfbbjaaW.PrintWords Go.Proofs.YtdfaedikjfbbjaaW.PrintLast

theorem row_len (g : Int → Int × Int) (r : Nat) : ∀ (i : Int) (acc : List Int), (row g r i acc).1.length ≤ acc.length + r := by
  induction r with
  | zero => intro i acc; simp [row]
  | succ r ih =>
    intro i acc
    simp only [row]
    split
    · have := ih (i + 1) (acc ++ [(g i).1])
      simp at this
      omega
    · simp
theorem rowOf_len (n step times : Int) (e : Bool) : (rowOf n step times e).1.length ≤ 600 := by
  unfold rowOf
  split
  · have := row_len (fun j => mon n (j * step) e) times.toNat 1 []
    simp at this
    omega
  · simp

theorem PeriodMonths : lombardlaw06_PeriodMonths.Pure := by
  intro n months step times e _ _ _ _
  refine ⟨9000000, ?_⟩
  have hl := rowOf_len n step times e
  unfold lombardlaw06_PeriodMonths.f
  rw [PerLaws.alive 9000000 (by omega)]
  simp only [Option.bind_some, if_true, months_any n months e 9000000 (by omega), rmonths_any n months e 9000000 (by omega), dates_any n step times e 9000000 (by omega), rdates_any n step times e 9000000 (by omega)]
  rw [ints_any _ _ (by omega) 9000000 (by omega)]
  simp
end Go.Proofs.Ytdfaedikjfbbjaa.Pure
end

section
namespace Go.Proofs.Ytdfaedikjfbbjaa.XOpen
set_option linter.unusedVariables false
set_option linter.unusedSimpArgs false
open Go.ChangeShapes Go.WideShapes Go.RowKit Go.Proofs.YtdfaedikjfbbjaaW.PrintWords
section
variable {H : Type} {enc : TypeId × Value → H} {P : Program} {w : World} {base : Nat} {spare : Nat → Bool} {held : Bool}

/-- Whatever reads as data of type t holds a value of the kind d, and it is good. -/
def Opens {α : Type} (enc : TypeId × Value → H) (P : Program) (w : World) (base : Nat) (spare : Nat → Bool) (held : Bool) (t : TypeId) (d : Kd α) (g : α → Prop) : Prop :=
  ∀ fuel cs x, DataW.trod enc P w base spare held fuel t cs = some x → ∃ a, d.K w a cs ∧ g a

theorem opens_int {t : TypeId} {k : IntKind} (ht : P.underlying t = some (.int k)) : Opens enc P w base spare held t (Kd.int k) (fun a => (Lit.int k a).wf = true) := by
  intro fuel cs x h
  obtain ⟨n, rfl, _, hw⟩ := DataW.trod_int ht h
  exact ⟨n, rfl, hw⟩

theorem opens_bool {t : TypeId} (ht : P.underlying t = some .bool) : Opens enc P w base spare held t Kd.bool (fun _ => True) := by
  intro fuel cs x h
  obtain ⟨n, rfl, _⟩ := DataW.trod_bool ht h
  exact ⟨n, rfl, trivial⟩

theorem opens_string {t : TypeId} (ht : P.underlying t = some .string) : Opens enc P w base spare held t Kd.string (fun s => s.size ≤ maxLen) := by
  intro fuel cs x h
  obtain ⟨s, rfl, _, hs⟩ := DataW.trod_string ht h
  exact ⟨s, rfl, hs⟩

theorem choose_list {α : Type} (n : Nat) (p : Nat → α → Prop) (h : ∀ i, i < n → ∃ a, p i a) : ∃ l : List α, l.length = n ∧ ∀ i a, l[i]? = some a → p i a := by
  induction n with
  | zero => exact ⟨[], rfl, fun i a hi => by simp at hi⟩
  | succ n ih =>
    obtain ⟨l, hl, hp⟩ := ih (fun i hi => h i (by omega))
    obtain ⟨a, ha⟩ := h n (by omega)
    refine ⟨l ++ [a], by simp [hl], fun i b hi => ?_⟩
    by_cases hin : i < n
    · rw [List.getElem?_append_left (by omega)] at hi
      exact hp i b hi
    · by_cases e : i = n
      · subst e
        rw [List.getElem?_append_right (by omega), hl] at hi
        simp at hi
        subst hi
        exact ha
      · rw [List.getElem?_append_right (by omega), hl, List.getElem?_eq_none (by simp; omega)] at hi
        cases hi

theorem opens_slice {α : Type} {t e : TypeId} {d : Kd α} {g : α → Prop} (ht : P.underlying t = some (.slice e)) (hc : P.cellsOf e = d.sz) (he : Opens enc P w base spare held e d g) :
    Opens enc P w base spare held t (Kd.slice e d) (fun l => l.length ≤ maxLen ∧ ∀ a ∈ l, g a) := by
  intro fuel cs x h
  rcases DataW.trod_slice ht h with ⟨rfl, _⟩ | ⟨a, len, cap, elems, rest, n, _, rfl, _, _, hl, hm, hlen, hel, _⟩
  · exact ⟨[], ⟨none, 0, rfl, Nat.le_refl _, rfl, Nat.zero_le _, fun h0 => absurd h0 (Nat.lt_irrefl 0)⟩, Nat.zero_le _, fun a ha => absurd ha List.not_mem_nil⟩
  · have hp : ∀ i, i < len → ∃ q : α, (∃ c : List Value, c.length = d.sz ∧ d.K w q c ∧ ∀ j u, c[j]? = some u → w.cell? (a.add (i * d.sz + j)) = some u) ∧ g q := by
      intro i hi
      have h1 := hel i hi
      have hi' : i < elems.length := by omega
      rw [List.getElem?_eq_getElem hi', Option.bind_eq_some_iff] at h1
      obtain ⟨c, hcs, hy⟩ := h1
      obtain ⟨q, hk, hg⟩ := he _ _ _ hy
      obtain ⟨_, hcl, hat⟩ := World.cells?_some hcs
      refine ⟨q, ⟨c, hcl.trans hc, hk, fun j u hu => ?_⟩, hg⟩
      have hj : j < P.cellsOf e := by
        have := (List.getElem?_eq_some_iff.1 hu).1
        omega
      have h2 := hat j hj
      rw [hu, hc] at h2
      have h3 : (a.add (i * d.sz)).add j = a.add (i * d.sz + j) := by
        exact Go.Deep.add_add a (i * d.sz) j
      rw [h3] at h2
      exact h2
    obtain ⟨l, hll, hall⟩ := choose_list len _ hp
    subst hll
    refine ⟨l, ⟨some a, cap, rfl, hl, ?_⟩, Nat.le_trans hl hm, fun q hq => ?_⟩
    · refine ⟨rfl, ?_, fun _ => ⟨a, rfl, fun j p hj => (hall j p hj).1⟩⟩
      have := Nat.le_trans hl hm
      unfold maxLen at this
      exact this
    · obtain ⟨i, hi⟩ := List.getElem?_of_mem hq
      exact (hall i q hi).2

/-- A field: its cells are those that stand at its place. -/
theorem field_of {α : Type} {t : TypeId} {fs : Array Field} {d : Kd α} {g : α → Prop} {fuel : Nat} {cs : List Value} {x : DataW H × List MemPlace} (ht : P.underlying t = some (.struct fs)) (h : DataW.trod enc P w base spare held fuel t cs = some x)
    (i : Nat) (f : Field) (hf : fs[i]? = some f) (ho : Opens enc P w base spare held f.type d g) (off sz : Nat) (h0 : f.offset = off) (h1 : P.cellsOf f.type = sz) : ∃ a, d.K w a ((cs.drop off).take sz) ∧ g a := by
  subst h0 h1
  obtain ⟨xs, n, _, _, _, hl, hat⟩ := DataW.trod_struct ht h
  have hi : i < xs.length := by
    rw [hl]
    exact (Array.getElem?_eq_some_iff.1 hf).1
  have h2 := hat i f hf
  rw [List.getElem?_eq_getElem hi] at h2
  exact ho _ _ _ h2

theorem cells_len {t : TypeId} {fs : Array Field} {fuel : Nat} {cs : List Value} {x : DataW H × List MemPlace} (ht : P.underlying t = some (.struct fs)) (h : DataW.trod enc P w base spare held fuel t cs = some x) : cs.length = P.cellsOf t := by
  obtain ⟨xs, n, _, _, hl, _⟩ := DataW.trod_struct ht h
  exact hl

theorem K_pair {α β : Type} {a : Kd α} {b : Kd β} {x : α} {y : β} {cs : List Value} (n : Nat) (h0 : a.K w x (cs.take n)) (h1 : b.K w y (cs.drop n)) : (Kd.pair a b).K w (x, y) cs :=
  ⟨cs.take n, cs.drop n, (List.take_append_drop n cs).symm, h0, h1⟩

theorem drop_drop' (cs : List Value) (m n : Nat) : (cs.drop m).drop n = cs.drop (m + n) := List.drop_drop

theorem K_pair' {α β : Type} {a : Kd α} {b : Kd β} {x : α} {y : β} {cs : List Value} (off n : Nat) (h0 : a.K w x ((cs.drop off).take n)) (h1 : b.K w y (cs.drop (off + n))) : (Kd.pair a b).K w (x, y) (cs.drop off) :=
  K_pair n h0 (by rw [drop_drop']; exact h1)

theorem K_last {α : Type} {a : Kd α} {x : α} {cs : List Value} (off n : Nat) (h0 : a.K w x ((cs.drop off).take n)) (hl : cs.length ≤ off + n) : a.K w x (cs.drop off) := by
  rw [List.take_of_length_le (by rw [List.length_drop]; omega)] at h0
  exact h0

theorem K_all {α : Type} {a : Kd α} {x : α} {cs : List Value} (h0 : a.K w x (cs.drop 0)) : a.K w x cs := h0

theorem okWide_agg {r : Reach} {t : TypeId} {fs : Array Field} {v : Value} (ht : P.underlying t = some (.struct fs)) (h : Value.okWide P w r base t v) : ∃ cs, v = .agg cs := by
  obtain ⟨cs, h, _⟩ := okWide_struct ht h
  exact ⟨cs, h⟩

theorem agg_of {cs : Array Value} {l : List Value} (h : (Value.agg cs).cells.toList = l) : cs = l.toArray := by
  subst h
  simp [Value.cells]

theorem slice_of {a : Option Addr} {len cap : Nat} {A : Option Addr} {n c : Nat} (h : (Value.slice a len cap).cells.toList = [.slice A n c]) : a = A ∧ len = n ∧ cap = c := by
  simpa [Value.cells] using h
end
end Go.Proofs.Ytdfaedikjfbbjaa.XOpen
end

section
namespace Go.Proofs.Ytdfaedikjfbbjaa.periodMonths
open Go.ChangeShapes Go.WideShapes Go.ChangeAt Go.RowKit Go.Proofs.Ytdfaedikjfbbjaa.S Go.Proofs.YtdfaedikjfbbjaaW.PrintWords Go.Proofs.Ytdfaedikjfbbjaa.XOpen
open Go.ChangeMaps (open_string shut_string)
set_option linter.unusedVariables false
theorem own : ownKnob Try.prog.godebug = none := by kernel_rfl
theorem laidOut : laidOutB Try.prog = true := by kernel_rfl
theorem opens_S48 {H : Type} {enc : TypeId × Value → H} {w : World} {base : Nat} {spare : Nat → Bool} {held : Bool} : Opens enc Try.prog w base spare held 48 k48 (fun a => ((Lit.int .i64 a.f0).wf = true ∧ (Lit.int .i64 a.f1).wf = true ∧ (Lit.int .i64 a.f2).wf = true ∧ (Lit.int .i64 a.f3).wf = true ∧ True)) := by
  intro fuel cs x h
  have hl : cs.length = 5 := (cells_len Try.underlying48 h).trans (by kernel_rfl)
  obtain ⟨a0, h0, g0⟩ := field_of Try.underlying48 h 0 _ rfl (opens_int Try.underlying3) 0 1 rfl (by kernel_rfl)
  obtain ⟨a1, h1, g1⟩ := field_of Try.underlying48 h 1 _ rfl (opens_int Try.underlying3) 1 1 rfl (by kernel_rfl)
  obtain ⟨a2, h2, g2⟩ := field_of Try.underlying48 h 2 _ rfl (opens_int Try.underlying3) 2 1 rfl (by kernel_rfl)
  obtain ⟨a3, h3, g3⟩ := field_of Try.underlying48 h 3 _ rfl (opens_int Try.underlying3) 3 1 rfl (by kernel_rfl)
  obtain ⟨a4, h4, g4⟩ := field_of Try.underlying48 h 4 _ rfl (opens_bool Try.underlying4) 4 1 rfl (by kernel_rfl)
  refine ⟨⟨a0, a1, a2, a3, a4⟩, ?_, ⟨g0, g1, g2, g3, g4⟩⟩
  exact K_all (K_pair' 0 1 h0 (K_pair' 1 1 h1 (K_pair' 2 1 h2 (K_pair' 3 1 h3 (K_last 4 1 h4 (by omega))))))
set_option maxRecDepth 100000 in
theorem lifted (os : Os) (started : os.Started) (H : Type) (enc : TypeId × Value → H) :
    ReturnsInHanded {} Try.checked os 11 .any (Rows.periodMonthsSpec.pre6 enc Try.prog Try.f11 Rows.periodMonthsRow.domain false) (Rows.periodMonthsSpec.post enc Try.prog Try.f11 false true false false) := by
  refine returnsInHanded_of_change_sized (C := Try.checked) own started (by kernel_rfl) Try.func11
    (ChangeSpec.witness6 (enc := enc) (C := Try.checked) false ⟨#[], #[.agg #[.int .i64 0, .int .i64 0, .int .i64 0, .int .i64 0, .bool false]], []⟩ 8 (by kernel_rfl) (by kernel_rfl) (by kernel_rfl) (by kernel_rfl)) ?_
  intro W base args ds gs before hval0 hW hcnd hsz0 _
  have hval : ∀ (j : Nat) t v, Try.f11.params[j]? = some t → args[j]? = some v → Value.okWide Try.prog W .any base t v := hval0
  have hW' := hW
  obtain ⟨p, q, hA0, hV, rfl, hfz, hnd⟩ := hW
  have hA : DataW.TrodAll enc Try.prog W 0 (fun _ => true) true Try.f11.params.toList args.toList ds p := hA0
  rw [Try.params11] at hA hval
  obtain ⟨v0, vs0, d0, ds0, p0, q0, hargs, rfl, rfl, h0, r0⟩ := trodAll_cons hA
  obtain ⟨rfl, rfl, rfl⟩ := trodAll_nil r0
  obtain rfl : args = #[v0] := by cases args; simp_all
  obtain ⟨rfl, rfl⟩ := trodVars_none hV
  clear hA0 hsz0
  have k0 := h0
  have lt0 : ∀ x ∈ p0, x.block < W.heap.size := by obtain ⟨m, hm⟩ := k0; exact DataW.trod_lt m _ _ _ hm
  obtain ⟨u0, hf0⟩ := h0
  obtain ⟨s0, hk0, hg0⟩ := opens_S48 _ _ _ hf0
  have he0 := k48_open hk0
  obtain ⟨b0, rfl⟩ := okWide_agg Try.underlying48 (hval 0 48 v0 rfl rfl)
  obtain rfl := agg_of he0
  refine (S.lombardlaw06_PeriodMonths.walk Pure.PeriodMonths s0.f0 s0.f1 s0.f2 s0.f3 s0.f4 W  hg0.1 hg0.2.1 hg0.2.2.1 hg0.2.2.2.1).mono fun e W' ⟨he, bel⟩ => ?_
  subst he
  exact ⟨_, rfl, _, _, _, [], _, [], hW', trodAll_mk1 (shut_bool Try.underlying4 _), (trodAll_cons_mk (Below.trod laidOut (by kernel_rfl) (of_decide_eq_true (by kernel_rfl)) k0 bel lt0) trodAll_mk0), rfl, bel.frame _, fun h => by cases h⟩
theorem over : Rows.periodMonthsRow.holds Try.pinned (OpenSpec.ofChange Rows.periodMonthsSpec) :=
  OpenClaim.holds_of_wide 11 Try.f11 rfl rfl rfl rfl rfl rfl rfl ⟨rfl, rfl, rfl, rfl, rfl⟩ rfl rfl rfl rfl rfl (by kernel_rfl) Try.func11 (by kernel_rfl)
    (of_decide_eq_true (by kernel_rfl)) (by unfold Func.isWrapper; first | (rw [if_pos (by decide +kernel)]; kernel_rfl) | (rw [if_neg (by decide +kernel)]; exact ⟨rfl, rfl⟩))
    (fun os started H enc _ => lifted os started H enc)
theorem proved : Rows.PeriodMonthsSaid := over
#print axioms proved
end Go.Proofs.Ytdfaedikjfbbjaa.periodMonths
namespace Go.Proofs.Ytdfaedikjfbbjaa
/-- The row, under a short name, for the claim. -/
theorem periodMonths_holds : Rows.PeriodMonthsSaid := periodMonths.proved
end Go.Proofs.Ytdfaedikjfbbjaa
end
