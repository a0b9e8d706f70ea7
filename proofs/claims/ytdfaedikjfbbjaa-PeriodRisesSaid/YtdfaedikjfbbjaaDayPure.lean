/-
  What the program's day functions compute, in the calendar's words.
  Conditions: none beyond those of each law.
-/
import Derived.Test.YtdfaedikjfbbjaaCal
import Derived.Test.YtdfaedikjfbbjaaXNum
import Derived.Test.YtdfaedikjfbbjaaSxDayTo
import Derived.Test.YtdfaedikjfbbjaaSxDayFrom
import Derived.Test.YtdfaedikjfbbjaaSxDayWeekday
namespace Go.Proofs.Ytdfaedikjfbbjaa.DayPure
set_option linter.unusedVariables false
set_option linter.unusedSimpArgs false
open Go.RowKit Go.Proofs.Ytdfaedikjfbbjaa.S Go.Proofs.Ytdfaedikjfbbjaa.XNum Go.Proofs.Ytdfaedikjfbbjaa.Cal Go.Proofs.YtdfaedikjfbbjaaW.PrintWords Go.Proofs.YtdfaedikjfbbjaaW.PrintLast

theorem leap (y : Int) : day_Leap.f y = some (decide (lp y = 1)) := by
  have z4 : Int.tmod y 4 = 0 ↔ y % 4 = 0 := tm_zero
  have z100 : Int.tmod y 100 = 0 ↔ y % 100 = 0 := tm_zero
  have z400 : (Int.tmod y 400 == 0) = decide (y % 400 = 0) := by
    rw [Bool.eq_iff_iff]
    simp only [beq_iff_eq, decide_eq_true_eq]
    exact tm_zero
  unfold day_Leap.f lp
  rw [z400]
  by_cases h1 : y % 4 = 0
  · rw [if_pos (z4.2 h1)]
    by_cases h2 : y % 100 = 0
    · rw [if_pos (z100.2 h2)]
      by_cases h3 : y % 400 = 0 <;> simp [h1, h2, h3]
    · rw [if_neg (mt z100.1 h2)]
      simp [h1, h2]
  · rw [if_neg (mt z4.1 h1)]
    simp [h1]

/-- How many days a month has; 0 of none. -/
def last (y m : Int) : Int := if 1 ≤ y ∧ y ≤ 9999 ∧ 1 ≤ m ∧ m ≤ 12 then dim y m else 0

theorem last_k (k : Nat) (y m : Int) : day_Last.f (k + 2) y m = some (last y m) := by
  have hl := lp_01 y
  have j1 : ∀ b, day_Last.j1 (k + 1) y m b = if b = true then some 30 else if m = 2 then some (28 + lp y) else some 31 := by
    intro b
    simp only [day_Last.j1, leap, Option.bind_some]
    split
    · rfl
    · split
      · by_cases h : lp y = 1
        · simp [h]
        · have : lp y = 0 := by omega
          simp [this]
      · rfl
  have j0t : day_Last.j0 (k + 2) y m true = some 0 := by simp only [day_Last.j0, if_true]
  have j0f : day_Last.j0 (k + 2) y m false = some (dim y m) := by
    simp only [day_Last.j0, j1, dim]
    simp only [Bool.false_eq_true, if_false, beq_iff_eq]
    repeat' split
    all_goals (first | rfl | omega | (simp_all; done) | (exfalso; simp_all; done) | simp_all)
  unfold day_Last.f last
  by_cases h1 : y < 1
  · rw [if_pos h1, j0t, if_neg (by omega)]
  · rw [if_neg h1]
    by_cases h2 : y > 9999
    · rw [if_pos h2, j0t, if_neg (by omega)]
    · rw [if_neg h2]
      by_cases h3 : m < 1
      · rw [if_pos h3, j0t, if_neg (by omega)]
      · rw [if_neg h3]
        by_cases h4 : m > 12
        · rw [decide_eq_true h4, j0t, if_neg (by omega)]
        · rw [decide_eq_false h4, j0f, if_pos (by omega)]

theorem last_ev (y m : Int) (k : Nat) (hk : 2 ≤ k) : day_Last.f k y m = some (last y m) := by
  obtain ⟨n, rfl⟩ : ∃ n, k = n + 2 := ⟨k - 2, by omega⟩
  exact last_k n y m

theorem number_ok (y m d : Int) (h1 : 1 ≤ y) (h2 : y ≤ 10000) (h3 : 1 ≤ m) (h4 : m ≤ 13) (h5 : -5000000 ≤ d) (h6 : d ≤ 5000000) : day_number.f y m d = some (num y m d) := by
  have l := lp_eq y
  unfold day_number.f num yd mo
  rw [w64 (n := m - 3) (by omega) (by omega)]
  by_cases c : m - 3 < 0
  · rw [if_pos c, if_pos (by omega)]
    rw [w64 (n := y - 1) (by omega) (by omega), td_nn (by omega), td_nn (by omega), td_nn (by omega), w64 (n := m - 3 + 12) (by omega) (by omega), w64 (n := (m - 3 + 12) * 153) (by omega) (by omega),
      w64 (n := (m - 3 + 12) * 153 + 2) (by omega) (by omega), td_nn (by omega)]
    rw [w64 (n := (y - 1) * 365) (by omega) (by omega), w64 (n := (y - 1) / 4) (by omega) (by omega), w64 (n := (y - 1) / 100) (by omega) (by omega), w64 (n := (y - 1) / 400) (by omega) (by omega),
      w64 (n := ((m - 3 + 12) * 153 + 2) / 5) (by omega) (by omega)]
    rw [w64 (n := (y - 1) * 365 + (y - 1) / 4) (by omega) (by omega), w64 (n := (y - 1) * 365 + (y - 1) / 4 - (y - 1) / 100) (by omega) (by omega), w64 (n := (y - 1) * 365 + (y - 1) / 4 - (y - 1) / 100 + (y - 1) / 400) (by omega) (by omega)]
    rw [w64 (n := (y - 1) * 365 + (y - 1) / 4 - (y - 1) / 100 + (y - 1) / 400 + ((m - 3 + 12) * 153 + 2) / 5) (by omega) (by omega)]
    rw [w64 (n := (y - 1) * 365 + (y - 1) / 4 - (y - 1) / 100 + (y - 1) / 400 + ((m - 3 + 12) * 153 + 2) / 5 + d) (by omega) (by omega), w64 (by omega) (by omega)]
    congr 1
    omega
  · rw [if_neg c, if_neg (by omega)]
    rw [td_nn (by omega), td_nn (by omega), td_nn (by omega), w64 (n := (m - 3) * 153) (by omega) (by omega),
      w64 (n := (m - 3) * 153 + 2) (by omega) (by omega), td_nn (by omega)]
    rw [w64 (n := y * 365) (by omega) (by omega), w64 (n := y / 4) (by omega) (by omega), w64 (n := y / 100) (by omega) (by omega), w64 (n := y / 400) (by omega) (by omega),
      w64 (n := ((m - 3) * 153 + 2) / 5) (by omega) (by omega)]
    rw [w64 (n := y * 365 + y / 4) (by omega) (by omega), w64 (n := y * 365 + y / 4 - y / 100) (by omega) (by omega), w64 (n := y * 365 + y / 4 - y / 100 + y / 400) (by omega) (by omega)]
    rw [w64 (n := y * 365 + y / 4 - y / 100 + y / 400 + ((m - 3) * 153 + 2) / 5) (by omega) (by omega)]
    rw [w64 (n := y * 365 + y / 4 - y / 100 + y / 400 + ((m - 3) * 153 + 2) / 5 + d) (by omega) (by omega), w64 (by omega) (by omega)]
    congr 1
    omega

theorem ok_last {y m d : Int} : ok y m d ↔ 1 ≤ d ∧ d ≤ last y m := by
  have := dim_bd y m
  unfold ok last
  split <;> omega

theorem from_ok {y m d : Int} (h : ok y m d) (k : Nat) (hk : 2 ≤ k) : day_From.f k y m d = some (num y m d, 0) := by
  have h' := ok_last.1 h
  obtain ⟨a, b, c, e, f, g⟩ := h
  have := dim_bd y m
  unfold day_From.f
  rw [if_neg (by omega), last_ev y m k hk]
  simp only [Option.bind_some]
  rw [if_neg (by omega), number_ok y m d (by omega) (by omega) (by omega) (by omega) (by omega) (by omega)]
  rfl
theorem from_no {y m d : Int} (h : ¬ ok y m d) (k : Nat) (hk : 2 ≤ k) : day_From.f k y m d = some (0, 5) := by
  have h' := mt ok_last.2 h
  unfold day_From.f
  by_cases c : d < 1
  · rw [if_pos c]
  · rw [if_neg c, last_ev y m k hk]
    simp only [Option.bind_some]
    rw [if_pos (by omega)]

/-- The months' loop, from a month that isn't beyond the number's. -/
theorem months (y n : Int) (d : Nat) : ∀ (k : Nat) (m : Int), 1 ≤ y → y ≤ 9999 → 1 ≤ m → m ≤ 12 → (12 - m).toNat = d → d < k → num y m 1 ≤ n → (y < 9999 → n < yd (y + 1)) → n ≤ 3652059 →
    ∃ m' d', ok y m' d' ∧ num y m' d' = n ∧ day_To.l1 k n y m 1 = some (y, m', d', 0) := by
  induction d with
  | zero =>
    intro k m h1 h2 h3 h4 hd hk h5 h6 h7
    obtain ⟨k, rfl⟩ : ∃ j, k = j + 1 := ⟨k - 1, by omega⟩
    have hm : m = 12 := by omega
    subst hm
    have s := mo_succ y 12 (by omega) (by omega)
    have b := mo_13 y
    have u := yd_succ y
    have hb := dim_bd y 12
    have hn : n < yd (y + 1) := by
      by_cases c : y < 9999
      · exact h6 c
      · have : y = 9999 := by omega
        subst this
        show n < yd 10000
        rw [yd_top]
        omega
    rw [show (12 : Int) + 1 = 13 by rfl] at s
    have hnum : num y 12 1 = yd y + mo y 12 := by unfold num; omega
    refine ⟨12, 1 + (n - num y 12 1), ⟨h1, h2, by omega, by omega, by omega, by omega⟩, by rw [num_day]; omega, ?_⟩
    simp only [day_To.l1]
    rw [if_neg (by omega), number_ok y 12 1 (by omega) (by omega) (by omega) (by omega) (by omega) (by omega)]
    simp only [Option.bind_some]
    have hr := yd_mono (a := y + 1) (b := 10000) (by omega)
    rw [yd_top] at hr
    rw [w64 (n := n - num y 12 1) (by omega) (by omega), w64 (by omega) (by omega)]
  | succ d ih =>
    intro k m h1 h2 h3 h4 hd hk h5 h6 h7
    obtain ⟨k, rfl⟩ : ∃ j, k = j + 1 := ⟨k - 1, by omega⟩
    have s := mo_succ y m (by omega) (by omega)
    have hb := dim_bd y m
    simp only [day_To.l1]
    rw [if_pos (by omega), w64 (n := m + 1) (by omega) (by omega), number_ok y (m + 1) 1 (by omega) (by omega) (by omega) (by omega) (by omega) (by omega)]
    simp only [Option.bind_some]
    by_cases c : num y (m + 1) 1 ≤ n
    · rw [if_pos c]
      exact ih k (m + 1) h1 h2 (by omega) (by omega) (by omega) (by omega) c h6 h7
    · rw [if_neg c, number_ok y m 1 (by omega) (by omega) (by omega) (by omega) (by omega) (by omega)]
      simp only [Option.bind_some]
      have e1 : num y (m + 1) 1 = num y m 1 + dim y m := by unfold num; omega
      refine ⟨m, 1 + (n - num y m 1), ⟨h1, h2, h3, h4, by omega, by omega⟩, by rw [num_day]; omega, ?_⟩
      rw [w64 (n := n - num y m 1) (by omega) (by omega), w64 (by omega) (by omega)]

/-- The years' loop. -/
theorem years (n : Int) (d : Nat) : ∀ (k : Nat) (y : Int), 1 ≤ y → y ≤ 9999 → (9999 - y).toNat = d → d + 14 < k → yd y ≤ n → n ≤ 3652059 →
    ∃ y' m' d', ok y' m' d' ∧ num y' m' d' = n ∧ day_To.l0 k n y 1 1 = some (y', m', d', 0) := by
  have fin : ∀ (k : Nat) (y : Int), 14 ≤ k → 1 ≤ y → y ≤ 9999 → yd y ≤ n → n ≤ 3652059 → (y < 9999 → n < yd (y + 1)) → ∃ y' m' d', ok y' m' d' ∧ num y' m' d' = n ∧ day_To.j2 k n y 1 1 = some (y', m', d', 0) := by
    intro k y hk h1 h2 h3 h4 h5
    obtain ⟨k, rfl⟩ : ∃ j, k = j + 1 := ⟨k - 1, by omega⟩
    obtain ⟨m', d', a, b, c⟩ := months y n 11 k 1 h1 h2 (by omega) (by omega) (by omega) (by omega) (by rw [num_one]; exact h3) h5 h4
    exact ⟨y, m', d', a, b, by simp only [day_To.j2]; exact c⟩
  induction d with
  | zero =>
    intro k y h1 h2 hd hk h3 h4
    obtain ⟨k, rfl⟩ : ∃ j, k = j + 1 := ⟨k - 1, by omega⟩
    simp only [day_To.l0]
    rw [if_neg (by omega)]
    exact fin k y (by omega) h1 h2 h3 h4 (fun h => by omega)
  | succ d ih =>
    intro k y h1 h2 hd hk h3 h4
    obtain ⟨k, rfl⟩ : ∃ j, k = j + 1 := ⟨k - 1, by omega⟩
    simp only [day_To.l0]
    rw [if_pos (by omega), w64 (n := y + 1) (by omega) (by omega), number_ok (y + 1) 1 1 (by omega) (by omega) (by omega) (by omega) (by omega) (by omega)]
    simp only [Option.bind_some]
    rw [num_one]
    by_cases c : yd (y + 1) ≤ n
    · rw [if_pos c]
      exact ih k (y + 1) (by omega) (by omega) (by omega) (by omega) c h4
    · rw [if_neg c]
      exact fin k y (by omega) h1 h2 h3 h4 (fun _ => by omega)

theorem to_ok {n : Int} (h1 : 1 ≤ n) (h2 : n ≤ 3652059) : ∃ y m d, ok y m d ∧ num y m d = n ∧ ∀ k, 20000 ≤ k → day_To.f k n = some (y, m, d, 0) := by
  have hy : 1 ≤ mx 1 (n / 366) ∧ mx 1 (n / 366) ≤ 9999 ∧ yd (mx 1 (n / 366)) ≤ n := by
    unfold mx yd
    split <;> omega
  obtain ⟨a, b, c⟩ := hy
  have hk : ∀ k, 19000 ≤ k → ∃ y' m' d', ok y' m' d' ∧ num y' m' d' = n ∧ day_To.l0 k n (mx 1 (n / 366)) 1 1 = some (y', m', d', 0) := by
    intro k hk
    exact years n _ k _ a b rfl (by omega) c h2
  obtain ⟨y, m, d, o, e, _⟩ := hk 19000 (Nat.le_refl _)
  refine ⟨y, m, d, o, e, fun k hkk => ?_⟩
  obtain ⟨k, rfl⟩ : ∃ j, k = j + 1 := ⟨k - 1, by omega⟩
  obtain ⟨y', m', d', o', e', f'⟩ := hk k (by omega)
  obtain ⟨rfl, rfl, rfl⟩ := num_inj o o' (by omega)
  unfold day_To.f
  rw [if_neg (by omega), decide_eq_false (by omega)]
  simp only [day_To.j0, Bool.false_eq_true, if_false]
  rw [td_nn (by omega), w64 (n := n / 366) (by omega) (by omega)]
  exact f'
theorem to_no {n : Int} (h : n < 1 ∨ 3652059 < n) (k : Nat) (hk : 1 ≤ k) : day_To.f k n = some (0, 0, 0, 5) := by
  obtain ⟨k, rfl⟩ : ∃ j, k = j + 1 := ⟨k - 1, by omega⟩
  have t : day_To.j0 (k + 1) n true = some (0, 0, 0, 5) := by simp only [day_To.j0, if_true]
  unfold day_To.f
  by_cases c : n < 1
  · rw [if_pos c, t]
  · rw [if_neg c, decide_eq_true (by omega), t]
/-- The date of a date's number. -/
theorem to_num {y m d : Int} (h : ok y m d) (k : Nat) (hk : 20000 ≤ k) : day_To.f k (num y m d) = some (y, m, d, 0) := by
  have r := num_range h
  obtain ⟨y', m', d', o, e, f⟩ := to_ok r.1 r.2
  obtain ⟨rfl, rfl, rfl⟩ := num_inj h o e.symm
  exact f k hk

theorem weekday (n : Int) : day_Weekday.f n = some ((n + 6) % 7) := by
  unfold day_Weekday.f
  rw [tm_eq (a := n)]
  congr 1
  split
  · rw [w64 (by omega) (by omega), tm_nn (by omega)]
    omega
  · rw [w64 (by omega) (by omega), tm_nn (by omega)]
    omega
end Go.Proofs.Ytdfaedikjfbbjaa.DayPure
