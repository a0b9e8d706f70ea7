/-
  The calendar in plain numbers: leap years, months' lengths, a date's number and back.
  Conditions: none; no program in sight.
-/
namespace Go.Proofs.Ytdfaedikjfbbjaa.Cal
set_option linter.unusedVariables false
set_option linter.unusedSimpArgs false

/-- 1 in a leap year, else 0. -/
def lp (y : Int) : Int := if y % 4 = 0 ∧ (y % 100 ≠ 0 ∨ y % 400 = 0) then 1 else 0
theorem lp_01 (y : Int) : 0 ≤ lp y ∧ lp y ≤ 1 := by unfold lp; split <;> omega
/-- How many days a month has. -/
def dim (y m : Int) : Int := if m = 4 ∨ m = 6 ∨ m = 9 ∨ m = 11 then 30 else if m = 2 then 28 + lp y else 31
theorem dim_bd (y m : Int) : 28 ≤ dim y m ∧ dim y m ≤ 31 := by
  have := lp_01 y
  unfold dim; split
  · omega
  · split <;> omega
/-- The number of a year's first day. -/
def yd (y : Int) : Int := 365 * (y - 1) + (y - 1) / 4 - (y - 1) / 100 + (y - 1) / 400 + 1
/-- How many days of a year lie ahead of a month. -/
def mo (y m : Int) : Int := if m < 3 then 31 * (m - 1) else 59 + lp y + ((m - 3) * 153 + 2) / 5
/-- A date's number. -/
def num (y m d : Int) : Int := yd y + mo y m + d - 1

theorem lp_eq (y : Int) : y / 4 - (y - 1) / 4 - (y / 100 - (y - 1) / 100) + (y / 400 - (y - 1) / 400) = lp y := by
  unfold lp; split <;> omega
theorem yd_succ (y : Int) : yd (y + 1) = yd y + 365 + lp y := by
  have := lp_eq y
  unfold yd
  rw [show y + 1 - 1 = y by omega]
  omega
theorem yd_mono {a b : Int} (h : a ≤ b) : yd a ≤ yd b := by unfold yd; omega
theorem yd_lt {a b : Int} (h : a < b) : yd a + 365 ≤ yd b := by unfold yd; omega
theorem mo_one (y : Int) : mo y 1 = 0 := by unfold mo; simp
theorem mo_13 (y : Int) : mo y 13 = 365 + lp y := by unfold mo; simp; omega
theorem mo_succ (y m : Int) (h1 : 1 ≤ m) (h2 : m ≤ 12) : mo y (m + 1) = mo y m + dim y m := by
  have : m = 1 ∨ m = 2 ∨ m = 3 ∨ m = 4 ∨ m = 5 ∨ m = 6 ∨ m = 7 ∨ m = 8 ∨ m = 9 ∨ m = 10 ∨ m = 11 ∨ m = 12 := by omega
  rcases this with h | h | h | h | h | h | h | h | h | h | h | h <;> subst h <;> simp [mo, dim] <;> omega
theorem mo_le (y : Int) {a b : Int} (h0 : 1 ≤ a) (h : a ≤ b) (h2 : b ≤ 13) : mo y a ≤ mo y b := by
  have := lp_01 y
  unfold mo; split <;> split <;> omega
theorem mo_lt (y : Int) {a b : Int} (h0 : 1 ≤ a) (h : a < b) (h2 : b ≤ 13) : mo y a + dim y a ≤ mo y b := by
  have h1 := mo_succ y a h0 (by omega)
  have h3 := mo_le y (a := a + 1) (b := b) (by omega) (by omega) h2
  omega
theorem num_one (y : Int) : num y 1 1 = yd y := by unfold num; rw [mo_one]; omega
theorem num_day (y m d e : Int) : num y m (d + e) = num y m d + e := by unfold num; omega

/-- Dates that are. -/
def ok (y m d : Int) : Prop := 1 ≤ y ∧ y ≤ 9999 ∧ 1 ≤ m ∧ m ≤ 12 ∧ 1 ≤ d ∧ d ≤ dim y m
instance (y m d : Int) : Decidable (ok y m d) := by unfold ok; infer_instance

theorem num_in_year {y m d : Int} (h : ok y m d) : yd y ≤ num y m d ∧ num y m d < yd (y + 1) := by
  obtain ⟨_, _, h1, h2, h3, h4⟩ := h
  have a := mo_le y (a := 1) (b := m) (by omega) h1 (by omega)
  have b := mo_lt y (a := m) (b := 13) h1 (by omega) (by omega)
  have c := yd_succ y
  rw [mo_one] at a
  rw [mo_13] at b
  unfold num
  omega
theorem yd_one : yd 1 = 1 := by decide
theorem yd_top : yd 10000 = 3652060 := by decide
theorem num_range {y m d : Int} (h : ok y m d) : 1 ≤ num y m d ∧ num y m d ≤ 3652059 := by
  have a := num_in_year h
  obtain ⟨h1, h2, _⟩ := h
  have b := yd_mono (a := 1) (b := y) h1
  have c := yd_mono (a := y + 1) (b := 10000) (by omega)
  rw [yd_one] at b
  rw [yd_top] at c
  omega
theorem year_le {y m d y' m' d' : Int} (h : ok y m d) (h' : ok y' m' d') (hn : num y m d ≤ num y' m' d') : y ≤ y' := by
  have a := num_in_year h
  have b := num_in_year h'
  by_cases hc : y' + 1 ≤ y
  · have := yd_mono hc
    omega
  · omega
theorem num_year_lt {y m d y' m' d' : Int} (h : ok y m d) (h' : ok y' m' d') (hy : y < y') : num y m d < num y' m' d' := by
  have a := num_in_year h
  have b := num_in_year h'
  have := yd_mono (a := y + 1) (b := y') (by omega)
  omega
theorem num_month_lt {y m d m' d' : Int} (h : ok y m d) (h' : ok y m' d') (hm : m < m') : num y m d < num y m' d' := by
  obtain ⟨_, _, h1, h2, h3, h4⟩ := h
  obtain ⟨_, _, g1, g2, g3, g4⟩ := h'
  have b := mo_lt y (a := m) (b := m') h1 (by omega) (by omega)
  unfold num
  omega
/-- The order of dates is that of their numbers. -/
theorem num_lt_iff {y m d y' m' d' : Int} (h : ok y m d) (h' : ok y' m' d') :
    num y m d < num y' m' d' ↔ (y < y' ∨ y = y' ∧ (m < m' ∨ m = m' ∧ d < d')) := by
  constructor
  · intro hn
    by_cases c1 : y < y'
    · exact .inl c1
    · by_cases c2 : y' < y
      · have := num_year_lt h' h c2
        omega
      · have e : y = y' := by omega
        subst e
        refine .inr ⟨rfl, ?_⟩
        by_cases c3 : m < m'
        · exact .inl c3
        · by_cases c4 : m' < m
          · have := num_month_lt h' h c4
            omega
          · have e : m = m' := by omega
            subst e
            unfold num at hn
            exact .inr ⟨rfl, by omega⟩
  · rintro (c | ⟨rfl, c | ⟨rfl, c⟩⟩)
    · exact num_year_lt h h' c
    · exact num_month_lt h h' c
    · unfold num
      omega
theorem num_inj {y m d y' m' d' : Int} (h : ok y m d) (h' : ok y' m' d') (e : num y m d = num y' m' d') : y = y' ∧ m = m' ∧ d = d' := by
  have a := mt (num_lt_iff h h').2 (by omega)
  have b := mt (num_lt_iff h' h).2 (by omega)
  omega

/-- The next day. -/
theorem next_in {y m d : Int} (h : ok y m d) (hd : d + 1 ≤ dim y m) : ok y m (d + 1) ∧ num y m (d + 1) = num y m d + 1 := by
  obtain ⟨a, b, c, e, f, g⟩ := h
  exact ⟨⟨a, b, c, e, by omega, hd⟩, num_day y m d 1⟩
theorem next_month {y m d : Int} (h : ok y m d) (hd : d = dim y m) (hm : m < 12) : ok y (m + 1) 1 ∧ num y (m + 1) 1 = num y m d + 1 := by
  obtain ⟨a, b, c, e, f, g⟩ := h
  have := dim_bd y (m + 1)
  have := mo_succ y m c e
  refine ⟨⟨a, b, by omega, by omega, by omega, by omega⟩, ?_⟩
  unfold num
  omega
theorem next_year {y m d : Int} (h : ok y m d) (hd : d = dim y m) (hm : m = 12) (hy : y < 9999) : ok (y + 1) 1 1 ∧ num (y + 1) 1 1 = num y m d + 1 := by
  obtain ⟨a, b, c, e, f, g⟩ := h
  subst hm
  have := dim_bd (y + 1) 1
  have h1 := mo_succ y 12 c e
  have h2 := yd_succ y
  have h3 := mo_13 y
  refine ⟨⟨by omega, by omega, by omega, by omega, by omega, by omega⟩, ?_⟩
  rw [num_one]
  unfold num
  rw [show (12 : Int) + 1 = 13 by rfl] at h1
  omega

/-- Each number within bounds has a date. -/
theorem month_of (y r : Int) (h0 : 0 ≤ r) (h1 : r < 365 + lp y) : ∃ m, 1 ≤ m ∧ m ≤ 12 ∧ mo y m ≤ r ∧ r < mo y m + dim y m := by
  have l := lp_01 y
  have hm : ∀ n : Nat, n ≤ 12 → r < mo y (n + 1) → ∃ m, 1 ≤ m ∧ m ≤ 12 ∧ mo y m ≤ r ∧ r < mo y m + dim y m := by
    intro n
    induction n with
    | zero => intro _ h; rw [show ((0 : Nat) : Int) + 1 = 1 by rfl, mo_one] at h; omega
    | succ n ih =>
      intro hn h
      by_cases c : r < mo y (n + 1)
      · exact ih (by omega) c
      · refine ⟨n + 1, by omega, by omega, by omega, ?_⟩
        have := mo_succ y (n + 1) (by omega) (by omega)
        push_cast at h
        omega
  exact hm 12 (Nat.le_refl _) (by show r < mo y 13; rw [mo_13]; omega)
theorem date_of (n : Int) (h1 : 1 ≤ n) (h2 : n ≤ 3652059) : ∃ y m d, ok y m d ∧ num y m d = n := by
  have hy : ∀ k : Nat, k ≤ 9999 → n < yd (k + 1) → ∃ y, 1 ≤ y ∧ y ≤ 9999 ∧ yd y ≤ n ∧ n < yd (y + 1) := by
    intro k
    induction k with
    | zero => intro _ h; rw [show ((0 : Nat) : Int) + 1 = 1 by rfl, yd_one] at h; omega
    | succ k ih =>
      intro hk h
      by_cases c : n < yd (k + 1)
      · exact ih (by omega) c
      · exact ⟨k + 1, by omega, by omega, by omega, by push_cast at h; exact h⟩
  obtain ⟨y, a, b, c, e⟩ := hy 9999 (Nat.le_refl _) (by show n < yd 10000; rw [yd_top]; omega)
  have s := yd_succ y
  obtain ⟨m, m1, m2, m3, m4⟩ := month_of y (n - yd y) (by omega) (by omega)
  refine ⟨y, m, n - yd y - mo y m + 1, ⟨a, b, m1, m2, by omega, by omega⟩, ?_⟩
  unfold num
  omega
end Go.Proofs.Ytdfaedikjfbbjaa.Cal
